import Derived.Test.YtelfpflfikaloaaC591JG3
namespace Go.Proofs.Ytelfpflfikaloaa
open Go.AVL Go.RowKit Go.Proofs.Ytelfpflfikaloaa.F Go.Proofs.YtelfpflfikaloaaX Go.Proofs.YtelfpflfikaloaaW.PrintWords Go.Proofs.YtelfpflfikaloaaW.PrintLast Go.Proofs.YtelfpflfikaloaaW.PrintMore
set_option linter.unusedVariables false
set_option maxRecDepth 100000
theorem F.chattellaw11_CountWords.walk (P:chattellaw11_CountWords.Pure) (a0:ByteArray) (a1:Int) (w:World) (w0:a0.size≤140737488351232) (w1:(Lit.int .i64 a1).wf=true) :
    Calls Try.prog 3 #[.string a0, .int .i64 a1] w fun e w'=>e = .returned (.bool true)∧Below w.heap.size w w':=by
  obtain ⟨k,h⟩:=P a0 a1 w0 w1
  exact calls_true fn3 (chattellaw11_CountWords.cs h) (.cons (.str _) (.cons (.int _ _) .nil))
end Go.Proofs.Ytelfpflfikaloaa
