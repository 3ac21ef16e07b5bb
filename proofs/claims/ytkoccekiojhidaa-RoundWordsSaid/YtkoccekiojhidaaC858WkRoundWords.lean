import Derived.Test.YtkoccekiojhidaaC858JG3
import Derived.Test.YtkoccekiojhidaaC858G9
namespace Go.Proofs.Ytkoccekiojhidaa
open Go.AVL Go.RowKit Go.Proofs.Ytkoccekiojhidaa.F Go.Proofs.YtkoccekiojhidaaX Go.Proofs.YtkoccekiojhidaaW.PrintWords Go.Proofs.YtkoccekiojhidaaW.PrintLast Go.Proofs.YtkoccekiojhidaaW.PrintMore
set_option linter.unusedVariables false
set_option maxRecDepth 100000
theorem F.chattellaw06_RoundWords.walk (P:chattellaw06_RoundWords.Pure) (a0:ByteArray) (a1:Int) (w:World) (w0:a0.size≤140737488351232) (w1:(Lit.int .i64 a1).wf=true) :
    Calls Try.prog 9 #[.string a0, .int .i64 a1] w fun e w'=>e = .returned (.bool true)∧Below w.heap.size w w':=by
  obtain ⟨k,h⟩:=P a0 a1 w0 w1
  exact calls_true fn9 (chattellaw06_RoundWords.cs h) (.cons (.str _) (.cons (.int _ _) .nil))
end Go.Proofs.Ytkoccekiojhidaa
