import Derived.Test.YtelfpflfikaloaaC70eJG5
import Derived.Test.YtelfpflfikaloaaC70eJG3
namespace Go.Proofs.Ytelfpflfikaloaa
open Go.AVL Go.RowKit Go.Proofs.Ytelfpflfikaloaa.F Go.Proofs.YtelfpflfikaloaaX Go.Proofs.YtelfpflfikaloaaW.PrintWords Go.Proofs.YtelfpflfikaloaaW.PrintLast Go.Proofs.YtelfpflfikaloaaW.PrintMore
set_option linter.unusedVariables false
set_option maxRecDepth 100000
theorem F.chattellaw11_CountYears.walk (P:chattellaw11_CountYears.Pure) (a0_0:Int) (a0_1:Int) (a0_2:Int) (a1:Int) (w:World) (w0_0:(Lit.int .i64 a0_0).wf=true) (w0_1:(Lit.int .i64 a0_1).wf=true) (w0_2:(Lit.int .i64 a0_2).wf=true) (w1:(Lit.int .u8 a1).wf=true) :
    Calls Try.prog 5 #[.agg #[.int .i64 a0_0, .int .i64 a0_1, .int .i64 a0_2], .int .u8 a1] w fun e w'=>e = .returned (.bool true)∧Below w.heap.size w w':=by
  obtain ⟨k,h⟩:=P a0_0 a0_1 a0_2 a1 w0_0 w0_1 w0_2 w1
  exact calls_true fn5 (chattellaw11_CountYears.cs h) (.cons (VRs.agg (.cons (.int _ _) rfl (.cons (.int _ _) rfl (.cons (.int _ _) rfl .nil)))) (.cons (.int _ _) .nil))
end Go.Proofs.Ytelfpflfikaloaa
