import Derived.Test.YtiikhhemgplocaaCf3dJG4
namespace Go.Proofs.Ytiikhhemgplocaa
open Go.AVL Go.RowKit Go.Proofs.Ytiikhhemgplocaa.F Go.Proofs.YtiikhhemgplocaaX Go.Proofs.YtiikhhemgplocaaW.PrintWords Go.Proofs.YtiikhhemgplocaaW.PrintLast Go.Proofs.YtiikhhemgplocaaW.PrintMore
set_option linter.unusedVariables false
set_option maxRecDepth 100000
theorem F.chattellaw13_PowerTells.walk (P:chattellaw13_PowerTells.Pure) (a0:Int) (a1:Int) (a2:Int) (w:World) (w0:(Lit.int .i32 a0).wf=true) (w1:(Lit.int .i32 a1).wf=true) (w2:(Lit.int .i64 a2).wf=true) :
    Calls Try.prog 3 #[.int .i32 a0, .int .i32 a1, .int .i64 a2] w fun e w'=>e = .returned (.bool true)∧Below w.heap.size w w':=by
  obtain ⟨k,h⟩:=P a0 a1 a2 w0 w1 w2
  exact calls_true fn3 (chattellaw13_PowerTells.cs h) (.cons (.int _ _) (.cons (.int _ _) (.cons (.int _ _) .nil)))
end Go.Proofs.Ytiikhhemgplocaa
