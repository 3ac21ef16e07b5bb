import Derived.Test.YtiikhhemgplocaaCff1JG3
namespace Go.Proofs.Ytiikhhemgplocaa
open Go.AVL Go.RowKit Go.Proofs.Ytiikhhemgplocaa.F Go.Proofs.YtiikhhemgplocaaX Go.Proofs.YtiikhhemgplocaaW.PrintWords Go.Proofs.YtiikhhemgplocaaW.PrintLast Go.Proofs.YtiikhhemgplocaaW.PrintMore
set_option linter.unusedVariables false
set_option maxRecDepth 100000
theorem F.chattellaw13_PowerPays.walk (P:chattellaw13_PowerPays.Pure) (a0:Int) (a1_0:Int) (a1_1:Int) (a2:Int) (w:World) (w0:(Lit.int .u32 a0).wf=true) (w1_0:(Lit.int .u16 a1_0).wf=true) (w1_1:(Lit.int .u16 a1_1).wf=true) (w2:(Lit.int .u8 a2).wf=true) :
    Calls Try.prog 7 #[.int .u32 a0, .agg #[.int .u16 a1_0, .int .u16 a1_1], .int .u8 a2] w fun e w'=>e = .returned (.bool true)∧Below w.heap.size w w':=by
  obtain ⟨k,h⟩:=P a0 a1_0 a1_1 a2 w0 w1_0 w1_1 w2
  exact calls_true fn7 (chattellaw13_PowerPays.cs h) (.cons (.int _ _) (.cons (VRs.agg (.cons (.int _ _) rfl (.cons (.int _ _) rfl .nil))) (.cons (.int _ _) .nil)))
end Go.Proofs.Ytiikhhemgplocaa
