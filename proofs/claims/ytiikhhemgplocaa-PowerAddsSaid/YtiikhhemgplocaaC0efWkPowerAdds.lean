import Derived.Test.YtiikhhemgplocaaC0efJM5
import Derived.Test.YtiikhhemgplocaaC0efJG4
namespace Go.Proofs.Ytiikhhemgplocaa
open Go.AVL Go.RowKit Go.Proofs.Ytiikhhemgplocaa.F Go.Proofs.YtiikhhemgplocaaX Go.Proofs.YtiikhhemgplocaaW.PrintWords Go.Proofs.YtiikhhemgplocaaW.PrintLast Go.Proofs.YtiikhhemgplocaaW.PrintMore
set_option linter.unusedVariables false
set_option maxRecDepth 100000
theorem F.chattellaw13_PowerAdds.walk (a p b q n m:Int) (w:World) (wa:(Lit.int .i16 a).wf=true) (wp:(Lit.int .i16 p).wf=true) (wb:(Lit.int .i16 b).wf=true) (wq:(Lit.int .i16 q).wf=true) (wn:(Lit.int .u8 n).wf=true) (wm:(Lit.int .u8 m).wf=true) :
    Calls Try.prog 6 #[.agg #[.int .i16 a, .int .i16 p, .int .i16 b, .int .i16 q, .int .u8 n, .int .u8 m]] w fun e w'=>e = .returned (.bool true)∧Below w.heap.size w w':=by
  obtain ⟨k,h⟩:=Pure.PowerAdds a p b q n m wa wp wb wq wn wm
  exact calls_true fn6 (chattellaw13_PowerAdds.cs h) (.cons (VRs.agg (.cons (.int _ _) rfl (.cons (.int _ _) rfl (.cons (.int _ _) rfl (.cons (.int _ _) rfl (.cons (.int _ _) rfl (.cons (.int _ _) rfl .nil))))))) .nil)
end Go.Proofs.Ytiikhhemgplocaa
