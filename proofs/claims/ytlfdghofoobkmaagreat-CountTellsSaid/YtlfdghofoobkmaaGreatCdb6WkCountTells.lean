import Derived.Test.YtlfdghofoobkmaaGreatCdb6JG4
namespace Go.Proofs.YtlfdghofoobkmaaGreat
open Go.AVL Go.RowKit Go.Proofs.YtlfdghofoobkmaaGreat.F Go.Proofs.YtlfdghofoobkmaaGreatX Go.Proofs.YtlfdghofoobkmaaGreatW.PrintWords Go.Proofs.YtlfdghofoobkmaaGreatW.PrintLast Go.Proofs.YtlfdghofoobkmaaGreatW.PrintMore
set_option linter.unusedVariables false
set_option maxRecDepth 100000
theorem F.chattellaw11_CountTells.walk (P:chattellaw11_CountTells.Pure) (a0_0:Int) (a0_1:Int) (a0_2:Int) (a1_0:Int) (a1_1:Int) (a1_2:Int) (a2:Int) (w:World) (w0_0:(Lit.int .i64 a0_0).wf=true) (w0_1:(Lit.int .i64 a0_1).wf=true) (w0_2:(Lit.int .i64 a0_2).wf=true) (w1_0:(Lit.int .i64 a1_0).wf=true) (w1_1:(Lit.int .i64 a1_1).wf=true) (w1_2:(Lit.int .i64 a1_2).wf=true) (w2:(Lit.int .i64 a2).wf=true) :
    Calls Tryz.prog 3 #[.agg #[.int .i64 a0_0, .int .i64 a0_1, .int .i64 a0_2], .agg #[.int .i64 a1_0, .int .i64 a1_1, .int .i64 a1_2], .int .i64 a2] w fun e w'=>e = .returned (.bool true)∧Below w.heap.size w w':=by
  obtain ⟨k,h⟩:=P a0_0 a0_1 a0_2 a1_0 a1_1 a1_2 a2 w0_0 w0_1 w0_2 w1_0 w1_1 w1_2 w2
  exact calls_true fn3 (chattellaw11_CountTells.cs h) (.cons (VRs.agg (.cons (.int _ _) rfl (.cons (.int _ _) rfl (.cons (.int _ _) rfl .nil)))) (.cons (VRs.agg (.cons (.int _ _) rfl (.cons (.int _ _) rfl (.cons (.int _ _) rfl .nil)))) (.cons (.int _ _) .nil)))
end Go.Proofs.YtlfdghofoobkmaaGreat
