import Derived.Test.YtkoccekiojhidaaC456JG4
namespace Go.Proofs.Ytkoccekiojhidaa
open Go.AVL Go.RowKit Go.Proofs.Ytkoccekiojhidaa.F Go.Proofs.YtkoccekiojhidaaX Go.Proofs.YtkoccekiojhidaaW.PrintWords Go.Proofs.YtkoccekiojhidaaW.PrintLast Go.Proofs.YtkoccekiojhidaaW.PrintMore
set_option linter.unusedVariables false
set_option maxRecDepth 100000
theorem F.chattellaw06_RoundTells.walk (P:chattellaw06_RoundTells.Pure) (a0_0:Option Addr) (len0_0 cap0_0:Nat) (z0_0:List Int) (a0_1:Option Addr) (len0_1 cap0_1:Nat) (z0_1:List Int) (a0_2:Bool) (a1:Int) (a2:Int) (w:World) (w0_0:(a0_0=none∧len0_0=0∧cap0_0=0∧z0_0 = [])∨∃ x,a0_0=some x∧len0_0≤cap0_0∧cap0_0≤maxLen∧z0_0.length=cap0_0∧(∀ i,i < z0_0.length→w.cell? (x.add i)=some (.int .u64 (z0_0.getD i 0)))∧∀ n ∈ z0_0,(Lit.int .u64 n).wf=true) (y0_0:len0_0 * 8≤140737488351232) (w0_1:(a0_1=none∧len0_1=0∧cap0_1=0∧z0_1 = [])∨∃ x,a0_1=some x∧len0_1≤cap0_1∧cap0_1≤maxLen∧z0_1.length=cap0_1∧(∀ i,i < z0_1.length→w.cell? (x.add i)=some (.int .u64 (z0_1.getD i 0)))∧∀ n ∈ z0_1,(Lit.int .u64 n).wf=true) (y0_1:len0_1 * 8≤140737488351232) (w1:(Lit.int .i64 a1).wf=true) (w2:(Lit.int .i64 a2).wf=true) :
    Calls Try.prog 8 #[.agg #[.slice a0_0 len0_0 cap0_0, .slice a0_1 len0_1 cap0_1, .bool a0_2], .int .i64 a1, .int .i64 a2] w fun e w'=>e = .returned (.bool true)∧Below w.heap.size w w':=by
  obtain ⟨l0_0,rfl,hr0_0,hm0_0,hw0_0,hc0_0⟩:=ReadsInt.ofRowC w0_0
  obtain ⟨l0_1,rfl,hr0_1,hm0_1,hw0_1,hc0_1⟩:=ReadsInt.ofRowC w0_1
  obtain ⟨k,h⟩:=P l0_0 l0_1 a0_2 a1 a2 hm0_0 y0_0 hw0_0 hm0_1 y0_1 hw0_1 w1 w2
  exact calls_true fn8 (chattellaw06_RoundTells.cs h) (.cons (VRs.agg (.cons (vr_reads hr0_0 hc0_0) rfl (.cons (vr_reads hr0_1 hc0_1) rfl (.cons (.bool _) rfl .nil)))) (.cons (.int _ _) (.cons (.int _ _) .nil)))
end Go.Proofs.Ytkoccekiojhidaa
