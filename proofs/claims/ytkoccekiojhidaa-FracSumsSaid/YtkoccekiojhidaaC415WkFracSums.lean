import Derived.Test.YtkoccekiojhidaaC415JG5
import Derived.Test.YtkoccekiojhidaaC415JG3
namespace Go.Proofs.Ytkoccekiojhidaa
open Go.AVL Go.RowKit Go.Proofs.Ytkoccekiojhidaa.F Go.Proofs.YtkoccekiojhidaaX Go.Proofs.YtkoccekiojhidaaW.PrintWords Go.Proofs.YtkoccekiojhidaaW.PrintLast Go.Proofs.YtkoccekiojhidaaW.PrintMore
set_option linter.unusedVariables false
set_option maxRecDepth 100000
theorem F.chattellaw05_FracSums.walk (P:chattellaw05_FracSums.Pure) (a0_0:Option Addr) (len0_0 cap0_0:Nat) (z0_0:List Int) (a0_1:Option Addr) (len0_1 cap0_1:Nat) (z0_1:List Int) (a0_2:Bool) (a1_0:Option Addr) (len1_0 cap1_0:Nat) (z1_0:List Int) (a1_1:Option Addr) (len1_1 cap1_1:Nat) (z1_1:List Int) (a1_2:Bool) (w:World) (w0_0:(a0_0=none∧len0_0=0∧cap0_0=0∧z0_0 = [])∨∃ x,a0_0=some x∧len0_0≤cap0_0∧cap0_0≤maxLen∧z0_0.length=cap0_0∧(∀ i,i < z0_0.length→w.cell? (x.add i)=some (.int .u64 (z0_0.getD i 0)))∧∀ n ∈ z0_0,(Lit.int .u64 n).wf=true) (y0_0:len0_0 * 8≤140737488351232) (w0_1:(a0_1=none∧len0_1=0∧cap0_1=0∧z0_1 = [])∨∃ x,a0_1=some x∧len0_1≤cap0_1∧cap0_1≤maxLen∧z0_1.length=cap0_1∧(∀ i,i < z0_1.length→w.cell? (x.add i)=some (.int .u64 (z0_1.getD i 0)))∧∀ n ∈ z0_1,(Lit.int .u64 n).wf=true) (y0_1:len0_1 * 8≤140737488351232) (w1_0:(a1_0=none∧len1_0=0∧cap1_0=0∧z1_0 = [])∨∃ x,a1_0=some x∧len1_0≤cap1_0∧cap1_0≤maxLen∧z1_0.length=cap1_0∧(∀ i,i < z1_0.length→w.cell? (x.add i)=some (.int .u64 (z1_0.getD i 0)))∧∀ n ∈ z1_0,(Lit.int .u64 n).wf=true) (y1_0:len1_0 * 8≤140737488351232) (w1_1:(a1_1=none∧len1_1=0∧cap1_1=0∧z1_1 = [])∨∃ x,a1_1=some x∧len1_1≤cap1_1∧cap1_1≤maxLen∧z1_1.length=cap1_1∧(∀ i,i < z1_1.length→w.cell? (x.add i)=some (.int .u64 (z1_1.getD i 0)))∧∀ n ∈ z1_1,(Lit.int .u64 n).wf=true) (y1_1:len1_1 * 8≤140737488351232) :
    Calls Try.prog 5 #[.agg #[.slice a0_0 len0_0 cap0_0, .slice a0_1 len0_1 cap0_1, .bool a0_2], .agg #[.slice a1_0 len1_0 cap1_0, .slice a1_1 len1_1 cap1_1, .bool a1_2]] w fun e w'=>e = .returned (.bool true)∧Below w.heap.size w w':=by
  obtain ⟨l0_0,rfl,hr0_0,hm0_0,hw0_0,hc0_0⟩:=ReadsInt.ofRowC w0_0
  obtain ⟨l0_1,rfl,hr0_1,hm0_1,hw0_1,hc0_1⟩:=ReadsInt.ofRowC w0_1
  obtain ⟨l1_0,rfl,hr1_0,hm1_0,hw1_0,hc1_0⟩:=ReadsInt.ofRowC w1_0
  obtain ⟨l1_1,rfl,hr1_1,hm1_1,hw1_1,hc1_1⟩:=ReadsInt.ofRowC w1_1
  obtain ⟨k,h⟩:=P l0_0 l0_1 a0_2 l1_0 l1_1 a1_2 hm0_0 y0_0 hw0_0 hm0_1 y0_1 hw0_1 hm1_0 y1_0 hw1_0 hm1_1 y1_1 hw1_1
  exact calls_true fn5 (chattellaw05_FracSums.cs h) (.cons (VRs.agg (.cons (vr_reads hr0_0 hc0_0) rfl (.cons (vr_reads hr0_1 hc0_1) rfl (.cons (.bool _) rfl .nil)))) (.cons (VRs.agg (.cons (vr_reads hr1_0 hc1_0) rfl (.cons (vr_reads hr1_1 hc1_1) rfl (.cons (.bool _) rfl .nil)))) .nil))
end Go.Proofs.Ytkoccekiojhidaa
