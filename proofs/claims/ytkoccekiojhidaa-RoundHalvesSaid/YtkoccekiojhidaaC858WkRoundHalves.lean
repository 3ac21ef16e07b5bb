import Derived.Test.YtkoccekiojhidaaC858JG5
import Derived.Test.YtkoccekiojhidaaC858JG3
namespace Go.Proofs.Ytkoccekiojhidaa
open Go.AVL Go.RowKit Go.Proofs.Ytkoccekiojhidaa.F Go.Proofs.YtkoccekiojhidaaX Go.Proofs.YtkoccekiojhidaaW.PrintWords Go.Proofs.YtkoccekiojhidaaW.PrintLast Go.Proofs.YtkoccekiojhidaaW.PrintMore
set_option linter.unusedVariables false
set_option maxRecDepth 100000
theorem F.chattellaw06_RoundHalves.walk (P:chattellaw06_RoundHalves.Pure) (a0:Option Addr) (len0 cap0:Nat) (z0:List Int) (a1:Option Addr) (len1 cap1:Nat) (z1:List Int) (a2:Bool) (w:World) (w0:(a0=none∧len0=0∧cap0=0∧z0 = [])∨∃ x,a0=some x∧len0≤cap0∧cap0≤maxLen∧z0.length=cap0∧(∀ i,i < z0.length→w.cell? (x.add i)=some (.int .u64 (z0.getD i 0)))∧∀ n ∈ z0,(Lit.int .u64 n).wf=true) (y0:len0 * 8≤140737488351232) (w1:(a1=none∧len1=0∧cap1=0∧z1 = [])∨∃ x,a1=some x∧len1≤cap1∧cap1≤maxLen∧z1.length=cap1∧(∀ i,i < z1.length→w.cell? (x.add i)=some (.int .u64 (z1.getD i 0)))∧∀ n ∈ z1,(Lit.int .u64 n).wf=true) (y1:len1 * 8≤140737488351232) :
    Calls Try.prog 10 #[.slice a0 len0 cap0, .slice a1 len1 cap1, .bool a2] w fun e w'=>e = .returned (.bool true)∧Below w.heap.size w w':=by
  obtain ⟨l0,rfl,hr0,hm0,hw0,hc0⟩:=ReadsInt.ofRowC w0
  obtain ⟨l1,rfl,hr1,hm1,hw1,hc1⟩:=ReadsInt.ofRowC w1
  obtain ⟨k,h⟩:=P l0 l1 a2 hm0 y0 hw0 hm1 y1 hw1
  exact calls_true fn10 (chattellaw06_RoundHalves.cs h) (.cons (vr_reads hr0 hc0) (.cons (vr_reads hr1 hc1) (.cons (.bool _) .nil)))
end Go.Proofs.Ytkoccekiojhidaa
