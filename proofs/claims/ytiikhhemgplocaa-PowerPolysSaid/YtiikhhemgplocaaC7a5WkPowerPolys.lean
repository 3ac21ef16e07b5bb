import Derived.Test.YtiikhhemgplocaaC7a5JG4
namespace Go.Proofs.Ytiikhhemgplocaa
open Go.AVL Go.RowKit Go.Proofs.Ytiikhhemgplocaa.F Go.Proofs.YtiikhhemgplocaaX Go.Proofs.YtiikhhemgplocaaW.PrintWords Go.Proofs.YtiikhhemgplocaaW.PrintLast Go.Proofs.YtiikhhemgplocaaW.PrintMore
set_option linter.unusedVariables false
set_option maxRecDepth 100000
theorem F.chattellaw13_PowerPolys.walk (P:chattellaw13_PowerPolys.Pure) (a0_0:Int) (a0_1:Int) (a1:Option Addr) (len1 cap1:Nat) (z1:List Int) (w:World) (w0_0:(Lit.int .i16 a0_0).wf=true) (w0_1:(Lit.int .i16 a0_1).wf=true) (w1:(a1=none∧len1=0∧cap1=0∧z1 = [])∨∃ x,a1=some x∧len1≤cap1∧cap1≤maxLen∧z1.length=cap1∧(∀ i,i < z1.length→w.cell? (x.add i)=some (.int .i16 (z1.getD i 0)))∧∀ n ∈ z1,(Lit.int .i16 n).wf=true) (y1:len1 * 2≤140737488351232) :
    Calls Try.prog 5 #[.agg #[.int .i16 a0_0, .int .i16 a0_1], .slice a1 len1 cap1] w fun e w'=>e = .returned (.bool true)∧Below w.heap.size w w':=by
  obtain ⟨l1,rfl,hr1,hm1,hw1,hc1⟩:=ReadsInt.ofRowC w1
  obtain ⟨k,h⟩:=P a0_0 a0_1 l1 w0_0 w0_1 hm1 y1 hw1
  exact calls_true fn5 (chattellaw13_PowerPolys.cs h) (.cons (VRs.agg (.cons (.int _ _) rfl (.cons (.int _ _) rfl .nil))) (.cons (vr_reads hr1 hc1) .nil))
end Go.Proofs.Ytiikhhemgplocaa
