import Derived.Test.YtkoccekiojhidaaC82bJM6
import Derived.Test.YtkoccekiojhidaaC82bD
namespace Go.Proofs.Ytkoccekiojhidaa.Pure
open Go.RowKit Go.Proofs.Ytkoccekiojhidaa.F Go.Proofs.YtkoccekiojhidaaW.PrintWords Go.Proofs.YtkoccekiojhidaaW.PrintLast Go.Proofs.YtkoccekiojhidaaM
set_option linter.unusedVariables false
theorem half_sign (q:Rat):rsg (q * (1 / 2))=rsg q:=by
  rw [rsg_mul,show rsg (1 / 2:Rat)=1 by decide +kernel,Int.mul_one]
theorem two_int:((2:Int):Rat)=2:=rfl
theorem len_two:(lim (2:Int).natAbs).length≤1:=lim_len_le (by decide)
theorem FracMiddle:chattellaw05_FracMiddle.Pure:=by
  intro l0 l1 b l2 l3 b' l4 l5 b'' _ _ w0 _ _ w1 _ _ w2 _ _ w3 _ _ w4 _ _ w5
  obtain ⟨x,hx,nx⟩:=num_ev b w0 w1
  obtain ⟨y,hy,ny⟩:=num_ev b' w2 w3
  obtain ⟨z,hz,nz⟩:=num_ev b'' w4 w5
  obtain ⟨a1,s1⟩:=fAdd hx hy (by decide) (by decide)
  have sz2:Sz 1 ((2:Int):Rat):=sz_int len_two (Nat.le_refl 1)
  obtain ⟨a2,s2⟩:=fQuo s1 sz2 (by decide) (by decide) (by rw [two_int];decide +kernel)
  have e1:x - (x + y) / ((2:Int):Rat)=(x - y) * (1 / 2):=by rw [two_int];grind
  have e2:(x + y) / ((2:Int):Rat) - y=(x - y) * (1 / 2):=by rw [two_int];grind
  have e3:x + z - (y + z)=x - y:=by grind
  have e4 : -x - -y = -(x - y):=by grind
  have c0:=fCmpS hx hy (by decide) (by decide)
  have c1:=fCmpS hx s2 (by decide) (by decide)
  have c2:=fCmpS s2 hy (by decide) (by decide)
  obtain ⟨a3,s3⟩:=fAdd hx hz (by decide) (by decide)
  obtain ⟨a4,s4⟩:=fAdd hy hz (by decide) (by decide)
  have c3:=fCmpS s3 s4 (by decide) (by decide)
  have c4:=fCmpS (sz_neg hx) (sz_neg hy) (by decide) (by decide)
  obtain ⟨a5,s5⟩:=fMul hx hx (by decide) (by decide)
  rw [e1,half_sign] at c1
  rw [e2,half_sign] at c2
  rw [e3] at c3
  rw [e4,rsg_neg] at c4
  have hb:=rsg_bound (x - y)
  have hw:wrap64 (-rsg (x - y)) = -rsg (x - y):=by unfold wrap64;omega
  have hs:0≤rsg (x * x):=by
    rw [rsg_mul]
    have:=rsg_bound x
    rcases (by omega:rsg x = -1∨rsg x=0∨rsg x=1) with h|h|h <;> rw [h] <;> decide
  refine Ev.rounds ?_
  unfold chattellaw05_FracMiddle.f
  refine Ev.bind nx (Ev.bind ny (Ev.bind nz ?_))
  refine Ev.bind a1 (Ev.bind (wFrom 2 (by decide)) (Ev.bindc (fFrom 2) (Ev.bind a2 (Ev.bind c0 ?_))))
  refine Ev.bind wakes5 (Ev.pos rfl (Ev.pos rfl ?_))
  refine Ev.bind c1 (Ev.pos rfl (Ev.bind c2 (Ev.pos rfl ?_)))
  refine Ev.bind a3 (Ev.bind a4 (Ev.bind c3 (Ev.pos rfl ?_)))
  refine Ev.bindc (fNeg x) (Ev.bindc (fNeg y) (Ev.bind c4 (Ev.pos hw.symm ?_)))
  refine Ev.bind a5 (Ev.bindc (fSign (x * x)) (Ev.const ?_))
  rw [decide_eq_true hs]
end Go.Proofs.Ytkoccekiojhidaa.Pure
