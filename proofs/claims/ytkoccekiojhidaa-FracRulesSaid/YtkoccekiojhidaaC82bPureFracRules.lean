import Derived.Test.YtkoccekiojhidaaC82bJM6
import Derived.Test.YtkoccekiojhidaaC82bD
namespace Go.Proofs.Ytkoccekiojhidaa.Pure
open Go.RowKit Go.Proofs.Ytkoccekiojhidaa.F Go.Proofs.YtkoccekiojhidaaW.PrintWords Go.Proofs.YtkoccekiojhidaaW.PrintLast Go.Proofs.YtkoccekiojhidaaM
set_option linter.unusedVariables false
theorem rsg_self (q:Rat):rsg (q - q)=0:=rsg_zero.2 Rat.sub_self
theorem FracRules_j0 {n m:Nat} {x y:Rat} (hx:Sz n x) (hy:Sz m y) (hn:n≤1000) (hm:m≤1000) :
    Ev (fun k=>chattellaw05_FracRules.j0 k false (lim x.num.natAbs) (decide (x.num < 0)) (lim (x.den - 1)) (lim y.num.natAbs) (decide (y.num < 0)) (lim (y.den - 1))) true:=by
  refine Ev.unroll ?_
  simp only [chattellaw05_FracRules.j0]
  refine Ev.neg (by decide) ?_
  refine Ev.bindc (fSign y) ?_
  by_cases h:y=0
  · refine Ev.pos (rsg_zero.2 h) ?_
    exact Ev.bind wakes5 (Ev.const rfl)
  · refine Ev.neg (fun e=>h (rsg_zero.1 e)) ?_
    obtain ⟨m1,m2⟩:=fMul hx hy (by omega) (by omega)
    obtain ⟨d1,d2⟩:=fQuo m2 hy (by omega) (by omega) h
    have hc:=fCmpS d2 hx (by omega) (by omega)
    rw [Rat.mul_div_cancel h,rsg_self] at hc
    rw [Rat.mul_div_cancel h] at d1
    refine Ev.bind m1 ?_
    refine Ev.bind d1 ?_
    refine Ev.bind wakes5 (Ev.pos rfl (Ev.pos rfl ?_))
    exact Ev.bind hc (Ev.const rfl)
theorem FracRules:chattellaw05_FracRules.Pure:=by
  intro l0 l1 b l2 l3 b' l4 l5 b'' _ _ w0 _ _ w1 _ _ w2 _ _ w3 _ _ w4 _ _ w5
  obtain ⟨x,hx,nx⟩:=num_ev b w0 w1
  obtain ⟨y,hy,ny⟩:=num_ev b' w2 w3
  obtain ⟨z,hz,nz⟩:=num_ev b'' w4 w5
  obtain ⟨a1,s1⟩:=fAdd hx hy (by decide) (by decide)
  obtain ⟨a2,s2⟩:=fSub s1 hy (by decide) (by decide)
  have c2:=fCmpS s2 hx (by decide) (by decide)
  obtain ⟨a3,s3⟩:=fAdd hy hz (by decide) (by decide)
  obtain ⟨a4,s4⟩:=fMul hx s3 (by decide) (by decide)
  obtain ⟨a5,s5⟩:=fMul hx hy (by decide) (by decide)
  obtain ⟨a6,s6⟩:=fMul hx hz (by decide) (by decide)
  obtain ⟨a7,s7⟩:=fAdd s5 s6 (by decide) (by decide)
  have c7:=fCmpS s4 s7 (by decide) (by decide)
  obtain ⟨a8,s8⟩:=fAdd hy hx (by decide) (by decide)
  have c8:=fCmpS s1 s8 (by decide) (by decide)
  obtain ⟨a9,s9⟩:=fSub hx hy (by decide) (by decide)
  have c9:=fCmpS hx hy (by decide) (by decide)
  rw [Rat.add_sub_cancel,rsg_self] at c2
  rw [Rat.add_sub_cancel] at a2
  rw [Rat.mul_add,rsg_self] at c7
  rw [Rat.mul_add] at a4
  rw [Rat.add_comm y x,rsg_self] at c8
  rw [Rat.add_comm y x] at a8
  have hj:=FracRules_j0 hx hy (by decide) (by decide)
  refine Ev.rounds ?_
  unfold chattellaw05_FracRules.f
  refine Ev.bind nx (Ev.bind ny (Ev.bind nz ?_))
  refine Ev.bind a1 (Ev.bind a2 (Ev.bind c2 (Ev.pos rfl ?_)))
  refine Ev.bind a3 (Ev.bind a4 (Ev.bind a5 (Ev.bind a6 (Ev.bind a7 (Ev.bind c7 (Ev.pos rfl ?_))))))
  refine Ev.bind a1 (Ev.bind a8 (Ev.bind c8 (Ev.pos rfl ?_)))
  refine Ev.bind a9 (Ev.bindc (fSign (x - y)) (Ev.bind c9 ?_))
  rw [show (rsg (x - y) != rsg (x - y))=false by simp]
  exact hj
end Go.Proofs.Ytkoccekiojhidaa.Pure
