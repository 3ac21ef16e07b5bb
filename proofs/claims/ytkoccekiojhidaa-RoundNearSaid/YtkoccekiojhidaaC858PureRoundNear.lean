import Derived.Test.YtkoccekiojhidaaC858D
import Derived.Test.YtkoccekiojhidaaC858U1
namespace Go.Proofs.Ytkoccekiojhidaa.Pure
open Go.RowKit Go.Proofs.Ytkoccekiojhidaa.F Go.Proofs.YtkoccekiojhidaaW.PrintWords Go.Proofs.YtkoccekiojhidaaW.PrintLast Go.Proofs.YtkoccekiojhidaaM
set_option linter.unusedVariables false
theorem sg_one6 (a:Nat):sg a 1=0 ↔ a=1:=by
  unfold sg
  repeat' split
  all_goals omega
theorem size_ev (x:Rat):chattellaw06_size.f (lim x.num.natAbs) (decide (x.num < 0)) (lim (x.den - 1))=some (lim (rabs x).num.natAbs,decide ((rabs x).num < 0),lim ((rabs x).den - 1)):=by
  unfold chattellaw06_size.f rabs
  rw [fSign,Option.bind_some]
  by_cases h:rsg x < 0
  · rw [if_pos h,if_pos h,fNeg];rfl
  · rw [if_neg h,if_neg h]
theorem sz_abs {n:Nat} {x:Rat} (h:Sz n x):Sz n (rabs x):=by
  unfold rabs
  split
  · exact sz_neg h
  · exact h
theorem exact_ev {x:Rat} {n:Nat} (hx:Sz n x) (hn:n≤100000000):Ev (fun k=>chattellaw06_exact.f k (lim x.num.natAbs) (decide (x.num < 0)) (lim (x.den - 1))) (sg x.den 1 == 0):=by
  have l1:=len_one
  obtain ⟨h1,h2⟩:=hx
  unfold chattellaw06_exact.f
  exact Ev.bind (fDen (by omega)) (Ev.bind one_lim (Ev.bind (cmp_ev x.den 1 (by omega) (by omega)) (Ev.const rfl)))
theorem len_mag (m:Int) (a d:Nat):(lim (mag m a d)).length≤(lim a).length + 1:=by
  have h1:=len_mono (Nat.div_le_self a d)
  have h2:=len_add (a / d) 1
  have h3:=len_one
  unfold mag
  split
  · by_cases h0:(lim (a / d)).length=0
    · have:a / d=0:=by
        rcases Nat.eq_zero_or_pos (a / d) with h|h
        · exact h
        · have:=lim_pos (Nat.ne_of_gt h);omega
      rw [this]
      have h4:(lim (0 + 1)).length≤1:=h3
      omega
    · omega
  · omega
theorem near_j2 {x one:Rat} {m:Int} (hx:Sz 4 x) (hm:0≤m∧m < 5)
    (h:Ev (fun k=>chattellaw06_RoundNear.l0 k (wrap64 (m + 1)) (lim x.num.natAbs) (decide (x.num < 0)) (lim (x.den - 1)) (lim one.num.natAbs) (decide (one.num < 0)) (lim (one.den - 1))) true) :
    Ev (fun k=>chattellaw06_RoundNear.j2 k m m false (lim x.num.natAbs) (decide (x.num < 0)) (lim (x.den - 1)) (lim one.num.natAbs) (decide (one.num < 0)) (lim (one.den - 1)) (lim (rnd m x).natAbs) (decide (rnd m x < 0))) true:=by
  have hd:=den_pos x
  have hl:(lim (rnd m x).natAbs).length≤5:=by
    rw [rnd_abs]
    have:=len_mag m x.num.natAbs x.den
    have:=hx.1
    omega
  have hn:Sz 5 (((rnd m x).natAbs:Int):Rat):=sz_int (by rw [Int.natAbs_natCast];exact hl) (by decide)
  have hc:=fCmpS hn (sz_abs hx) (by decide) (by decide)
  have hs:rsg ((((rnd m x).natAbs:Int):Rat) - rabs x)=(((mag m x.num.natAbs x.den * x.den:Nat):Int) - (x.num.natAbs:Int)).sign:=by
    refine rsg_scale hd ?_
    rw [rnd_abs,Rat.intCast_sub,Int.natCast_mul,Rat.intCast_mul]
    exact sub_scale rfl (rabs_scale hd (scale_self x))
  rw [hs] at hc
  have hof:=wOf (rnd m x).natAbs false (z:=((rnd m x).natAbs:Int)) (by unfold sgn;rw [if_neg (by decide)])
  have hab:whole_Int_Abs.f (lim (rnd m x).natAbs) (decide (rnd m x < 0))=some (lim (rnd m x).natAbs):=rfl
  refine Ev.unroll ?_
  simp only [chattellaw06_RoundNear.j2]
  refine Ev.neg (by decide) ?_
  by_cases m0:m=0
  · refine Ev.pos m0 (Ev.bindc hab (Ev.bindc hof (Ev.bindc (fFrom _) (Ev.bindc (size_ev x) (Ev.bind hc (Ev.neg ?_ (Ev.neg (by omega) h)))))))
    subst m0
    have h1:=mag_down x.num.natAbs x.den hd
    intro hp
    have:=Int.sign_pos_iff.1 hp
    omega
  · refine Ev.neg m0 ?_
    by_cases m1:m=1
    · refine Ev.pos m1 (Ev.bindc hab (Ev.bindc hof (Ev.bindc (fFrom _) (Ev.bindc (size_ev x) (Ev.bind hc (Ev.neg ?_ h))))))
      subst m1
      have h1:=mag_up x.num.natAbs x.den hd
      intro hp
      have:=Int.sign_neg_iff.1 hp
      omega
    · exact Ev.neg m1 h
theorem one_scale (D:Nat):((1:Int):Rat) * ((D:Int):Rat)=((D:Int):Rat):=by
  rw [← Rat.intCast_mul,Int.one_mul]
theorem near_j1 {x:Rat} {m:Int} (hx:Sz 4 x) (hm:0≤m∧m < 5) {e:Rat} (he:Sz 20 e) (hs:e * ((x.den:Int):Rat)=(((rnd m x * x.den - x.num).natAbs:Int):Rat))
    (h:Ev (fun k=>chattellaw06_RoundNear.l0 k (wrap64 (m + 1)) (lim x.num.natAbs) (decide (x.num < 0)) (lim (x.den - 1)) (lim ((1:Int):Rat).num.natAbs) (decide (((1:Int):Rat).num < 0)) (lim (((1:Int):Rat).den - 1))) true) :
    Ev (fun k=>chattellaw06_RoundNear.j1 k m 0 0 m (lim x.num.natAbs) (decide (x.num < 0)) (lim (x.den - 1)) (lim ((1:Int):Rat).num.natAbs) (decide (((1:Int):Rat).num < 0)) (lim (((1:Int):Rat).den - 1))
      (lim (rnd m x).natAbs) (decide (rnd m x < 0)) (lim (rnd m (-x)).natAbs) (decide (rnd m (-x) < 0)) (lim e.num.natAbs) (decide (e.num < 0)) (lim (e.den - 1))) true:=by
  have hd:=den_pos x
  have l1:=len_one
  have s1:Sz 1 ((1:Int):Rat):=sz_int (by show (lim 1).length≤1;exact l1) (Nat.le_refl 1)
  have hj:=near_j2 hx hm h
  have off:=rnd_off m x
  obtain ⟨n1,n2⟩:=mag_near m x.num.natAbs x.den hd
  have hl:(lim (rnd m x).natAbs).length≤5:=by
    rw [rnd_abs]
    have:=len_mag m x.num.natAbs x.den
    have:=hx.1
    omega
  have hc1:=fCmpS he s1 (by decide) (by decide)
  have r1:rsg (e - ((1:Int):Rat))=(((rnd m x * x.den - x.num).natAbs:Int) - (x.den:Int)).sign:=by
    refine rsg_scale hd ?_
    rw [Rat.intCast_sub]
    exact sub_scale hs (one_scale x.den)
  rw [r1] at hc1
  obtain ⟨a2,s2⟩:=fAdd he he (by decide) (by decide)
  have hc2:=fCmpS s2 s1 (by decide) (by decide)
  have r2:rsg (e + e - ((1:Int):Rat))=(((rnd m x * x.den - x.num).natAbs:Int) + ((rnd m x * x.den - x.num).natAbs:Int) - (x.den:Int)).sign:=by
    refine rsg_scale hd ?_
    rw [Rat.intCast_sub,Rat.intCast_add]
    refine sub_scale ?_ (one_scale x.den)
    rw [Rat.add_mul,hs]
  rw [r2] at hc2
  have he0:rsg e=((rnd m x * x.den - x.num).natAbs:Int).sign:=rsg_scale hd hs
  have tail:Ev (fun k=>(chattellaw06_exact.f k (lim x.num.natAbs) (decide (x.num < 0)) (lim (x.den - 1))).bind fun t=>if t=true then ((frac_Frac_Sign.f (lim e.num.natAbs) (decide (e.num < 0)) (lim (e.den - 1))).bind fun t2=>if t2=0 then
      ((whole_Int_Neg.f (lim (rnd m x).natAbs) (decide (rnd m x < 0))).bind fun b=>((whole_Int_Cmp.f k (lim (rnd m (-x)).natAbs) (decide (rnd m (-x) < 0)) b.1 b.2).bind fun t3=>chattellaw06_RoundNear.j2 k m m (t3 != 0) (lim x.num.natAbs) (decide (x.num < 0)) (lim (x.den - 1)) (lim ((1:Int):Rat).num.natAbs) (decide (((1:Int):Rat).num < 0)) (lim (((1:Int):Rat).den - 1)) (lim (rnd m x).natAbs) (decide (rnd m x < 0))))
      else chattellaw06_RoundNear.j2 k m m true (lim x.num.natAbs) (decide (x.num < 0)) (lim (x.den - 1)) (lim ((1:Int):Rat).num.natAbs) (decide (((1:Int):Rat).num < 0)) (lim (((1:Int):Rat).den - 1)) (lim (rnd m x).natAbs) (decide (rnd m x < 0)))
      else ((whole_Int_Neg.f (lim (rnd m x).natAbs) (decide (rnd m x < 0))).bind fun b=>((whole_Int_Cmp.f k (lim (rnd m (-x)).natAbs) (decide (rnd m (-x) < 0)) b.1 b.2).bind fun t3=>chattellaw06_RoundNear.j2 k m m (t3 != 0) (lim x.num.natAbs) (decide (x.num < 0)) (lim (x.den - 1)) (lim ((1:Int):Rat).num.natAbs) (decide (((1:Int):Rat).num < 0)) (lim (((1:Int):Rat).den - 1)) (lim (rnd m x).natAbs) (decide (rnd m x < 0))))) true:=by
    have hcm:=wCmp (rnd m (-x)) (-rnd m x) (by rw [rnd_neg,Int.natAbs_neg];omega) (by rw [Int.natAbs_neg];omega)
    rw [rnd_neg m x,Int.sub_self] at hcm
    rw [rnd_neg m x]
    refine Ev.bind (exact_ev hx (by decide)) ?_
    by_cases h1:x.den=1
    · refine Ev.pos (by rw [(sg_one6 _).2 h1];rfl) (Ev.bindc (fSign e) (Ev.pos ?_ ?_))
      · rw [he0,off,h1,mag_one,Nat.mul_one,Int.sub_self];rfl
      · exact Ev.bindc (wNeg (rnd m x)) (Ev.bind hcm hj)
    · refine Ev.neg (fun hh=>h1 ((sg_one6 _).1 (by simpa using hh))) ?_
      exact Ev.bindc (wNeg (rnd m x)) (Ev.bind hcm hj)
  refine Ev.unroll ?_
  simp only [chattellaw06_RoundNear.j1]
  refine Ev.pos (by simp) (Ev.pos (by simp) (Ev.bind hc1 (Ev.neg ?_ ?_)))
  · intro hp
    have h2 : ¬ (((rnd m x * x.den - x.num).natAbs:Int) - (x.den:Int)) < 0:=fun hh=>by
      have:=Int.sign_neg_iff.2 hh;omega
    rw [off] at h2
    omega
  · by_cases m2:m ≥ 2
    · refine Ev.pos m2 (Ev.bind a2 (Ev.bind hc2 (Ev.neg ?_ tail)))
      intro hp
      have h2:=Int.sign_pos_iff.1 hp
      obtain ⟨g1,g2⟩:=mag_half ⟨m2,hm.2⟩ x.num.natAbs x.den hd
      rw [off] at h2
      omega
    · exact Ev.neg m2 tail
theorem near_l0 {x:Rat} (hx:Sz 4 x) : ∀ t m:Nat,m + t=5→Ev (fun k=>chattellaw06_RoundNear.l0 k (m:Int) (lim x.num.natAbs) (decide (x.num < 0)) (lim (x.den - 1)) (lim ((1:Int):Rat).num.natAbs) (decide (((1:Int):Rat).num < 0)) (lim (((1:Int):Rat).den - 1))) true:=by
  intro t
  induction t with
  | zero =>
    intro m hm
    refine Ev.unroll ?_
    simp only [chattellaw06_RoundNear.l0]
    exact Ev.neg (by omega) (Ev.bind wakes6 (Ev.const rfl))
  | succ t ih =>
    intro m hm
    have hd:=den_pos x
    have hm':0≤(m:Int)∧(m:Int) < 5:=by omega
    have hw:wrap64 ((m:Int) + 1)=((m + 1:Nat):Int):=by unfold wrap64;omega
    have hc:=ih (m + 1) (by omega)
    rw [← hw] at hc
    have hl:(lim (rnd m x).natAbs).length≤5:=by
      rw [rnd_abs]
      have:=len_mag m x.num.natAbs x.den
      have:=hx.1
      omega
    have hn:Sz 5 ((rnd m x:Int):Rat):=sz_int hl (by decide)
    obtain ⟨a1,s1⟩:=fSub hn hx (by decide) (by decide)
    have hra:=rabs_scale hd (off_scale m x)
    have s2:Sz 20 (((rnd m x:Int):Rat) - x):=⟨Nat.le_trans s1.1 (by decide),Nat.le_trans s1.2 (by decide)⟩
    refine Ev.unroll ?_
    simp only [chattellaw06_RoundNear.l0]
    refine Ev.pos (by omega) (Ev.bind (rWhole hx (by decide) hm') (Ev.bindc (fNeg x) (Ev.bind (rWhole (sz_neg hx) (by decide) hm') ?_)))
    refine Ev.bindc (fFrom (rnd m x)) (Ev.bind a1 (Ev.bindc (fSign _) ?_))
    unfold rabs at hra
    by_cases hz:rsg (((rnd m x:Int):Rat) - x) < 0
    · rw [if_pos hz] at hra
      exact Ev.pos hz (Ev.bindc (fNeg _) (near_j1 hx hm' (sz_neg s2) hra hc))
    · rw [if_neg hz] at hra
      exact Ev.neg hz (near_j1 hx hm' s2 hra hc)
theorem RoundNear:chattellaw06_RoundNear.Pure:=by
  intro l0 l1 b _ _ w0 _ _ w1
  obtain ⟨x,hx,nx⟩:=num6_ev b w0 w1
  refine Ev.rounds ?_
  unfold chattellaw06_RoundNear.f
  exact Ev.bind nx (Ev.bind (wFrom 1 (by decide)) (Ev.bindc (fFrom 1) (near_l0 hx 5 0 rfl)))
end Go.Proofs.Ytkoccekiojhidaa.Pure
