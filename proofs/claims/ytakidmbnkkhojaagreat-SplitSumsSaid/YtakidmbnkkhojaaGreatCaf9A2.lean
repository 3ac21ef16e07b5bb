import Derived.Test.YtakidmbnkkhojaaGreatCaf9JM6
import Derived.Test.YtakidmbnkkhojaaGreatCaf9JM5
import Derived.Test.YtakidmbnkkhojaaGreatCaf9D
import Derived.Test.YtakidmbnkkhojaaGreatCaf9A1
namespace Go.Proofs.YtakidmbnkkhojaaGreatM
open Go.RowKit Go.Proofs.YtakidmbnkkhojaaGreatW.PrintWords Go.Proofs.YtakidmbnkkhojaaGreatW.PrintLast Go.Proofs.YtakidmbnkkhojaaGreatW.PrintMore Go.Proofs.YtakidmbnkkhojaaGreatX Go.Proofs.YtakidmbnkkhojaaGreat.F
set_option linter.unusedVariables false
set_option linter.unusedSimpArgs false
theorem small_part (z t:Int) (d:Nat) (ht:t=(d:Int)) (hd:0 < d) (h1 : -4611686018427387904≤z∧z≤4611686018427387904) (h2:d≤4611686018427387904) :
    Ev (fun k=>chattelref05_Small.f k z t) (dig (mkRat z d).num.natAbs,decide ((mkRat z d).num < 0),dig (mkRat z d).den):=by
  subst ht
  have la:(lim z.natAbs).length≤1:=lim_len_le (by rw [W_one];omega)
  have lb:(lim ((d:Nat):Int).natAbs).length≤1:=lim_len_le (by rw [W_one];omega)
  have da:=dlen_lim z.natAbs
  have db:=dlen_lim ((d:Nat):Int).natAbs
  have h5:=r5Of z (d:Int) (by omega) (by omega) (by omega)
  rw [divInt_abs _ _ (by omega),if_neg (by omega),nat_abs] at h5
  rw [nat_abs] at db
  unfold chattelref05_Small.f
  exact Ev.bind (r4From z (by omega)) (Ev.bind (r4From (d:Int) (by omega)) (Ev.bind (by rw [nat_abs];exact h5) (Ev.const rfl)))
def upto (y m d z:Int):Rat:=if z=y then 0 else mkRat (z - y) 1 - mkRat (num y m d - num y 1 1) (ydN y)
theorem upto_acc {y m d z:Int} (h:z≠y):upto y m d z=(z:Rat) - acc y m d:=by
  unfold upto acc
  rw [if_neg h,mk_one,Rat.intCast_sub]
  grind
theorem upto_sz {y m d z:Int} (h1:Right y m d) (hz:1≤z∧z≤10000):Sz 4 (upto y m d z):=by
  have n1:=num_top h1
  have n4:=num_top (right_first h1.in_.1)
  have y1:=ydN_bd y
  have a1:=h1.in_.1
  have s1:=sz_part (z:=z - y) (d:=1) (by decide) (by omega) (by omega)
  have s2:=sz_part (z:=num y m d - num y 1 1) (ydN_pos y) (by omega) (by omega)
  have f:=(fAdd s1 (sz_neg s2) (by decide) (by decide)).2
  rw [← Rat.sub_eq_add_neg] at f
  unfold upto
  split
  · have s0:=sz_part (z:=0) (d:=1) (by decide) (by omega) (by omega)
    rw [Rat.zero_mkRat] at s0
    exact ⟨by have:=s0.1;omega,by have:=s0.2;omega⟩
  · exact ⟨by have:=f.1;omega,by have:=f.2;omega⟩
theorem next_first {y:Int} (h:1≤y):num (y + 1) 1 1=num y 1 1 + (ydN y:Int):=by
  rw [first_num,first_num,ahead_step y h]
  unfold ydN
  split <;> omega
theorem year_part {y m d y2 m2 d2 z:Int} (h1:Right y m d) (h2:Right y2 m2 d2) (ho:num y m d≤num y2 m2 d2) (hz:y≤z∧z≤y2) :
    upto y m d z + mkRat (mn (num z 1 1 + (ydN z:Int)) (num y2 m2 d2) - mx (num z 1 1) (num y m d)) (ydN z)=if z=y2 then actQ y m d y2 m2 d2 else upto y m d (z + 1):=by
  have a1:=h1.in_.1
  have b1:=h2.in_.1
  have i1:=num_in h1
  have i2:=num_in h2
  have f1:=first_num z
  have f2:=first_num y
  have f3:=first_num y2
  have nx:=next_first (y:=z) (by omega)
  have nf:=first_num (z + 1)
  have m1:=ahead_mono (y:=y) (z:=z) a1.1 hz.1
  have m2_:=ahead_mono (y:=z) (z:=y2) (by omega) hz.2
  have hz1:z=y2→mn (num z 1 1 + (ydN z:Int)) (num y2 m2 d2)=num y2 m2 d2:=by
    intro e;subst e
    rw [mn_eq,← nx,nf]
    omega
  have hz2:z≠y2→mn (num z 1 1 + (ydN z:Int)) (num y2 m2 d2)=num z 1 1 + (ydN z:Int):=by
    intro e
    have:=ahead_mono (y:=z + 1) (z:=y2) (by omega) (by omega)
    rw [mn_eq,← nx,nf]
    omega
  have hz3:z=y→mx (num z 1 1) (num y m d)=num y m d:=by
    intro e;subst e
    rw [mx_eq]
    omega
  have hz4:z≠y→mx (num z 1 1) (num y m d)=num z 1 1:=by
    intro e
    have:=ahead_mono (y:=y + 1) (z:=z) (by omega) (by omega)
    rw [mx_eq]
    omega
  by_cases e2:z=y2
  · rw [if_pos e2,hz1 e2]
    by_cases e1:z=y
    · rw [hz3 e1,← e2,← e1]
      unfold upto actQ
      rw [if_pos rfl,if_pos rfl]
      grind
    · rw [hz4 e1,upto_acc e1,actQ_acc h1 h2,e2]
      unfold acc
      grind
  · rw [if_neg e2,hz2 e2,upto_acc (z:=z + 1) (by omega)]
    by_cases e1:z=y
    · rw [hz3 e1]
      subst e1
      unfold upto acc
      rw [if_pos rfl,show num z 1 1 + (ydN z:Int) - num z m d=(ydN z:Int) - (num z m d - num z 1 1) by omega,mk_sub,mk_self (ydN_pos z),Rat.intCast_add]
      have:((1:Int):Rat)=1:=rfl
      rw [this]
      grind
    · rw [hz4 e1,upto_acc e1,show num z 1 1 + (ydN z:Int) - num z 1 1=(ydN z:Int) by omega,mk_self (ydN_pos z),Rat.intCast_add]
      have:((1:Int):Rat)=1:=rfl
      rw [this]
      grind
theorem year_le {y m d y2 m2 d2:Int} (h1:Right y m d) (h2:Right y2 m2 d2) (ho:num y m d≤num y2 m2 d2):y≤y2:=by
  by_cases c:y≤y2
  · exact c
  · have:=num_year h2 h1 (by omega)
    omega
theorem ryear_step {y m d y2 m2 d2 z:Int} {R:List Int×Bool×List Int} (h1:Right y m d) (h2:Right y2 m2 d2) (ho:num y m d≤num y2 m2 d2) (hz:y≤z) (hz2:z≤y2)
    (next:z≤y2→Ev (fun k=>chattelref11_Year.l0 k (num y m d) (num y2 m2 d2) (wrap64 (z + 1)) y2 m2 d2 (dig (if z=y2 then actQ y m d y2 m2 d2 else upto y m d (z + 1)).num.natAbs) (decide ((if z=y2 then actQ y m d y2 m2 d2 else upto y m d (z + 1)).num < 0)) (dig (if z=y2 then actQ y m d y2 m2 d2 else upto y m d (z + 1)).den)) R) :
    Ev (fun k=>chattelref11_Year.l0 k (num y m d) (num y2 m2 d2) z y2 m2 d2 (dig (upto y m d z).num.natAbs) (decide ((upto y m d z).num < 0)) (dig (upto y m d z).den)) R:=by
  have a1:=h1.in_.1
  have b1:=h2.in_.1
  have hz1:1≤z∧z≤9999:=by omega
  have n1:=num_top h1
  have n2:=num_top h2
  have n3:=num_top (right_first hz1)
  have y1:=ydN_bd z
  have hp:=year_part h1 h2 ho ⟨hz,hz2⟩
  have nx:=next hz2
  rw [← hp] at nx
  have su:=upto_sz (z:=z) h1 (by omega)
  have b3 : -4611686018427387904≤mn (num z 1 1 + (ydN z:Int)) (num y2 m2 d2) - mx (num z 1 1) (num y m d)∧mn (num z 1 1 + (ydN z:Int)) (num y2 m2 d2) - mx (num z 1 1) (num y m d)≤4611686018427387904:=by
    rw [mn_eq,mx_eq];omega
  have sp:=small_part _ (ydN z:Int) (ydN z) rfl (ydN_pos z) b3 (by omega)
  have sz2:=sz_part (ydN_pos z) b3 (by omega)
  have ad:=r5Add (dz_of su) (dz_of sz2) (by decide) (by decide)
  have w1:wrap64 (num z 1 1 + (ydN z:Int))=num z 1 1 + (ydN z:Int):=wrap_id (by omega)
  have w2:wrap64 (mn (num z 1 1 + (ydN z:Int)) (num y2 m2 d2) - mx (num z 1 1) (num y m d))=mn (num z 1 1 + (ydN z:Int)) (num y2 m2 d2) - mx (num z 1 1) (num y m d):=wrap_id (by omega)
  clear hp next su sz2 b3
  refine Ev.unroll ?_
  simp only [chattelref11_Year.l0]
  refine Ev.pos hz2 (Ev.bind (Ev.lt 10100 fun k hk=>refnum_eq (right_first hz1) k hk) (Ev.bind (Ev.lt 0 fun k hk=>ref_leap z k hk) ?_))
  rw [decide_eq_true hz1,Bool.true_and]
  by_cases hl:leap z=true
  · have e:((ydN z:Nat):Int)=366:=by unfold ydN;rw [if_pos hl];rfl
    rw [e] at sp ad w1 w2 nx
    rw [w1,w2]
    exact Ev.pos hl (Ev.bind sp (Ev.bind ad nx))
  · have e:((ydN z:Nat):Int)=365:=by unfold ydN;rw [if_neg hl];rfl
    rw [e] at sp ad w1 w2 nx
    rw [w1,w2]
    exact Ev.neg hl (Ev.bind sp (Ev.bind ad nx))
theorem rth_ev {y m y2 m2 A B:Int} {q:Int} (h1:1≤y∧y≤9999) (h2:1≤y2∧y2≤9999) (h3:1≤m∧m≤12) (h4:1≤m2∧m2≤12) (h5:1≤A∧A≤31) (h6:1≤B∧B≤31) (e:q=360 * (y2 - y) + 30 * (m2 - m) + B - A) :
    Ev (fun k=>(chattelref05_Small.f k (wrap64 (wrap64 (wrap64 (wrap64 (360 * wrap64 (y2 - y)) + wrap64 (30 * wrap64 (m2 - m))) + B) - A)) 360).bind fun b=>some (b.1,b.2.1,b.2.2)) (dig (mkRat q 360).num.natAbs,decide ((mkRat q 360).num < 0),dig (mkRat q 360).den):=by
  rw [th_leaf h1 h2 h3 h4 h5 h6,← e]
  exact Ev.bind (small_part q 360 360 rfl (by decide) (by omega) (by decide)) (Ev.const rfl)
theorem ryear_l0 {y m d y2 m2 d2:Int} (h1:Right y m d) (h2:Right y2 m2 d2) (ho:num y m d≤num y2 m2 d2) : ∀ (t:Nat) (z:Int),y≤z→z + t=y2 →
    Ev (fun k=>chattelref11_Year.l0 k (num y m d) (num y2 m2 d2) z y2 m2 d2 (dig (upto y m d z).num.natAbs) (decide ((upto y m d z).num < 0)) (dig (upto y m d z).den))
      (dig (actQ y m d y2 m2 d2).num.natAbs,decide ((actQ y m d y2 m2 d2).num < 0),dig (actQ y m d y2 m2 d2).den):=by
  intro t
  induction t with
  | zero =>
    intro z hz hz2
    have e2:z=y2:=by omega
    exact ryear_step h1 h2 ho hz (by omega) (fun _=>by
      have hb:=h2.in_.1
      rw [show wrap64 (z + 1)=z + 1 from wrap_id (by omega),if_pos e2]
      refine Ev.unroll ?_
      simp only [chattelref11_Year.l0]
      exact Ev.neg (by omega) (Ev.const rfl))
  | succ t ih =>
    intro z hz hz2
    refine ryear_step h1 h2 ho hz (by omega) (fun _=>?_)
    have hb:=h2.in_.1
    have ha:=h1.in_.1
    rw [show wrap64 (z + 1)=z + 1 from wrap_id (by omega),if_neg (by omega)]
    exact ih (z + 1) (by omega) (by omega)
theorem rYear {b y m d y2 m2 d2:Int} (hb:0≤b∧b < 3) (h1:Right y m d) (h2:Right y2 m2 d2) (ho:num y m d≤num y2 m2 d2) :
    Ev (fun k=>chattelref11_Year.f k b y m d y2 m2 d2) (dig (yf b y m d y2 m2 d2).num.natAbs,decide ((yf b y m d y2 m2 d2).num < 0),dig (yf b y m d y2 m2 d2).den):=by
  obtain ⟨a1,a2,a3,a4⟩:=h1.in_
  obtain ⟨b1,b2,b3,b4⟩:=h2.in_
  have n1:=num_top h1
  have n2:=num_top h2
  unfold chattelref11_Year.f yf
  by_cases c0:b=0
  · rw [if_pos c0]
    refine Ev.pos c0 ?_
    by_cases c1:d=31
    · refine Ev.pos c1 ?_
      by_cases c2:d2=31
      · exact Ev.pos c2 (Ev.pos rfl (rth_ev a1 b1 a2 b2 (by decide) (by decide) (by unfold thD;(repeat' split) <;> omega)))
      · exact Ev.neg c2 (rth_ev a1 b1 a2 b2 (by decide) ⟨b3,b4⟩ (by unfold thD;(repeat' split) <;> omega))
    · refine Ev.neg c1 ?_
      by_cases c2:d2=31
      · refine Ev.pos c2 ?_
        by_cases c3:d=30
        · exact Ev.pos c3 (rth_ev a1 b1 a2 b2 ⟨a3,a4⟩ (by decide) (by unfold thD;(repeat' split) <;> omega))
        · exact Ev.neg c3 (rth_ev a1 b1 a2 b2 ⟨a3,a4⟩ ⟨b3,b4⟩ (by unfold thD;(repeat' split) <;> omega))
      · exact Ev.neg c2 (rth_ev a1 b1 a2 b2 ⟨a3,a4⟩ ⟨b3,b4⟩ (by unfold thD;(repeat' split) <;> omega))
  · rw [if_neg c0]
    refine Ev.neg c0 (Ev.bind (Ev.lt 10100 fun k hk=>refnum_eq h1 k hk) (Ev.bind (Ev.lt 10100 fun k hk=>refnum_eq h2 k hk) ?_))
    by_cases c1:b=1
    · rw [if_pos c1]
      refine Ev.pos c1 ?_
      rw [show wrap64 (num y2 m2 d2 - num y m d)=num y2 m2 d2 - num y m d from wrap_id (by omega)]
      exact Ev.bind (small_part _ _ 365 rfl (by decide) (by omega) (by decide)) (Ev.const rfl)
    · rw [if_neg c1]
      refine Ev.neg c1 ?_
      have s0:=small_part 0 1 1 rfl (by decide) (by decide) (by decide)
      have l:=ryear_l0 h1 h2 ho (y2 - y).toNat y (Int.le_refl y) (by have:=year_le h1 h2 ho;omega)
      have e:upto y m d y=mkRat 0 1:=by unfold upto;rw [if_pos rfl,Rat.zero_mkRat]
      rw [e] at l
      exact Ev.bind s0 l
end Go.Proofs.YtakidmbnkkhojaaGreatM
