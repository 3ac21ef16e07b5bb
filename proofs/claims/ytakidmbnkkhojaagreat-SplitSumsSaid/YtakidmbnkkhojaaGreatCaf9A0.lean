import Derived.Test.YtakidmbnkkhojaaGreatCaf9JM5
import Derived.Test.YtakidmbnkkhojaaGreatCaf9D
namespace Go.Proofs.YtakidmbnkkhojaaGreatM
open Go.RowKit Go.Proofs.YtakidmbnkkhojaaGreatW.PrintWords Go.Proofs.YtakidmbnkkhojaaGreatW.PrintLast Go.Proofs.YtakidmbnkkhojaaGreatW.PrintMore Go.Proofs.YtakidmbnkkhojaaGreatX Go.Proofs.YtakidmbnkkhojaaGreat.F
set_option linter.unusedVariables false
set_option linter.unusedSimpArgs false
def ydN (y:Int):Nat:=if leap y=true then 366 else 365
theorem ydN_bd (y:Int):365≤ydN y∧ydN y≤366:=by unfold ydN;split <;> omega
theorem ydN_pos (y:Int):0 < ydN y:=by have:=ydN_bd y;omega
theorem W_one:W ^ 1=18446744073709551616:=by decide
theorem sz_part {z:Int} {d:Nat} (hd:0 < d) (h1 : -4611686018427387904≤z∧z≤4611686018427387904) (h2:d≤4611686018427387904):Sz 1 (mkRat z d) :=
  mk_size hd (lim_len_le (by rw [W_one];omega)) (lim_len_le (by rw [W_one];omega))
theorem part_ev (z t:Int) (d:Nat) (ht:t=(d:Int)) (hd:0 < d) (h1 : -4611686018427387904≤z∧z≤4611686018427387904) (h2:d≤4611686018427387904) :
    Ev (fun k=>count_part.f k z t) (lim (mkRat z d).num.natAbs,decide ((mkRat z d).num < 0),lim ((mkRat z d).den - 1)):=by
  subst ht
  unfold count_part.f
  have h:=wFrom (d:Int) (by omega)
  rw [nat_abs,nat_neg] at h
  have l1:(lim z.natAbs).length≤1:=lim_len_le (by rw [W_one];omega)
  have l2:(lim d).length≤1:=lim_len_le (by rw [W_one];omega)
  exact Ev.bind (wFrom z (by omega)) (Ev.bind h (Ev.bind (fOfN z d hd (by omega) (by omega)) (Ev.const rfl)))
theorem cdays_ev {y m d y2 m2 d2:Int} (h1:Right y m d) (h2:Right y2 m2 d2):Ev (fun k=>count_days.f k y m d y2 m2 d2) (num y2 m2 d2 - num y m d):=by
  refine Ev.lt 14 fun k hk=>?_
  unfold count_days.f
  rw [between_eq _ _ _ _ _ _ k hk,if_pos h1,if_pos h2]
  rfl
theorem cyear_eq {y:Int} (h:1≤y∧y≤9999):count_year.f y=some ((ydN y:Nat):Int):=by
  unfold count_year.f ydN
  rw [date_leap,decide_eq_true h,Bool.true_and,Option.bind_some]
  split <;> rfl
def thD (y m d y2 m2 d2:Int):Int:=360 * (y2 - y) + 30 * (m2 - m) + (if d2 > 30∧d ≥ 30 then 30 else d2) - (if d > 30 then 30 else d)
theorem th_leaf {y m y2 m2 A B:Int} (h1:1≤y∧y≤9999) (h2:1≤y2∧y2≤9999) (h3:1≤m∧m≤12) (h4:1≤m2∧m2≤12) (h5:1≤A∧A≤31) (h6:1≤B∧B≤31) :
    wrap64 (wrap64 (wrap64 (wrap64 (360 * wrap64 (y2 - y)) + wrap64 (30 * wrap64 (m2 - m))) + B) - A)=360 * (y2 - y) + 30 * (m2 - m) + B - A:=by
  rw [wrap_id (x:=y2 - y) (by omega),wrap_id (x:=m2 - m) (by omega),wrap_id (x:=360 * (y2 - y)) (by omega),wrap_id (x:=30 * (m2 - m)) (by omega),wrap_id (x:=360 * (y2 - y) + 30 * (m2 - m)) (by omega),wrap_id (x:=360 * (y2 - y) + 30 * (m2 - m) + B) (by omega),wrap_id (by omega)]
theorem th_ev {y m y2 m2 A B:Int} {q:Int} (h1:1≤y∧y≤9999) (h2:1≤y2∧y2≤9999) (h3:1≤m∧m≤12) (h4:1≤m2∧m2≤12) (h5:1≤A∧A≤31) (h6:1≤B∧B≤31) (e:q=360 * (y2 - y) + 30 * (m2 - m) + B - A) :
    Ev (fun k=>(count_part.f k (wrap64 (wrap64 (wrap64 (wrap64 (360 * wrap64 (y2 - y)) + wrap64 (30 * wrap64 (m2 - m))) + B) - A)) 360).bind fun b=>some (b.1,b.2.1,b.2.2)) (lim (mkRat q 360).num.natAbs,decide ((mkRat q 360).num < 0),lim ((mkRat q 360).den - 1)):=by
  rw [th_leaf h1 h2 h3 h4 h5 h6,← e]
  exact Ev.bind (part_ev q 360 360 rfl (by decide) (by omega) (by decide)) (Ev.const rfl)
theorem thirty_ev {y m d y2 m2 d2:Int} (h1:Right y m d) (h2:Right y2 m2 d2) :
    Ev (fun k=>count_thirty.f k y m d y2 m2 d2) (lim (mkRat (thD y m d y2 m2 d2) 360).num.natAbs,decide ((mkRat (thD y m d y2 m2 d2) 360).num < 0),lim ((mkRat (thD y m d y2 m2 d2) 360).den - 1)):=by
  obtain ⟨a1,a2,a3,a4⟩:=h1.in_
  obtain ⟨b1,b2,b3,b4⟩:=h2.in_
  unfold count_thirty.f
  by_cases c1:d > 30
  · refine Ev.pos c1 ?_
    by_cases c2:d2 > 30
    · refine Ev.pos c2 (Ev.pos rfl ?_)
      exact th_ev a1 b1 a2 b2 (by decide) (by decide) (by unfold thD;(repeat' split) <;> omega)
    · refine Ev.neg c2 ?_
      exact th_ev a1 b1 a2 b2 (by decide) ⟨b3,b4⟩ (by unfold thD;(repeat' split) <;> omega)
  · refine Ev.neg c1 ?_
    by_cases c2:d2 > 30
    · refine Ev.pos c2 ?_
      by_cases c3:d=30
      · refine Ev.pos c3 ?_
        exact th_ev a1 b1 a2 b2 ⟨a3,a4⟩ (by decide) (by unfold thD;(repeat' split) <;> omega)
      · refine Ev.neg c3 ?_
        exact th_ev a1 b1 a2 b2 ⟨a3,a4⟩ ⟨b3,b4⟩ (by unfold thD;(repeat' split) <;> omega)
    · refine Ev.neg c2 ?_
      exact th_ev a1 b1 a2 b2 ⟨a3,a4⟩ ⟨b3,b4⟩ (by unfold thD;(repeat' split) <;> omega)
def actQ (y m d y2 m2 d2:Int):Rat :=
  if y=y2 then mkRat (num y2 m2 d2 - num y m d) (ydN y)
  else mkRat (num y 12 31 - num y m d + 1) (ydN y) + mkRat (y2 - y - 1) 1 + mkRat (num y2 m2 d2 - num y2 1 1) (ydN y2)
theorem right_last {y:Int} (h:1≤y∧y≤9999):Right y 12 31:=by
  unfold Right;rw [days_in h (by decide)];unfold dm;simp
theorem right_first {y:Int} (h:1≤y∧y≤9999):Right y 1 1:=by
  unfold Right;rw [days_in h (by decide)];unfold dm;simp
theorem actual_ev {y m d y2 m2 d2:Int} (h1:Right y m d) (h2:Right y2 m2 d2) :
    Ev (fun k=>count_actual.f k y m d y2 m2 d2) (lim (actQ y m d y2 m2 d2).num.natAbs,decide ((actQ y m d y2 m2 d2).num < 0),lim ((actQ y m d y2 m2 d2).den - 1))∧Sz 5 (actQ y m d y2 m2 d2):=by
  have a1:=h1.in_.1
  have b1:=h2.in_.1
  have n1:=num_top h1
  have n2:=num_top h2
  have n3:=num_top (right_last a1)
  have n4:=num_top (right_first b1)
  have y1:=ydN_bd y
  have y2_:=ydN_bd y2
  unfold count_actual.f actQ
  by_cases e:y=y2
  · rw [if_pos e]
    refine ⟨Ev.pos e (Ev.bind (cdays_ev h1 h2) (Ev.bindc (cyear_eq a1) (Ev.bind (part_ev _ _ _ rfl (ydN_pos y) (by omega) (by omega)) (Ev.const rfl)))),?_⟩
    have s:=sz_part (z:=num y2 m2 d2 - num y m d) (ydN_pos y) (by omega) (by omega)
    exact ⟨by have:=s.1;omega,by have:=s.2;omega⟩
  · rw [if_neg e]
    have s1:=sz_part (z:=num y 12 31 - num y m d + 1) (ydN_pos y) (by omega) (by omega)
    have s2:=sz_part (z:=y2 - y - 1) (d:=1) (by decide) (by omega) (by omega)
    have s3:=sz_part (z:=num y2 m2 d2 - num y2 1 1) (ydN_pos y2) (by omega) (by omega)
    have f1:=fAdd s1 s2 (by decide) (by decide)
    have f2:=fAdd f1.2 s3 (by decide) (by decide)
    refine ⟨Ev.neg e (Ev.bind (cdays_ev h1 (right_last a1)) (Ev.bind (cdays_ev (right_first b1) h2) (Ev.bindc (cyear_eq a1) ?_))),f2.2⟩
    rw [wrap_id (x:=num y 12 31 - num y m d + 1) (by omega),wrap_id (x:=y2 - y) (by omega),wrap_id (x:=y2 - y - 1) (by omega)]
    exact Ev.bind (part_ev _ _ _ rfl (ydN_pos y) (by omega) (by omega)) (Ev.bind (part_ev _ 1 1 rfl (by decide) (by omega) (by omega)) (Ev.bind f1.1 (Ev.bindc (cyear_eq b1) (Ev.bind (part_ev _ _ _ rfl (ydN_pos y2) (by omega) (by omega)) (Ev.bind f2.1 (Ev.const rfl))))))
def yf (b y m d y2 m2 d2:Int):Rat:=if b=0 then mkRat (thD y m d y2 m2 d2) 360 else if b=1 then mkRat (num y2 m2 d2 - num y m d) 365 else actQ y m d y2 m2 d2
theorem yf_ev {b y m d y2 m2 d2:Int} (hb:0≤b∧b < 3) (h1:Right y m d) (h2:Right y2 m2 d2) (ho:num y m d≤num y2 m2 d2) :
    Ev (fun k=>count_Year.f k b y m d y2 m2 d2) (lim (yf b y m d y2 m2 d2).num.natAbs,decide ((yf b y m d y2 m2 d2).num < 0),lim ((yf b y m d y2 m2 d2).den - 1),0)∧Sz 5 (yf b y m d y2 m2 d2):=by
  have n1:=num_top h1
  have n2:=num_top h2
  have hA:=actual_ev h1 h2
  obtain ⟨a1,a2,a3,a4⟩:=h1.in_
  obtain ⟨b1,b2,b3,b4⟩:=h2.in_
  have hth : -4611686018427387904≤thD y m d y2 m2 d2∧thD y m d y2 m2 d2≤4611686018427387904:=by unfold thD;(repeat' split) <;> omega
  have good:count_Basis_good.f b=some true:=by
    unfold count_Basis_good.f
    rw [if_pos (by omega),decide_eq_true (by omega)]
  refine ⟨?_,?_⟩
  · unfold count_Year.f
    refine Ev.bindc good (Ev.pos rfl (Ev.bind (a:=0) (Ev.lt 0 fun k hk=>by rw [date_check _ _ _ k hk,if_pos h1]) (Ev.pos rfl (Ev.bind (a:=0) (Ev.lt 0 fun k hk=>by rw [date_check _ _ _ k hk,if_pos h2]) ?_))))
    refine Ev.unroll ?_
    simp only [count_Year.j0]
    refine Ev.neg (by decide) (Ev.bind (a:=sgI (num y m d) (num y2 m2 d2)) (Ev.lt 3 fun k hk=>by rw [cmp_eq _ _ _ _ _ _ k hk,or3_num h1 h2]) (Ev.neg (by unfold sgI;(repeat' split) <;> omega) ?_))
    unfold yf
    by_cases c0:b=0
    · rw [if_pos c0]
      exact Ev.pos c0 (Ev.bind (thirty_ev h1 h2) (Ev.const rfl))
    · rw [if_neg c0]
      refine Ev.neg c0 ?_
      by_cases c1:b=1
      · rw [if_pos c1]
        exact Ev.pos c1 (Ev.bind (cdays_ev h1 h2) (Ev.bind (part_ev _ _ 365 rfl (by decide) (by omega) (by decide)) (Ev.const rfl)))
      · rw [if_neg c1]
        exact Ev.neg c1 (Ev.bind hA.1 (Ev.const rfl))
  · unfold yf
    by_cases c0:b=0
    · rw [if_pos c0]
      have s:=sz_part (z:=thD y m d y2 m2 d2) (d:=360) (by decide) hth (by decide)
      exact ⟨by have:=s.1;omega,by have:=s.2;omega⟩
    · rw [if_neg c0]
      by_cases c1:b=1
      · rw [if_pos c1]
        have s:=sz_part (z:=num y2 m2 d2 - num y m d) (d:=365) (by decide) (by omega) (by decide)
        exact ⟨by have:=s.1;omega,by have:=s.2;omega⟩
      · rw [if_neg c1]
        exact hA.2
end Go.Proofs.YtakidmbnkkhojaaGreatM
