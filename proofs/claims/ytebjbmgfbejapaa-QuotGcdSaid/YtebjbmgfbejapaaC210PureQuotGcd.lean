import Derived.Test.YtebjbmgfbejapaaC210JM5
import Derived.Test.YtebjbmgfbejapaaC210F62
namespace Go.Proofs.Ytebjbmgfbejapaa.Pure
open Go.RowKit Go.Proofs.Ytebjbmgfbejapaa.F Go.Proofs.YtebjbmgfbejapaaW.PrintWords Go.Proofs.YtebjbmgfbejapaaW.PrintLast Go.Proofs.YtebjbmgfbejapaaM
set_option linter.unusedVariables false
theorem cutn (l : List Int) (n : Nat) : l.take ((mn (l.length : Int) (n : Int)) : Int).toNat = l.take n := by
  rw [mn_eq]
  rcases Nat.lt_or_ge l.length n with h | h
  · rw [List.take_of_length_le (by omega), List.take_of_length_le (by omega)]
  · rw [show (min (l.length : Int) (n : Int)).toNat = n by omega]
theorem cut_le (l : List Int) (n : Nat) : 0 ≤ mn (l.length : Int) (n : Int) ∧ mn (l.length : Int) (n : Int) ≤ (l.length : Int) := by
  rw [mn_eq]
  omega
theorem gcd_len (x y : Nat) (n : Nat) (hx : (lim x).length ≤ n) (hy : (lim y).length ≤ n) : (lim (Nat.gcd x y)).length ≤ n := by
  by_cases h : x = 0
  · subst h
    rw [Nat.gcd_zero_left]
    exact hy
  · exact Nat.le_trans (len_mono (Nat.gcd_le_left y (Nat.pos_of_ne_zero h))) hx
theorem QuotGcd : chattellaw02_QuotGcd.Pure := by
  intro l0 l1 l2 _ _ w0 _ _ w1 _ _ w2
  obtain ⟨x, vx, lx, fx, nx⟩ := cut_num w0 4
  obtain ⟨y, vy, ly, fy, ny⟩ := cut_num w1 4
  obtain ⟨z, vz, lz, fz, nz⟩ := cut_num w2 3
  have dx := dlen_lim x
  have dy := dlen_lim y
  have lg := gcd_len x y 4 lx ly
  have dg := dlen_lim (Nat.gcd x y)
  have mx := len_mul x z
  have my := len_mul y z
  have mg := len_mul (Nat.gcd x y) z
  have c0 := cut_le l0 4
  have c1 := cut_le l1 4
  have c2 := cut_le l2 3
  have k0 : l0.take ((mn (l0.length : Int) 4) : Int).toNat = l0.take 4 := cutn l0 4
  have k1 : l1.take ((mn (l1.length : Int) 4) : Int).toNat = l1.take 4 := cutn l1 4
  have k2 : l2.take ((mn (l2.length : Int) 3) : Int).toNat = l2.take 3 := cutn l2 3
  have hj : Ev (fun k => chattellaw02_QuotGcd.j0 k (lim x) (lim y) (lim z) (lim (Nat.gcd x y))) true := by
    refine Ev.unroll ?_
    simp only [chattellaw02_QuotGcd.j0]
    refine Ev.bind wakes2 (Ev.pos rfl ?_)
    refine Ev.bind (mul_lim x z (by omega) (by omega)) ?_
    refine Ev.bind (mul_lim y z (by omega) (by omega)) ?_
    have h1 := gcd_ev (y * z) (x * z) (by omega) (by omega)
    rw [Nat.gcd_mul_right] at h1
    refine Ev.bind h1 ?_
    refine Ev.bind (mul_lim (Nat.gcd x y) z (by omega) (by omega)) ?_
    refine Ev.bind (cmp_ev (Nat.gcd x y * z) (Nat.gcd x y * z) (by omega) (by omega)) (Ev.pos (sg_self _) ?_)
    have h2 := gcd_ev x y (by omega) (by omega)
    rw [Nat.gcd_comm y x] at h2
    refine Ev.bind h2 ?_
    refine Ev.bind (f := fun _ t => some (t == 0)) (cmp_ev (Nat.gcd x y) (Nat.gcd x y) (by omega) (by omega)) ?_
    rw [sg_self]
    exact Ev.const rfl
  refine Ev.rounds ?_
  unfold chattellaw02_QuotGcd.f
  refine Ev.pos c0.1 (Ev.pos c0.2 (Ev.pos c1.1 (Ev.pos c1.2 (Ev.pos c2.1 (Ev.pos c2.2 ?_)))))
  rw [k0, k1, k2]
  refine Ev.bind (of_lim vx fx nx (by decide)) ?_
  refine Ev.bind (of_lim vy fy ny (by decide)) ?_
  refine Ev.bind (of_lim vz fz nz (by decide)) ?_
  refine Ev.bind (gcd_ev y x (by omega) (by omega)) ?_
  refine Ev.bind (val10 vx fx nx (by decide)) ?_
  refine Ev.bind (val10 vy fy ny (by decide)) ?_
  refine Ev.bind (dgcd_ev y x (by omega) (by omega)) ?_
  refine Ev.bind (same02 (Nat.gcd x y) (Nat.gcd x y) (by omega) (by omega)) ?_
  rw [decide_eq_true rfl]
  refine Ev.pos rfl ?_
  refine Ev.bindc (zero_eq (Nat.gcd x y)) ?_
  by_cases h : Nat.gcd x y = 0
  · rw [decide_eq_true h]
    exact Ev.pos rfl hj
  · rw [decide_eq_false h]
    refine Ev.neg (by decide) ?_
    refine Ev.bind (div_ev x (Nat.gcd x y) h (by omega) (by omega)) ?_
    refine Ev.bind (div_ev y (Nat.gcd x y) h (by omega) (by omega)) ?_
    have r1 : x % Nat.gcd x y = 0 := Nat.mod_eq_zero_of_dvd (Nat.gcd_dvd_left x y)
    have r2 : y % Nat.gcd x y = 0 := Nat.mod_eq_zero_of_dvd (Nat.gcd_dvd_right x y)
    rw [r1, r2]
    refine Ev.bindc (zero_eq 0) (Ev.pos (by decide) (Ev.bindc (zero_eq 0) (Ev.pos (by decide) hj)))
end Go.Proofs.Ytebjbmgfbejapaa.Pure
