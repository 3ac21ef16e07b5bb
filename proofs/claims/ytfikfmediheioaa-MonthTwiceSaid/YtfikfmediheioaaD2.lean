/- Layer 10 as plain functions, on: series; dates compared. -/
import Derived.Test.YtfikfmediheioaaF0
import Derived.Test.YtfikfmediheioaaF10
import Derived.Test.YtfikfmediheioaaF16
import Derived.Test.YtfikfmediheioaaF22
import Derived.Test.YtfikfmediheioaaF23
import Derived.Test.YtfikfmediheioaaF24
import Derived.Test.YtfikfmediheioaaF25
import Derived.Test.YtfikfmediheioaaD1
namespace Go.Proofs.YtfikfmediheioaaM
open Go.RowKit Go.Proofs.YtfikfmediheioaaW.PrintWords Go.Proofs.YtfikfmediheioaaW.PrintLast Go.Proofs.YtfikfmediheioaaW.PrintMore Go.Proofs.YtfikfmediheioaaX Go.Proofs.Ytfikfmediheioaa.F
set_option linter.unusedVariables false
set_option linter.unusedSimpArgs false

/-- The dates from the j-th on, so many, behind those that are there; and the error. -/
def ser (y m d st : Int) : Nat → Int → List S23 → List S23 × Int
  | 0, _, acc => (acc, 0)
  | r + 1, j, acc => if (addm y m d (j * st)).2.2.2 = 0 then ser y m d st r (j + 1) (acc ++ [⟨(addm y m d (j * st)).1, (addm y m d (j * st)).2.1, (addm y m d (j * st)).2.2.1⟩]) else ([], (addm y m d (j * st)).2.2.2)
theorem series_l0 (y m d s n : Int) (hs : 1 ≤ s) (hn : n ≤ 1200) : ∀ (r : Nat) (j : Int) (acc : List S23), 1 ≤ j → j + r = n + 1 → acc.length + r ≤ 2000 → ∀ k, r + 2 < k → month_Series.l0 k s n acc j y m d = some (ser y m d (min s 119989) r j acc)
  | 0, j, acc, h1, h2, h3, k, hk => by
    obtain ⟨k, rfl⟩ : ∃ q, k = q + 1 := ⟨k - 1, by omega⟩
    simp only [month_Series.l0]
    rw [if_neg (by omega)]
    rfl
  | r + 1, j, acc, h1, h2, h3, k, hk => by
    obtain ⟨k, rfl⟩ : ∃ q, k = q + 1 := ⟨k - 1, by omega⟩
    simp only [month_Series.l0]
    have hb : 0 ≤ j * min s 119989 ∧ j * min s 119989 ≤ 1200 * 119989 := ⟨Int.mul_nonneg (by omega) (by omega), Int.mul_le_mul (by omega) (by omega) (by omega) (by omega)⟩
    rw [if_pos (by omega), mn_eq, wrap_id (x := j * min s 119989) (by omega), add_eq _ _ _ _ k (by omega), Option.bind_some]
    unfold ser
    by_cases h : (addm y m d (j * min s 119989)).2.2.2 = 0
    · rw [if_pos h, if_pos (by omega), if_pos h, wrap_id (x := j + 1) (by omega)]
      exact series_l0 y m d s n hs hn r (j + 1) _ (by omega) (by omega) (by simp; omega) k (by omega)
    · rw [if_neg h, if_neg h]
theorem series_eq (y m d s n : Int) (k : Nat) (hk : 1300 < k) : month_Series.f k y m d s n =
    some (if s < 1 ∨ n < 0 ∨ n > 1200 then ([], 2) else if Right y m d then ser y m d (min s 119989) n.toNat 1 [] else ([], 11)) := by
  obtain ⟨k, rfl⟩ : ∃ q, k = q + 1 := ⟨k - 1, by omega⟩
  unfold month_Series.f
  by_cases h1 : s < 1
  · rw [if_pos h1, if_pos (by omega)]
    simp only [month_Series.j0, if_true]
  · rw [if_neg h1]
    by_cases h2 : n < 0
    · rw [if_pos h2, if_pos (by omega)]
      simp only [month_Series.j0, if_true]
    · rw [if_neg h2]
      by_cases h3 : n > 1200
      · rw [decide_eq_true h3, if_pos (by omega)]
        simp only [month_Series.j0, if_true]
      · rw [decide_eq_false h3, if_neg (by omega)]
        simp only [month_Series.j0]
        rw [if_neg (by decide), date_check y m d k (by omega), Option.bind_some]
        by_cases h4 : Right y m d
        · rw [if_pos h4, if_pos rfl, if_pos h4]
          exact series_l0 y m d s n (by omega) (by omega) n.toNat 1 [] (by omega) (by omega) (by simp; omega) k (by omega)
        · rw [if_neg h4, if_neg (by decide), if_neg h4]
def sgI (a b : Int) : Int := if a < b then -1 else if a > b then 1 else 0
theorem cmpI (a b : Int) : cmp_Compare_int.f a b = some (sgI a b) := by
  unfold cmp_Compare_int.f cmp_isNaN_int.f sgI
  simp only [bne_self_eq_false, Option.bind_some]
  rw [if_neg (by decide), if_neg (by decide)]
  by_cases h : a < b
  · rw [if_pos h, if_pos h]
  · rw [if_neg h, if_neg h]
    by_cases h2 : a > b
    · rw [if_pos h2, if_pos h2]
    · rw [if_neg h2, if_neg h2]
def or3 (a b c : Int) : Int := if a = 0 then (if b = 0 then c else b) else a
theorem or3_eq (a b c : Int) (k : Nat) (hk : 3 < k) : cmp_Or_int.f k [a, b, c] = some (or3 a b c) := by
  obtain ⟨k, rfl⟩ : ∃ q, k = q + 4 := ⟨k - 4, by omega⟩
  have r0 : rd [a, b, c] 0 = a := rfl
  have r1 : rd [a, b, c] 1 = b := rfl
  have r2 : rd [a, b, c] 2 = c := rfl
  unfold cmp_Or_int.f or3
  simp only [cmp_Or_int.l0, List.length_cons, List.length_nil]
  have w1 : wrap64 (0 + 1) = 1 := wrap_id (by decide)
  have w2 : wrap64 (1 + 1) = 2 := wrap_id (by decide)
  have w3 : wrap64 (2 + 1) = 3 := wrap_id (by decide)
  rw [if_pos (by decide), if_pos (by decide), if_pos (by decide), r0]
  by_cases ha : a = 0
  · rw [if_pos ha, if_pos ha, w1, if_pos (by decide), if_pos (by decide), if_pos (by decide), r1]
    by_cases hb : b = 0
    · rw [if_pos hb, if_pos hb, w2, if_pos (by decide), if_pos (by decide), if_pos (by decide), r2]
      by_cases hc : c = 0
      · rw [if_pos hc, w3, if_neg (by decide), hc]
      · rw [if_neg hc]
    · rw [if_neg hb, if_neg hb]
  · rw [if_neg ha, if_neg ha]
theorem cmp_eq (y m d y2 m2 d2 : Int) (k : Nat) (hk : 3 < k) : date_Cmp.f k y m d y2 m2 d2 = some (or3 (sgI y y2) (sgI m m2) (sgI d d2)) := by
  unfold date_Cmp.f
  simp only [cmpI, Option.bind_some, or3_eq _ _ _ k hk]
theorem wakes10 : Ev (fun k => chattellaw10_wakes.f k) true := Ev.of (fun k => chattellaw10_wakes.mono k) (k := 8) (by decide +kernel)
end Go.Proofs.YtfikfmediheioaaM
