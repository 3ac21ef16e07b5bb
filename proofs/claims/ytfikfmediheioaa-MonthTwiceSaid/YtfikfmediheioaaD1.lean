/- Layers 9 and 10 as plain functions, on: right dates of any numbers, months further. -/
import Derived.Test.YtfikfmediheioaaF15
import Derived.Test.YtfikfmediheioaaF3
import Derived.Test.YtfikfmediheioaaF4
import Derived.Test.YtfikfmediheioaaF9
import Derived.Test.YtfikfmediheioaaD0
namespace Go.Proofs.YtfikfmediheioaaM
open Go.RowKit Go.Proofs.YtfikfmediheioaaW.PrintWords Go.Proofs.YtfikfmediheioaaW.PrintLast Go.Proofs.YtfikfmediheioaaW.PrintMore Go.Proofs.YtfikfmediheioaaX Go.Proofs.Ytfikfmediheioaa.F
set_option linter.unusedVariables false
set_option linter.unusedSimpArgs false

theorem tmod_n {a n : Int} (hn : 0 < n) (hm : n ≤ 10000) (h : Int.tmod a n < 0) : wrap64 (Int.tmod a n + n) = a % n := by
  have h1 := tmod_fix a hn
  rw [if_pos h] at h1
  have h2 := Int.emod_nonneg a (show n ≠ 0 by omega)
  have h3 := Int.emod_lt_of_pos a hn
  rw [wrap_id (by omega), h1]
theorem tmod_p {a n : Int} (hn : 0 < n) (h : ¬ Int.tmod a n < 0) : Int.tmod a n = a % n := by
  have h1 := tmod_fix a hn
  rw [if_neg h] at h1
  exact h1
theorem make_days (y m c : Int) (k : Nat) (hk : 1 < k) (hy : 1 ≤ y ∧ y ≤ 9999) (hm : 1 ≤ m ∧ m ≤ 12) :
    ((chattelref09_Days.f k y m).bind fun t => if t = 0 then (none : Option (Int × Int × Int)) else if Int.tmod c t < 0 then some (y, m, wrap64 (wrap64 (Int.tmod c t + t) + 1)) else some (y, m, wrap64 (Int.tmod c t + 1))) = some (y, m, c % days y m + 1) := by
  rw [ref_days y m k hk, Option.bind_some]
  have h1 := days_in hy hm
  have h2 := dm_bd y m
  generalize days y m = t at *
  rw [if_neg (by omega)]
  have h3 := Int.emod_nonneg c (show t ≠ 0 by omega)
  have h4 := Int.emod_lt_of_pos c (show 0 < t by omega)
  by_cases h : Int.tmod c t < 0
  · rw [if_pos h, tmod_n (by omega) (by omega) h, wrap_id (by omega)]
  · rw [if_neg h, tmod_p (by omega) h, wrap_id (by omega)]
theorem make_eq (a b c n : Int) (hn : 0 < n) (hn2 : n ≤ 9999) (k : Nat) (hk : 2 < k) : chattelref09_Make.f k a b c n = some (made a b c n) := by
  obtain ⟨k, rfl⟩ : ∃ j, k = j + 1 := ⟨k - 1, by omega⟩
  unfold chattelref09_Make.f
  rw [if_neg (by omega)]
  have h1 := Int.emod_nonneg a (show n ≠ 0 by omega)
  have h2 := Int.emod_lt_of_pos a hn
  have h3 := Int.emod_nonneg b (show (12 : Int) ≠ 0 by omega)
  have h4 := Int.emod_lt_of_pos b (show (0 : Int) < 12 by omega)
  have hj : chattelref09_Make.j0 (k + 1) (a % n) a b c = some (made a b c n) := by
    simp only [chattelref09_Make.j0]
    rw [wrap_id (x := a % n + 1) (by omega)]
    by_cases h : Int.tmod b 12 < 0
    · rw [if_pos h, tmod_n (by omega) (by omega) h, wrap_id (x := b % 12 + 1) (by omega)]
      exact make_days _ _ c k (by omega) (by omega) (by omega)
    · rw [if_neg h, tmod_p (by omega) h, wrap_id (x := b % 12 + 1) (by omega)]
      exact make_days _ _ c k (by omega) (by omega) (by omega)
  by_cases h : Int.tmod a n < 0
  · rw [if_pos h, tmod_n hn (by omega) h]
    exact hj
  · rw [if_neg h, tmod_p hn h]
    exact hj
theorem made_right (a b c n : Int) (hn : 0 < n) (hn2 : n ≤ 9999) : Right (made a b c n).1 (made a b c n).2.1 (made a b c n).2.2 ∧ (made a b c n).1 ≤ n := by
  have h1 := Int.emod_nonneg a (show n ≠ 0 by omega)
  have h2 := Int.emod_lt_of_pos a hn
  have h3 := Int.emod_nonneg b (show (12 : Int) ≠ 0 by omega)
  have h4 := Int.emod_lt_of_pos b (show (0 : Int) < 12 by omega)
  have h5 := days_in (y := a % n + 1) (m := b % 12 + 1) (by omega) (by omega)
  have h6 := dm_bd (a % n + 1) (b % 12 + 1)
  unfold made Right
  simp only
  generalize days (a % n + 1) (b % 12 + 1) = t at *
  have h7 := Int.emod_nonneg c (show t ≠ 0 by omega)
  have h8 := Int.emod_lt_of_pos c (show 0 < t by omega)
  omega
/-- Months further: the date, and the error. -/
def addm (y m d n : Int) : Int × Int × Int × Int :=
  if Right y m d then (if n < -119988 ∨ n > 119988 ∨ 12 * y + m - 1 + n < 12 ∨ (12 * y + m - 1 + n) / 12 > 9999 then (0, 0, 0, 11)
    else ((12 * y + m - 1 + n) / 12, (12 * y + m - 1 + n) % 12 + 1, min d (days ((12 * y + m - 1 + n) / 12) ((12 * y + m - 1 + n) % 12 + 1)), 0)) else (0, 0, 0, 11)
theorem add_eq (y m d n : Int) (k : Nat) (hk : 1 < k) : month_Add.f k y m d n = some (addm y m d n) := by
  obtain ⟨k, rfl⟩ : ∃ j, k = j + 1 := ⟨k - 1, by omega⟩
  unfold month_Add.f addm
  rw [date_check y m d _ (by omega), Option.bind_some]
  by_cases h : Right y m d
  · rw [if_pos h, if_pos rfl, if_pos h]
    obtain ⟨hy, hm, hd⟩ := h.in_
    by_cases h1 : n < -119988
    · rw [if_pos h1, if_pos (by omega)]
      simp only [month_Add.j0, if_true]
    · rw [if_neg h1]
      by_cases h2 : n > 119988
      · rw [decide_eq_true h2, if_pos (by omega)]
        simp only [month_Add.j0, if_true]
      · rw [decide_eq_false h2]
        simp only [month_Add.j0]
        rw [if_neg (by decide), wrap_id (x := 12 * y) (by omega), wrap_id (x := 12 * y + m) (by omega), wrap_id (x := 12 * y + m - 1) (by omega), wrap_id (x := 12 * y + m - 1 + n) (by omega)]
        generalize hq : 12 * y + m - 1 + n = q
        by_cases h3 : q < 12
        · rw [if_pos h3, if_pos (by omega)]
        · rw [if_neg h3, tdiv_pos _ (by omega), tmod_pos _ (by omega), wrap_id (x := q / 12) (by omega), wrap_id (x := q % 12 + 1) (by omega)]
          by_cases h4 : q / 12 > 9999
          · rw [if_pos h4, if_pos (by omega)]
          · rw [if_neg h4, if_neg (by omega), date_days _ _ k (by omega), Option.bind_some, mn_eq]
  · rw [if_neg h, if_neg (by decide), if_neg h]
theorem end_eq (y m d : Int) (k : Nat) (hk : 0 < k) : month_End.f k y m d = some (decide (Right y m d ∧ d = days y m)) := by
  unfold month_End.f
  rw [date_check y m d k hk, Option.bind_some]
  by_cases h : Right y m d
  · rw [if_pos h, if_pos rfl, date_days y m k hk, Option.bind_some]
    by_cases e : d = days y m <;> simp [e, h]
    rw [← e]
    exact h
  · rw [if_neg h, if_neg (by decide)]
    simp [h]
end Go.Proofs.YtfikfmediheioaaM
