/- Layer 9 (date) as plain functions: the calendar. -/
import Derived.Test.YtfikfmediheioaaF2
import Derived.Test.YtfikfmediheioaaF3
import Derived.Test.YtfikfmediheioaaF5
import Derived.Test.YtfikfmediheioaaF6
import Derived.Test.YtfikfmediheioaaF7
import Derived.Test.YtfikfmediheioaaF8
import Derived.Test.YtfikfmediheioaaE0
namespace Go.Proofs.YtfikfmediheioaaM
open Go.RowKit Go.Proofs.YtfikfmediheioaaW.PrintWords Go.Proofs.YtfikfmediheioaaW.PrintLast Go.Proofs.YtfikfmediheioaaW.PrintMore Go.Proofs.YtfikfmediheioaaX Go.Proofs.Ytfikfmediheioaa.F
set_option linter.unusedVariables false
set_option linter.unusedSimpArgs false

def leap (y : Int) : Bool := decide ((y % 4 = 0 ∧ y % 100 ≠ 0) ∨ y % 400 = 0)
/-- Days of a month of a year, each as it should be. -/
def dm (y m : Int) : Int := if m = 2 then (if leap y = true then 29 else 28) else if m = 4 ∨ m = 6 ∨ m = 9 ∨ m = 11 then 30 else 31
def days (y m : Int) : Int := if 1 ≤ y ∧ y ≤ 9999 ∧ 1 ≤ m ∧ m ≤ 12 then dm y m else 0
def Right (y m d : Int) : Prop := 1 ≤ d ∧ d ≤ days y m
instance (y m d : Int) : Decidable (Right y m d) := inferInstanceAs (Decidable (_ ∧ _))
theorem dm_bd (y m : Int) : 28 ≤ dm y m ∧ dm y m ≤ 31 := by unfold dm; repeat' split <;> omega
theorem days_in {y m : Int} (h : 1 ≤ y ∧ y ≤ 9999) (h2 : 1 ≤ m ∧ m ≤ 12) : days y m = dm y m := if_pos ⟨h.1, h.2, h2.1, h2.2⟩
theorem days_bd (y m : Int) : 0 ≤ days y m ∧ days y m ≤ 31 := by
  unfold days
  have := dm_bd y m
  split <;> omega
theorem Right.in_ {y m d : Int} (h : Right y m d) : (1 ≤ y ∧ y ≤ 9999) ∧ (1 ≤ m ∧ m ≤ 12) ∧ 1 ≤ d ∧ d ≤ 31 := by
  obtain ⟨h1, h2⟩ := h
  have := days_bd y m
  unfold days at h2 this
  split at h2
  · rename_i h3
    rw [if_pos h3] at this
    exact ⟨⟨h3.1, h3.2.1⟩, ⟨h3.2.2.1, h3.2.2.2⟩, h1, by omega⟩
  · omega
theorem date_leap (y : Int) : date_Leap.f y = some (decide (1 ≤ y ∧ y ≤ 9999) && leap y) := by
  unfold date_Leap.f date_good.f
  by_cases h1 : 1 ≤ y
  · rw [if_pos h1, Option.bind_some]
    by_cases h2 : y ≤ 9999
    · rw [decide_eq_true h2, if_pos rfl, tmod_pos _ (by omega), tmod_pos _ (by omega), tmod_pos _ (by omega)]
      unfold leap
      by_cases a : y % 4 = 0
      · rw [if_pos a]
        by_cases b : y % 100 = 0
        · rw [if_pos b]
          by_cases c : y % 400 = 0 <;> simp [a, b, c, h1, h2]
        · rw [if_neg b]
          simp [a, b, h1, h2]
      · rw [if_neg a]
        have c : ¬ y % 400 = 0 := by omega
        simp [a, c, h1, h2]
    · rw [decide_eq_false h2, if_neg (by decide)]
      simp [h2]
  · rw [if_neg h1, Option.bind_some, if_neg (by decide)]
    simp [h1]
theorem tab12 {m : Int} (h : 1 ≤ m ∧ m ≤ 12) : 0 ≤ wrap64 (m - 1) ∧ wrap64 (m - 1) < 12 ∧
    rd ([31, 28, 31, 30, 31, 30, 31, 31, 30, 31, 30, 31] : List Int) (wrap64 (m - 1)) = if m = 2 then 28 else if m = 4 ∨ m = 6 ∨ m = 9 ∨ m = 11 then 30 else 31 := by
  have : m = 1 ∨ m = 2 ∨ m = 3 ∨ m = 4 ∨ m = 5 ∨ m = 6 ∨ m = 7 ∨ m = 8 ∨ m = 9 ∨ m = 10 ∨ m = 11 ∨ m = 12 := by omega
  rcases this with h | h | h | h | h | h | h | h | h | h | h | h <;> (subst h; decide +kernel)
theorem date_days (y m : Int) (k : Nat) (hk : 0 < k) : date_Days.f k y m = some (days y m) := by
  obtain ⟨k, rfl⟩ : ∃ j, k = j + 1 := ⟨k - 1, by omega⟩
  unfold date_Days.f date_good.f days
  by_cases h1 : 1 ≤ y
  · rw [if_pos h1, Option.bind_some]
    by_cases h2 : y ≤ 9999
    · rw [decide_eq_true h2, if_pos rfl]
      by_cases h3 : m < 1
      · rw [if_pos h3, if_neg (by omega)]
        simp only [date_Days.j0, if_true]
      · rw [if_neg h3]
        by_cases h4 : m > 12
        · rw [decide_eq_true h4, if_neg (by omega)]
          simp only [date_Days.j0, if_true]
        · rw [decide_eq_false h4, if_pos ⟨h1, h2, by omega, by omega⟩]
          obtain ⟨t1, t2, t3⟩ := tab12 (m := m) (by omega)
          simp only [date_Days.j0, date_leap, Option.bind_some, if_pos t1, if_pos t2, t3]
          rw [if_neg (by decide)]
          unfold dm
          by_cases h5 : m = 2
          · simp only [if_pos h5, decide_eq_true (show 1 ≤ y ∧ y ≤ 9999 from ⟨h1, h2⟩), Bool.true_and]
            split <;> rfl
          · simp only [if_neg h5]
    · rw [decide_eq_false h2, if_neg (by decide), if_neg (by omega)]
      simp only [date_Days.j0, if_true]
  · rw [if_neg h1, Option.bind_some, if_neg (by decide), if_neg (by omega)]
    simp only [date_Days.j0, if_true]
theorem date_check (y m d : Int) (k : Nat) (hk : 0 < k) : date_Check.f k y m d = some (if Right y m d then 0 else 11) := by
  unfold date_Check.f
  by_cases h : d < 1
  · rw [if_pos h, if_neg (fun h2 : Right y m d => by have := h2.1; omega)]
  · rw [if_neg h, date_days y m k hk, Option.bind_some]
    by_cases h2 : d > days y m
    · rw [if_pos h2, if_neg (fun h3 : Right y m d => by have := h3.2; omega)]
    · rw [if_neg h2, if_pos (show Right y m d from ⟨by omega, by omega⟩)]
theorem ref_leap (y : Int) (k : Nat) (hk : 0 < k) : chattelref09_Leap.f k y = some (decide (1 ≤ y ∧ y ≤ 9999) && leap y) := by
  obtain ⟨k, rfl⟩ : ∃ j, k = j + 1 := ⟨k - 1, by omega⟩
  unfold chattelref09_Leap.f
  by_cases h1 : y < 1
  · rw [if_pos h1]
    simp only [chattelref09_Leap.j0, if_true]
    rw [decide_eq_false (by omega)]
    rfl
  · rw [if_neg h1]
    by_cases h2 : y > 9999
    · rw [decide_eq_true h2, decide_eq_false (by omega)]
      simp only [chattelref09_Leap.j0, if_true]
      rfl
    · rw [decide_eq_false h2, decide_eq_true (by omega)]
      simp only [chattelref09_Leap.j0]
      rw [if_neg (by decide), tmod_pos _ (by omega), tmod_pos _ (by omega), tmod_pos _ (by omega)]
      unfold leap
      by_cases a : y % 400 = 0
      · simp [a]
      · rw [if_neg a]
        by_cases b : y % 4 = 0
        · rw [if_pos b]
          by_cases c : y % 100 = 0 <;> simp [a, b, c]
        · simp [a, b]
theorem ref_days (y m : Int) (k : Nat) (hk : 1 < k) : chattelref09_Days.f k y m = some (days y m) := by
  obtain ⟨k, rfl⟩ : ∃ j, k = j + 1 := ⟨k - 1, by omega⟩
  unfold chattelref09_Days.f days
  by_cases h1 : y < 1
  · rw [if_pos h1, if_neg (by omega)]
    simp only [chattelref09_Days.j0, if_true]
  · rw [if_neg h1]
    by_cases h2 : y > 9999
    · rw [if_pos h2, if_neg (by omega)]
      simp only [chattelref09_Days.j0, if_true]
    · rw [if_neg h2]
      by_cases h3 : m < 1
      · rw [if_pos h3, if_neg (by omega)]
        simp only [chattelref09_Days.j0, if_true]
      · rw [if_neg h3]
        by_cases h4 : m > 12
        · rw [decide_eq_true h4, if_neg (by omega)]
          simp only [chattelref09_Days.j0, if_true]
        · rw [decide_eq_false h4, if_pos ⟨by omega, by omega, by omega, by omega⟩]
          simp only [chattelref09_Days.j0, ref_leap y k (by omega), Option.bind_some, decide_eq_true (show 1 ≤ y ∧ y ≤ 9999 by omega), Bool.true_and]
          rw [if_neg (by decide)]
          unfold dm
          by_cases h5 : m = 2
          · simp only [if_pos h5]
            split <;> rfl
          · simp only [if_neg h5]
            by_cases a : m = 4
            · simp [a]
            · by_cases b : m = 6
              · simp [b]
              · by_cases c : m = 9
                · simp [c]
                · by_cases d : m = 11
                  · simp [d]
                  · simp [a, b, c, d]
/-- A right date of any numbers. -/
def made (a b c n : Int) : Int × Int × Int := (a % n + 1, b % 12 + 1, c % days (a % n + 1) (b % 12 + 1) + 1)
theorem tmod_fix (a : Int) {n : Int} (hn : 0 < n) : (if Int.tmod a n < 0 then Int.tmod a n + n else Int.tmod a n) = a % n := by
  rw [Int.tmod_eq_emod]
  have h1 := Int.emod_nonneg a (show n ≠ 0 by omega)
  have h2 := Int.emod_lt_of_pos a hn
  split <;> split <;> omega
end Go.Proofs.YtfikfmediheioaaM
