-- Joined of: D0 D1a D3 D6 D7 D2c D8 D9 D10 PureDateTexts
import Derived.Test.YtfikfmediheioaaJF0215b
import Derived.Test.YtfikfmediheioaaF2
import Derived.Test.YtfikfmediheioaaF3
import Derived.Test.YtfikfmediheioaaF5
import Derived.Test.YtfikfmediheioaaF6
import Derived.Test.YtfikfmediheioaaF7
import Derived.Test.YtfikfmediheioaaF8
import Derived.Test.YtfikfmediheioaaE0
import Derived.Test.YtfikfmediheioaaF11
import Derived.Test.YtfikfmediheioaaF4
import Derived.Test.YtfikfmediheioaaF18
import Derived.Test.YtfikfmediheioaaF19
import Derived.Test.YtfikfmediheioaaF30
import Derived.Test.YtfikfmediheioaaF33
import Derived.Test.YtfikfmediheioaaF36
import Derived.Test.YtfikfmediheioaaF22
import Derived.Test.YtfikfmediheioaaF23
import Derived.Test.YtfikfmediheioaaF38
import Derived.Test.YtfikfmediheioaaF45
import Derived.Test.YtfikfmediheioaaF27
import Derived.Test.YtfikfmediheioaaF28
import Derived.Test.YtfikfmediheioaaF29
import Derived.Test.YtfikfmediheioaaF31
import Derived.Test.YtfikfmediheioaaF32
import Derived.Test.YtfikfmediheioaaF34
import Derived.Test.YtfikfmediheioaaF35
import Derived.Test.YtfikfmediheioaaF40
import Derived.Test.YtfikfmediheioaaF41
section
/- Layer 9 (date) as plain functions: the calendar. -/
namespace Go.Proofs.YtfikfmediheioaaM
open Go.RowKit Go.Proofs.YtfikfmediheioaaW.PrintWords Go.Proofs.YtfikfmediheioaaW.PrintLast Go.Proofs.YtfikfmediheioaaW.PrintMore Go.Proofs.YtfikfmediheioaaX Go.Proofs.Ytfikfmediheioaa.F
set_option linter.unusedVariables false
set_option linter.unusedSimpArgs false

def leap (y : Int) : Bool := decide ((y % 4 = 0 ∧ y % 100 ≠ 0) ∨ y % 400 = 0)
/-- Days of a month of a year, each as it should be. -/
def dm (y m : Int) : Int := if m = 2 then (if leap y = true then 29 else 28) else if m = 4 ∨ m = 6 ∨ m = 9 ∨ m = 11 then 30 else 31
def days (y m : Int) : Int := if 1 ≤ y ∧ y ≤ 9999 ∧ 1 ≤ m ∧ m ≤ 12 then dm y m else 0
def Right (y m d : Int) : Prop := 1 ≤ d ∧ d ≤ days y m
instance (y m d : Int) : Decidable (Right y m d) := inferInstanceAs (Decidable (_ ∧ _))
theorem dm_bd (y m : Int) : 28 ≤ dm y m ∧ dm y m ≤ 31 := by unfold dm; repeat' split <;> omega
theorem days_in {y m : Int} (h : 1 ≤ y ∧ y ≤ 9999) (h2 : 1 ≤ m ∧ m ≤ 12) : days y m = dm y m := if_pos ⟨h.1, h.2, h2.1, h2.2⟩
theorem days_bd (y m : Int) : 0 ≤ days y m ∧ days y m ≤ 31 := by
  unfold days
  have := dm_bd y m
  split <;> omega
theorem Right.in_ {y m d : Int} (h : Right y m d) : (1 ≤ y ∧ y ≤ 9999) ∧ (1 ≤ m ∧ m ≤ 12) ∧ 1 ≤ d ∧ d ≤ 31 := by
  obtain ⟨h1, h2⟩ := h
  have := days_bd y m
  unfold days at h2 this
  split at h2
  · rename_i h3
    rw [if_pos h3] at this
    exact ⟨⟨h3.1, h3.2.1⟩, ⟨h3.2.2.1, h3.2.2.2⟩, h1, by omega⟩
  · omega
theorem date_leap (y : Int) : date_Leap.f y = some (decide (1 ≤ y ∧ y ≤ 9999) && leap y) := by
  unfold date_Leap.f date_good.f
  by_cases h1 : 1 ≤ y
  · rw [if_pos h1, Option.bind_some]
    by_cases h2 : y ≤ 9999
    · rw [decide_eq_true h2, if_pos rfl, tmod_pos _ (by omega), tmod_pos _ (by omega), tmod_pos _ (by omega)]
      unfold leap
      by_cases a : y % 4 = 0
      · rw [if_pos a]
        by_cases b : y % 100 = 0
        · rw [if_pos b]
          by_cases c : y % 400 = 0 <;> simp [a, b, c, h1, h2]
        · rw [if_neg b]
          simp [a, b, h1, h2]
      · rw [if_neg a]
        have c : ¬ y % 400 = 0 := by omega
        simp [a, c, h1, h2]
    · rw [decide_eq_false h2, if_neg (by decide)]
      simp [h2]
  · rw [if_neg h1, Option.bind_some, if_neg (by decide)]
    simp [h1]
theorem tab12 {m : Int} (h : 1 ≤ m ∧ m ≤ 12) : 0 ≤ wrap64 (m - 1) ∧ wrap64 (m - 1) < 12 ∧
    rd ([31, 28, 31, 30, 31, 30, 31, 31, 30, 31, 30, 31] : List Int) (wrap64 (m - 1)) = if m = 2 then 28 else if m = 4 ∨ m = 6 ∨ m = 9 ∨ m = 11 then 30 else 31 := by
  have : m = 1 ∨ m = 2 ∨ m = 3 ∨ m = 4 ∨ m = 5 ∨ m = 6 ∨ m = 7 ∨ m = 8 ∨ m = 9 ∨ m = 10 ∨ m = 11 ∨ m = 12 := by omega
  rcases this with h | h | h | h | h | h | h | h | h | h | h | h <;> (subst h; decide +kernel)
theorem date_days (y m : Int) (k : Nat) (hk : 0 < k) : date_Days.f k y m = some (days y m) := by
  obtain ⟨k, rfl⟩ : ∃ j, k = j + 1 := ⟨k - 1, by omega⟩
  unfold date_Days.f date_good.f days
  by_cases h1 : 1 ≤ y
  · rw [if_pos h1, Option.bind_some]
    by_cases h2 : y ≤ 9999
    · rw [decide_eq_true h2, if_pos rfl]
      by_cases h3 : m < 1
      · rw [if_pos h3, if_neg (by omega)]
        simp only [date_Days.j0, if_true]
      · rw [if_neg h3]
        by_cases h4 : m > 12
        · rw [decide_eq_true h4, if_neg (by omega)]
          simp only [date_Days.j0, if_true]
        · rw [decide_eq_false h4, if_pos ⟨h1, h2, by omega, by omega⟩]
          obtain ⟨t1, t2, t3⟩ := tab12 (m := m) (by omega)
          simp only [date_Days.j0, date_leap, Option.bind_some, if_pos t1, if_pos t2, t3]
          rw [if_neg (by decide)]
          unfold dm
          by_cases h5 : m = 2
          · simp only [if_pos h5, decide_eq_true (show 1 ≤ y ∧ y ≤ 9999 from ⟨h1, h2⟩), Bool.true_and]
            split <;> rfl
          · simp only [if_neg h5]
    · rw [decide_eq_false h2, if_neg (by decide), if_neg (by omega)]
      simp only [date_Days.j0, if_true]
  · rw [if_neg h1, Option.bind_some, if_neg (by decide), if_neg (by omega)]
    simp only [date_Days.j0, if_true]
theorem date_check (y m d : Int) (k : Nat) (hk : 0 < k) : date_Check.f k y m d = some (if Right y m d then 0 else 11) := by
  unfold date_Check.f
  by_cases h : d < 1
  · rw [if_pos h, if_neg (fun h2 : Right y m d => by have := h2.1; omega)]
  · rw [if_neg h, date_days y m k hk, Option.bind_some]
    by_cases h2 : d > days y m
    · rw [if_pos h2, if_neg (fun h3 : Right y m d => by have := h3.2; omega)]
    · rw [if_neg h2, if_pos (show Right y m d from ⟨by omega, by omega⟩)]
theorem ref_leap (y : Int) (k : Nat) (hk : 0 < k) : chattelref09_Leap.f k y = some (decide (1 ≤ y ∧ y ≤ 9999) && leap y) := by
  obtain ⟨k, rfl⟩ : ∃ j, k = j + 1 := ⟨k - 1, by omega⟩
  unfold chattelref09_Leap.f
  by_cases h1 : y < 1
  · rw [if_pos h1]
    simp only [chattelref09_Leap.j0, if_true]
    rw [decide_eq_false (by omega)]
    rfl
  · rw [if_neg h1]
    by_cases h2 : y > 9999
    · rw [decide_eq_true h2, decide_eq_false (by omega)]
      simp only [chattelref09_Leap.j0, if_true]
      rfl
    · rw [decide_eq_false h2, decide_eq_true (by omega)]
      simp only [chattelref09_Leap.j0]
      rw [if_neg (by decide), tmod_pos _ (by omega), tmod_pos _ (by omega), tmod_pos _ (by omega)]
      unfold leap
      by_cases a : y % 400 = 0
      · simp [a]
      · rw [if_neg a]
        by_cases b : y % 4 = 0
        · rw [if_pos b]
          by_cases c : y % 100 = 0 <;> simp [a, b, c]
        · simp [a, b]
theorem ref_days (y m : Int) (k : Nat) (hk : 1 < k) : chattelref09_Days.f k y m = some (days y m) := by
  obtain ⟨k, rfl⟩ : ∃ j, k = j + 1 := ⟨k - 1, by omega⟩
  unfold chattelref09_Days.f days
  by_cases h1 : y < 1
  · rw [if_pos h1, if_neg (by omega)]
    simp only [chattelref09_Days.j0, if_true]
  · rw [if_neg h1]
    by_cases h2 : y > 9999
    · rw [if_pos h2, if_neg (by omega)]
      simp only [chattelref09_Days.j0, if_true]
    · rw [if_neg h2]
      by_cases h3 : m < 1
      · rw [if_pos h3, if_neg (by omega)]
        simp only [chattelref09_Days.j0, if_true]
      · rw [if_neg h3]
        by_cases h4 : m > 12
        · rw [decide_eq_true h4, if_neg (by omega)]
          simp only [chattelref09_Days.j0, if_true]
        · rw [decide_eq_false h4, if_pos ⟨by omega, by omega, by omega, by omega⟩]
          simp only [chattelref09_Days.j0, ref_leap y k (by omega), Option.bind_some, decide_eq_true (show 1 ≤ y ∧ y ≤ 9999 by omega), Bool.true_and]
          rw [if_neg (by decide)]
          unfold dm
          by_cases h5 : m = 2
          · simp only [if_pos h5]
            split <;> rfl
          · simp only [if_neg h5]
            by_cases a : m = 4
            · simp [a]
            · by_cases b : m = 6
              · simp [b]
              · by_cases c : m = 9
                · simp [c]
                · by_cases d : m = 11
                  · simp [d]
                  · simp [a, b, c, d]
/-- A right date of any numbers. -/
def made (a b c n : Int) : Int × Int × Int := (a % n + 1, b % 12 + 1, c % days (a % n + 1) (b % 12 + 1) + 1)
theorem tmod_fix (a : Int) {n : Int} (hn : 0 < n) : (if Int.tmod a n < 0 then Int.tmod a n + n else Int.tmod a n) = a % n := by
  rw [Int.tmod_eq_emod]
  have h1 := Int.emod_nonneg a (show n ≠ 0 by omega)
  have h2 := Int.emod_lt_of_pos a hn
  split <;> split <;> omega
end Go.Proofs.YtfikfmediheioaaM
end

section
/- Layer 9 (date) as plain functions, on: right dates of any numbers. -/
namespace Go.Proofs.YtfikfmediheioaaM
open Go.RowKit Go.Proofs.YtfikfmediheioaaW.PrintWords Go.Proofs.YtfikfmediheioaaW.PrintLast Go.Proofs.YtfikfmediheioaaW.PrintMore Go.Proofs.YtfikfmediheioaaX Go.Proofs.Ytfikfmediheioaa.F
set_option linter.unusedVariables false
set_option linter.unusedSimpArgs false

theorem tmod_n {a n : Int} (hn : 0 < n) (hm : n ≤ 10000) (h : Int.tmod a n < 0) : wrap64 (Int.tmod a n + n) = a % n := by
  have h1 := tmod_fix a hn
  rw [if_pos h] at h1
  have h2 := Int.emod_nonneg a (show n ≠ 0 by omega)
  have h3 := Int.emod_lt_of_pos a hn
  rw [wrap_id (by omega), h1]
theorem tmod_p {a n : Int} (hn : 0 < n) (h : ¬ Int.tmod a n < 0) : Int.tmod a n = a % n := by
  have h1 := tmod_fix a hn
  rw [if_neg h] at h1
  exact h1
theorem make_days (y m c : Int) (k : Nat) (hk : 1 < k) (hy : 1 ≤ y ∧ y ≤ 9999) (hm : 1 ≤ m ∧ m ≤ 12) :
    ((chattelref09_Days.f k y m).bind fun t => if t = 0 then (none : Option (Int × Int × Int)) else if Int.tmod c t < 0 then some (y, m, wrap64 (wrap64 (Int.tmod c t + t) + 1)) else some (y, m, wrap64 (Int.tmod c t + 1))) = some (y, m, c % days y m + 1) := by
  rw [ref_days y m k hk, Option.bind_some]
  have h1 := days_in hy hm
  have h2 := dm_bd y m
  generalize days y m = t at *
  rw [if_neg (by omega)]
  have h3 := Int.emod_nonneg c (show t ≠ 0 by omega)
  have h4 := Int.emod_lt_of_pos c (show 0 < t by omega)
  by_cases h : Int.tmod c t < 0
  · rw [if_pos h, tmod_n (by omega) (by omega) h, wrap_id (by omega)]
  · rw [if_neg h, tmod_p (by omega) h, wrap_id (by omega)]
theorem make_eq (a b c n : Int) (hn : 0 < n) (hn2 : n ≤ 9999) (k : Nat) (hk : 2 < k) : chattelref09_Make.f k a b c n = some (made a b c n) := by
  obtain ⟨k, rfl⟩ : ∃ j, k = j + 1 := ⟨k - 1, by omega⟩
  unfold chattelref09_Make.f
  rw [if_neg (by omega)]
  have h1 := Int.emod_nonneg a (show n ≠ 0 by omega)
  have h2 := Int.emod_lt_of_pos a hn
  have h3 := Int.emod_nonneg b (show (12 : Int) ≠ 0 by omega)
  have h4 := Int.emod_lt_of_pos b (show (0 : Int) < 12 by omega)
  have hj : chattelref09_Make.j0 (k + 1) (a % n) a b c = some (made a b c n) := by
    simp only [chattelref09_Make.j0]
    rw [wrap_id (x := a % n + 1) (by omega)]
    by_cases h : Int.tmod b 12 < 0
    · rw [if_pos h, tmod_n (by omega) (by omega) h, wrap_id (x := b % 12 + 1) (by omega)]
      exact make_days _ _ c k (by omega) (by omega) (by omega)
    · rw [if_neg h, tmod_p (by omega) h, wrap_id (x := b % 12 + 1) (by omega)]
      exact make_days _ _ c k (by omega) (by omega) (by omega)
  by_cases h : Int.tmod a n < 0
  · rw [if_pos h, tmod_n hn (by omega) h]
    exact hj
  · rw [if_neg h, tmod_p hn h]
    exact hj
theorem made_right (a b c n : Int) (hn : 0 < n) (hn2 : n ≤ 9999) : Right (made a b c n).1 (made a b c n).2.1 (made a b c n).2.2 ∧ (made a b c n).1 ≤ n := by
  have h1 := Int.emod_nonneg a (show n ≠ 0 by omega)
  have h2 := Int.emod_lt_of_pos a hn
  have h3 := Int.emod_nonneg b (show (12 : Int) ≠ 0 by omega)
  have h4 := Int.emod_lt_of_pos b (show (0 : Int) < 12 by omega)
  have h5 := days_in (y := a % n + 1) (m := b % 12 + 1) (by omega) (by omega)
  have h6 := dm_bd (a % n + 1) (b % 12 + 1)
  unfold made Right
  simp only
  generalize days (a % n + 1) (b % 12 + 1) = t at *
  have h7 := Int.emod_nonneg c (show t ≠ 0 by omega)
  have h8 := Int.emod_lt_of_pos c (show 0 < t by omega)
  omega
theorem ref_right (y m d : Int) (k : Nat) (hk : 1 < k) : chattelref09_Right.f k y m d = some (decide (Right y m d)) := by
  unfold chattelref09_Right.f
  rw [ref_days y m k hk, Option.bind_some]
  unfold Right
  by_cases h : d ≥ 1
  · rw [if_pos h]
    simp [h]
  · rw [if_neg h]
    simp [h]
end Go.Proofs.YtfikfmediheioaaM
end

section
/- Layer 9 as plain functions, on: a date's number. -/
namespace Go.Proofs.YtfikfmediheioaaM
open Go.RowKit Go.Proofs.YtfikfmediheioaaW.PrintWords Go.Proofs.YtfikfmediheioaaW.PrintLast Go.Proofs.YtfikfmediheioaaW.PrintMore Go.Proofs.YtfikfmediheioaaX Go.Proofs.Ytfikfmediheioaa.F
set_option linter.unusedVariables false
set_option linter.unusedSimpArgs false

def aheadOf (y : Int) : Int := 365 * (y - 1) + (y - 1) / 4 - (y - 1) / 100 + (y - 1) / 400
theorem ahead_eq (y : Int) (h : 1 ≤ y ∧ y ≤ 10000) : date_ahead.f y = some (aheadOf y) := by
  unfold date_ahead.f aheadOf
  have e0 : wrap64 (y - 1) = y - 1 := wrap_id (by omega)
  rw [e0, tdiv_pos _ (by omega), tdiv_pos _ (by omega), tdiv_pos _ (by omega)]
  have hz : 0 ≤ y - 1 ∧ y - 1 ≤ 9999 := by omega
  clear e0
  generalize y - 1 = z at *
  rw [wrap_id (x := 365 * z) (by omega), wrap_id (x := z / 4) (by omega), wrap_id (x := z / 100) (by omega), wrap_id (x := z / 400) (by omega), wrap_id (x := 365 * z + z / 4) (by omega), wrap_id (x := 365 * z + z / 4 - z / 100) (by omega), wrap_id (by omega)]
theorem ahead_bd (y : Int) (h : 1 ≤ y ∧ y ≤ 10000) : 0 ≤ aheadOf y ∧ aheadOf y ≤ 3652059 := by unfold aheadOf; omega
/-- The days of a year's first months, so many. -/
def mdays (y : Int) : Nat → Int
  | 0 => 0
  | t + 1 => mdays y t + days y ((t + 1 : Nat) : Int)
theorem mdays_bd (y : Int) : ∀ t : Nat, 0 ≤ mdays y t ∧ mdays y t ≤ 31 * t
  | 0 => by simp [mdays]
  | t + 1 => by
    have := mdays_bd y t
    have := days_bd y ((t + 1 : Nat) : Int)
    unfold mdays
    omega
/-- A date's number. -/
def num (y m d : Int) : Int := aheadOf y + mdays y (m - 1).toNat + d
theorem number_l0 (y d : Int) (M : Nat) (hM : M ≤ 11) (hd : 0 ≤ d ∧ d ≤ 31) (b : Int) (hb : 0 ≤ b ∧ b ≤ 3652059) (r : Nat) : ∀ (t : Nat), t + r = M → ∀ k, r + 1 < k →
    date_Number.l0 k (b + mdays y t) ((t + 1 : Nat) : Int) y ((M + 1 : Nat) : Int) d = some (b + mdays y M + d, 0) := by
  induction r with
  | zero =>
    intro t h k hk
    obtain ⟨k, rfl⟩ : ∃ q, k = q + 1 := ⟨k - 1, by omega⟩
    have ht : t = M := by omega
    subst ht
    have := mdays_bd y t
    simp only [date_Number.l0]
    rw [if_neg (by omega), wrap_id (by omega)]
  | succ r ih =>
    intro t h k hk
    obtain ⟨k, rfl⟩ : ∃ q, k = q + 1 := ⟨k - 1, by omega⟩
    have h1 := mdays_bd y t
    have h2 := days_bd y ((t + 1 : Nat) : Int)
    have h3 : b + mdays y t + days y ((t + 1 : Nat) : Int) = b + mdays y (t + 1) := by rw [mdays, Int.add_assoc]
    simp only [date_Number.l0]
    rw [if_pos (by omega), date_days y _ k (by omega), Option.bind_some, wrap_id (by omega), wrap_id (x := ((t + 1 : Nat) : Int) + 1) (by omega), h3]
    exact ih (t + 1) (by omega) k (by omega)
theorem number_eq (y m d : Int) (k : Nat) (hk : 14 < k) : date_Number.f k y m d = some (if Right y m d then (num y m d, 0) else (0, 11)) := by
  unfold date_Number.f
  rw [date_check y m d k (by omega), Option.bind_some]
  by_cases h : Right y m d
  · obtain ⟨hy, hm, hd⟩ := h.in_
    rw [if_pos h, if_pos rfl, if_pos h, ahead_eq y (by omega), Option.bind_some]
    obtain ⟨M, hM⟩ : ∃ M : Nat, m = ((M + 1 : Nat) : Int) := ⟨(m - 1).toNat, by omega⟩
    have := number_l0 y d M (by omega) (by omega) (aheadOf y) (ahead_bd y (by omega)) M 0 (by omega) k (by omega)
    rw [mdays, Int.add_zero, ← hM] at this
    unfold num
    rw [show (m - 1).toNat = M by omega]
    exact this
  · rw [if_neg h, if_neg (by decide), if_neg h]
theorem num_bd {y m d : Int} (h : Right y m d) : 1 ≤ num y m d ∧ num y m d ≤ 4000000 := by
  obtain ⟨hy, hm, hd⟩ := h.in_
  have h1 := ahead_bd y (by omega)
  have h2 := mdays_bd y (m - 1).toNat
  unfold num
  omega
end Go.Proofs.YtfikfmediheioaaM
end

section
/- Layer 9 as plain functions, on: the document's number of a date; the date of a number. -/
namespace Go.Proofs.YtfikfmediheioaaM
open Go.RowKit Go.Proofs.YtfikfmediheioaaW.PrintWords Go.Proofs.YtfikfmediheioaaW.PrintLast Go.Proofs.YtfikfmediheioaaW.PrintMore Go.Proofs.YtfikfmediheioaaX Go.Proofs.Ytfikfmediheioaa.F
set_option linter.unusedVariables false
set_option linter.unusedSimpArgs false

theorem ahead_step (y : Int) (h : 1 ≤ y) : aheadOf (y + 1) = aheadOf y + (if leap y = true then 366 else 365) := by
  unfold aheadOf leap
  by_cases a : y % 4 = 0
  · by_cases b : y % 100 = 0
    · by_cases c : y % 400 = 0
      · simp only [a, b, c]
        simp
        omega
      · simp only [a, b, c]
        simp
        omega
    · have c : ¬ y % 400 = 0 := by omega
      simp only [a, b, c]
      simp
      omega
  · have b : ¬ y % 100 = 0 := by omega
    have c : ¬ y % 400 = 0 := by omega
    simp only [a, b, c]
    simp
    omega
theorem year_days {y : Int} (h : 1 ≤ y ∧ y ≤ 9999) : mdays y 12 = (if leap y = true then 366 else 365) := by
  simp only [mdays]
  simp only [days_in h (show 1 ≤ ((1 : Nat) : Int) ∧ ((1 : Nat) : Int) ≤ 12 by omega), days_in h (show 1 ≤ ((2 : Nat) : Int) ∧ ((2 : Nat) : Int) ≤ 12 by omega), days_in h (show 1 ≤ ((3 : Nat) : Int) ∧ ((3 : Nat) : Int) ≤ 12 by omega), days_in h (show 1 ≤ ((4 : Nat) : Int) ∧ ((4 : Nat) : Int) ≤ 12 by omega), days_in h (show 1 ≤ ((5 : Nat) : Int) ∧ ((5 : Nat) : Int) ≤ 12 by omega), days_in h (show 1 ≤ ((6 : Nat) : Int) ∧ ((6 : Nat) : Int) ≤ 12 by omega), days_in h (show 1 ≤ ((7 : Nat) : Int) ∧ ((7 : Nat) : Int) ≤ 12 by omega), days_in h (show 1 ≤ ((8 : Nat) : Int) ∧ ((8 : Nat) : Int) ≤ 12 by omega), days_in h (show 1 ≤ ((9 : Nat) : Int) ∧ ((9 : Nat) : Int) ≤ 12 by omega), days_in h (show 1 ≤ ((10 : Nat) : Int) ∧ ((10 : Nat) : Int) ≤ 12 by omega), days_in h (show 1 ≤ ((11 : Nat) : Int) ∧ ((11 : Nat) : Int) ≤ 12 by omega), days_in h (show 1 ≤ ((12 : Nat) : Int) ∧ ((12 : Nat) : Int) ≤ 12 by omega)]
  cases e : leap y <;> simp [dm, e]
theorem ahead_next {y : Int} (h : 1 ≤ y ∧ y ≤ 9999) : aheadOf (y + 1) = aheadOf y + mdays y 12 := by
  rw [ahead_step y h.1, year_days h]
theorem mdays_le (y : Int) (t : Nat) : ∀ s : Nat, mdays y t ≤ mdays y (t + s)
  | 0 => by simp
  | s + 1 => by
    have h1 := mdays_le y t s
    have h2 := days_bd y ((t + s + 1 : Nat) : Int)
    rw [show t + (s + 1) = (t + s) + 1 by omega, mdays]
    omega
theorem mdays_mono (y : Int) {t s : Nat} (h : t ≤ s) : mdays y t ≤ mdays y s := by
  have := mdays_le y t (s - t)
  rwa [show t + (s - t) = s by omega] at this
theorem ahead_le (y : Int) (hy : 1 ≤ y) : ∀ s : Nat, aheadOf y + 365 * s ≤ aheadOf (y + s)
  | 0 => by simp
  | s + 1 => by
    have h1 := ahead_le y hy s
    have h2 := ahead_step (y + s) (by omega)
    rw [show y + ((s + 1 : Nat) : Int) = y + s + 1 by omega, h2]
    split <;> omega
theorem ahead_mono {y z : Int} (hy : 1 ≤ y) (h : y ≤ z) : aheadOf y ≤ aheadOf z := by
  have := ahead_le y hy (z - y).toNat
  rw [show y + (((z - y).toNat : Nat) : Int) = z by omega] at this
  omega
/-- A right date's number is within its year, and within its month. -/
theorem num_in {y m d : Int} (h : Right y m d) : aheadOf y < num y m d ∧ num y m d ≤ aheadOf (y + 1) ∧ num y m d ≤ aheadOf y + mdays y m.toNat := by
  obtain ⟨hy, hm, hd⟩ := h.in_
  have h1 := (mdays_bd y (m - 1).toNat).1
  have h2 : mdays y m.toNat = mdays y (m - 1).toNat + days y m := by
    rw [show m.toNat = (m - 1).toNat + 1 by omega, mdays, show (((m - 1).toNat + 1 : Nat) : Int) = m by omega]
  have h3 := mdays_mono y (show m.toNat ≤ 12 by omega)
  have h4 := ahead_next hy
  have h5 := h.2
  unfold num
  omega
theorem num_top {y m d : Int} (h : Right y m d) : 1 ≤ num y m d ∧ num y m d ≤ 3652059 := by
  obtain ⟨hy, hm, hd⟩ := h.in_
  have h1 := num_in h
  have h2 := ahead_bd y (by omega)
  have h3 := ahead_bd (y + 1) (by omega)
  omega
theorem num_year {y m d y2 m2 d2 : Int} (h : Right y m d) (h2 : Right y2 m2 d2) (hl : y < y2) : num y m d < num y2 m2 d2 := by
  obtain ⟨hy, hm, hd⟩ := h.in_
  have a := num_in h
  have b := num_in h2
  have c := ahead_mono (y := y + 1) (z := y2) (by omega) (by omega)
  omega
theorem num_month {y m d m2 d2 : Int} (h : Right y m d) (h2 : Right y m2 d2) (hl : m < m2) : num y m d < num y m2 d2 := by
  obtain ⟨hy, hm, hd⟩ := h.in_
  obtain ⟨hy2, hm2, hd2⟩ := h2.in_
  have a := num_in h
  have c := mdays_mono y (show m.toNat ≤ (m2 - 1).toNat by omega)
  have e : num y m2 d2 = aheadOf y + mdays y (m2 - 1).toNat + d2 := rfl
  omega
theorem num_day {y m d d2 : Int} (hl : d < d2) : num y m d < num y m d2 := by unfold num; omega
/-- A number is one date's alone. -/
theorem num_inj {y m d y2 m2 d2 : Int} (h : Right y m d) (h2 : Right y2 m2 d2) (e : num y m d = num y2 m2 d2) : y = y2 ∧ m = m2 ∧ d = d2 := by
  have ey : y = y2 := by
    rcases Int.lt_trichotomy y y2 with a | a | a
    · have := num_year h h2 a; omega
    · exact a
    · have := num_year h2 h a; omega
  subst ey
  have em : m = m2 := by
    rcases Int.lt_trichotomy m m2 with a | a | a
    · have := num_month h h2 a; omega
    · exact a
    · have := num_month h2 h a; omega
  subst em
  refine ⟨rfl, rfl, ?_⟩
  unfold num at e
  omega
theorem refnum_l1 (y d : Int) (M : Nat) (hM : M ≤ 11) (hd : 0 ≤ d ∧ d ≤ 31) (b : Int) (hb : 0 ≤ b ∧ b ≤ 3652059) (r : Nat) : ∀ (t : Nat), t + r = M → ∀ k, r + 2 < k →
    chattelref09_Number.l1 k (b + mdays y t) ((t + 1 : Nat) : Int) y ((M + 1 : Nat) : Int) d = some (b + mdays y M + d) := by
  induction r with
  | zero =>
    intro t h k hk
    obtain ⟨k, rfl⟩ : ∃ q, k = q + 1 := ⟨k - 1, by omega⟩
    have ht : t = M := by omega
    subst ht
    have := mdays_bd y t
    simp only [chattelref09_Number.l1]
    rw [if_neg (by omega), wrap_id (by omega)]
  | succ r ih =>
    intro t h k hk
    obtain ⟨k, rfl⟩ : ∃ q, k = q + 1 := ⟨k - 1, by omega⟩
    have h1 := mdays_bd y t
    have h2 := days_bd y ((t + 1 : Nat) : Int)
    have h3 : b + mdays y t + days y ((t + 1 : Nat) : Int) = b + mdays y (t + 1) := by rw [mdays, Int.add_assoc]
    simp only [chattelref09_Number.l1]
    rw [if_pos (by omega), ref_days y _ k (by omega), Option.bind_some, wrap_id (by omega), wrap_id (x := ((t + 1 : Nat) : Int) + 1) (by omega), h3]
    exact ih (t + 1) (by omega) k (by omega)
theorem refnum_l0 {y m d : Int} (h : Right y m d) (r : Nat) : ∀ x : Int, 1 ≤ x → x + r = y → ∀ k, r + 20 < k → chattelref09_Number.l0 k (aheadOf x) x y m d = some (num y m d) := by
  obtain ⟨hy, hm, hd⟩ := h.in_
  induction r with
  | zero =>
    intro x h1 h2 k hk
    obtain ⟨k, rfl⟩ : ∃ q, k = q + 1 := ⟨k - 1, by omega⟩
    have hx : x = y := by omega
    subst hx
    simp only [chattelref09_Number.l0]
    rw [if_neg (by omega)]
    obtain ⟨M, hM⟩ : ∃ M : Nat, m = ((M + 1 : Nat) : Int) := ⟨(m - 1).toNat, by omega⟩
    have := refnum_l1 x d M (by omega) (by omega) (aheadOf x) (ahead_bd x (by omega)) M 0 (by omega) k (by omega)
    rw [mdays, Int.add_zero, ← hM] at this
    unfold num
    rw [show (m - 1).toNat = M by omega]
    exact this
  | succ r ih =>
    intro x h1 h2 k hk
    obtain ⟨k, rfl⟩ : ∃ q, k = q + 1 := ⟨k - 1, by omega⟩
    have hb := ahead_bd x (by omega)
    have hs := ahead_step x h1
    have e := ih (x + 1) (by omega) (by omega) k (by omega)
    simp only [chattelref09_Number.l0]
    rw [if_pos (by omega), ref_leap x k (by omega), Option.bind_some, decide_eq_true (show 1 ≤ x ∧ x ≤ 9999 by omega), Bool.true_and, wrap_id (x := x + 1) (by omega), wrap_id (x := aheadOf x + 365) (by omega), wrap_id (x := aheadOf x + 365 + 1) (by omega)]
    by_cases hl : leap x = true
    · rw [if_pos hl] at hs ⊢
      rw [show aheadOf x + 365 + 1 = aheadOf (x + 1) by omega]
      exact e
    · rw [if_neg hl] at hs ⊢
      rw [show aheadOf x + 365 = aheadOf (x + 1) by omega]
      exact e
theorem refnum_eq {y m d : Int} (h : Right y m d) (k : Nat) (hk : 10100 < k) : chattelref09_Number.f k y m d = some (num y m d) := by
  obtain ⟨hy, hm, hd⟩ := h.in_
  unfold chattelref09_Number.f
  exact refnum_l0 h (y - 1).toNat 1 (by omega) (by omega) k (by omega)
/-- The month of a year in which a day lies. -/
theorem of_l2 {y : Int} (hy : 1 ≤ y ∧ y ≤ 9999) (r : Nat) : ∀ (t : Nat) (n : Int), t + r = 12 → 1 ≤ n → n + mdays y t ≤ mdays y 12 →
    ∃ m d, Right y m d ∧ mdays y (m - 1).toNat + d = mdays y t + n ∧ ∀ x k, r + 2 < k → date_Of.l2 k n y ((t + 1 : Nat) : Int) x = some (y, m, d, 0) := by
  induction r with
  | zero =>
    intro t n h h1 h2
    have : t = 12 := by omega
    subst this
    omega
  | succ r ih =>
    intro t n h h1 h2
    have hm : mdays y (t + 1) = mdays y t + days y ((t + 1 : Nat) : Int) := rfl
    have hd := days_in hy (m := ((t + 1 : Nat) : Int)) (by omega)
    have hb := dm_bd y ((t + 1 : Nat) : Int)
    have hw := days_bd y ((t + 1 : Nat) : Int)
    by_cases hn : n > days y ((t + 1 : Nat) : Int)
    · obtain ⟨m, d, e1, e2, e3⟩ := ih (t + 1) (n - days y ((t + 1 : Nat) : Int)) (by omega) (by omega) (by omega)
      refine ⟨m, d, e1, by omega, fun x k hk => ?_⟩
      obtain ⟨k, rfl⟩ : ∃ q, k = q + 1 := ⟨k - 1, by omega⟩
      have h3 := mdays_bd y 12
      have h4 := mdays_bd y t
      simp only [date_Of.l2]
      rw [date_days y _ k (by omega), Option.bind_some, if_pos hn, Option.bind_some, wrap_id (by omega), wrap_id (by omega)]
      exact e3 x k (by omega)
    · refine ⟨((t + 1 : Nat) : Int), n, ⟨h1, by omega⟩, ?_, fun x k hk => ?_⟩
      · rw [show (((t + 1 : Nat) : Int) - 1).toNat = t by omega]
      · obtain ⟨k, rfl⟩ : ∃ q, k = q + 1 := ⟨k - 1, by omega⟩
        simp only [date_Of.l2]
        rw [date_days y _ k (by omega), Option.bind_some, if_neg hn]
/-- Of a number, that is within a year. -/
theorem of_j3 {y n : Int} (hy : 1 ≤ y ∧ y ≤ 9999) (h1 : aheadOf y < n) (h2 : n ≤ aheadOf (y + 1)) :
    ∃ m d, Right y m d ∧ num y m d = n ∧ ∀ x k, 20 < k → date_Of.j3 k n y 1 x = some (y, m, d, 0) := by
  have hs := ahead_next hy
  obtain ⟨m, d, e1, e2, e3⟩ := of_l2 hy 12 0 (n - aheadOf y) (by omega) (by omega) (by rw [mdays]; omega)
  refine ⟨m, d, e1, ?_, fun x k hk => ?_⟩
  · rw [mdays] at e2
    unfold num
    omega
  · obtain ⟨k, rfl⟩ : ∃ q, k = q + 1 := ⟨k - 1, by omega⟩
    have hb := ahead_bd y (by omega)
    have hc := ahead_bd (y + 1) (by omega)
    simp only [date_Of.j3]
    rw [ahead_eq y (by omega), Option.bind_some, wrap_id (by omega)]
    exact e3 x k (by omega)
theorem of_l1 {n : Int} (hn : 1 ≤ n ∧ n ≤ 3652059) (r : Nat) : ∀ y : Int, 1 ≤ y → y + r = 9999 → aheadOf y < n →
    ∃ z m d, Right z m d ∧ num z m d = n ∧ ∀ x k, r + 30 < k → date_Of.l1 k n y 1 x = some (z, m, d, 0) := by
  induction r with
  | zero =>
    intro y h1 h2 h3
    have : y = 9999 := by omega
    subst this
    obtain ⟨m, d, e1, e2, e3⟩ := of_j3 (y := 9999) (n := n) (by omega) h3 (by rw [show aheadOf (9999 + 1) = 3652059 by decide]; omega)
    refine ⟨9999, m, d, e1, e2, fun x k hk => ?_⟩
    obtain ⟨k, rfl⟩ : ∃ q, k = q + 1 := ⟨k - 1, by omega⟩
    simp only [date_Of.l1]
    rw [if_neg (by omega)]
    exact e3 x k (by omega)
  | succ r ih =>
    intro y h1 h2 h3
    by_cases h : aheadOf (y + 1) < n
    · obtain ⟨z, m, d, e1, e2, e3⟩ := ih (y + 1) (by omega) (by omega) h
      refine ⟨z, m, d, e1, e2, fun x k hk => ?_⟩
      obtain ⟨k, rfl⟩ : ∃ q, k = q + 1 := ⟨k - 1, by omega⟩
      simp only [date_Of.l1]
      rw [if_pos (by omega), wrap_id (x := y + 1) (by omega), ahead_eq (y + 1) (by omega), Option.bind_some, if_pos h]
      exact e3 x k (by omega)
    · obtain ⟨m, d, e1, e2, e3⟩ := of_j3 (y := y) (n := n) (by omega) h3 (by omega)
      refine ⟨y, m, d, e1, e2, fun x k hk => ?_⟩
      obtain ⟨k, rfl⟩ : ∃ q, k = q + 1 := ⟨k - 1, by omega⟩
      simp only [date_Of.l1]
      rw [if_pos (by omega), wrap_id (x := y + 1) (by omega), ahead_eq (y + 1) (by omega), Option.bind_some, if_neg h]
      exact e3 x k (by omega)
theorem of_l0 {n : Int} (hn : 1 ≤ n ∧ n ≤ 3652059) (r : Nat) : ∀ y : Int, y = r + 1 → y ≤ 9999 →
    ∃ z m d, Right z m d ∧ num z m d = n ∧ ∀ x k, r + 10100 < k → date_Of.l0 k n y 1 x = some (z, m, d, 0) := by
  induction r with
  | zero =>
    intro y h1 h2
    have : y = 1 := by omega
    subst this
    obtain ⟨z, m, d, e1, e2, e3⟩ := of_l1 hn 9998 1 (by omega) (by omega) (by rw [show aheadOf 1 = 0 by decide]; omega)
    refine ⟨z, m, d, e1, e2, fun x k hk => ?_⟩
    obtain ⟨k, rfl⟩ : ∃ q, k = q + 1 := ⟨k - 1, by omega⟩
    simp only [date_Of.l0]
    rw [ahead_eq 1 (by omega), Option.bind_some, show aheadOf 1 = 0 by decide, if_neg (by omega)]
    exact e3 x k (by omega)
  | succ r ih =>
    intro y h1 h2
    by_cases h : aheadOf y ≥ n
    · obtain ⟨z, m, d, e1, e2, e3⟩ := ih (y - 1) (by omega) (by omega)
      refine ⟨z, m, d, e1, e2, fun x k hk => ?_⟩
      obtain ⟨k, rfl⟩ : ∃ q, k = q + 1 := ⟨k - 1, by omega⟩
      simp only [date_Of.l0]
      rw [ahead_eq y (by omega), Option.bind_some, if_pos h, wrap_id (by omega)]
      exact e3 x k (by omega)
    · obtain ⟨z, m, d, e1, e2, e3⟩ := of_l1 hn (9999 - y).toNat y (by omega) (by omega) (by omega)
      refine ⟨z, m, d, e1, e2, fun x k hk => ?_⟩
      obtain ⟨k, rfl⟩ : ∃ q, k = q + 1 := ⟨k - 1, by omega⟩
      simp only [date_Of.l0]
      rw [ahead_eq y (by omega), Option.bind_some, if_neg h]
      exact e3 x k (by omega)
/-- The date of a number that has one. -/
theorem of_eq {n : Int} (hn : 1 ≤ n ∧ n ≤ 3652059) : ∃ y m d, Right y m d ∧ num y m d = n ∧ ∀ k, 20200 < k → date_Of.f k n = some (y, m, d, 0) := by
  have hq : 0 ≤ n * 400 / 146097 ∧ n * 400 / 146097 ≤ 10000 := by omega
  obtain ⟨z, m, d, e1, e2, e3⟩ := of_l0 hn (min (n * 400 / 146097 + 1) 9999 - 1).toNat (min (n * 400 / 146097 + 1) 9999) (by omega) (by omega)
  refine ⟨z, m, d, e1, e2, fun k hk => ?_⟩
  obtain ⟨k, rfl⟩ : ∃ q, k = q + 1 := ⟨k - 1, by omega⟩
  unfold date_Of.f
  rw [if_neg (by omega), decide_eq_false (by omega)]
  simp only [date_Of.j0]
  rw [if_neg (by decide), wrap_id (x := n * 400) (by omega), tdiv_pos _ (by omega), wrap_id (x := n * 400 / 146097) (by omega), wrap_id (by omega), mn_eq]
  exact e3 0 k (by omega)
theorem of_none {n : Int} (hn : n < 1 ∨ 3652059 < n) (k : Nat) (hk : 0 < k) : date_Of.f k n = some (0, 0, 0, 11) := by
  obtain ⟨k, rfl⟩ : ∃ q, k = q + 1 := ⟨k - 1, by omega⟩
  unfold date_Of.f
  by_cases h : n < 1
  · rw [if_pos h]
    simp only [date_Of.j0, if_true]
  · rw [if_neg h, decide_eq_true (by omega)]
    simp only [date_Of.j0, if_true]
/-- The date of a date's number is that date. -/
theorem of_num {y m d : Int} (h : Right y m d) (k : Nat) (hk : 20200 < k) : date_Of.f k (num y m d) = some (y, m, d, 0) := by
  obtain ⟨z, q, e, h1, h2, h3⟩ := of_eq (num_top h)
  obtain ⟨e1, e2, e3⟩ := num_inj h1 h h2
  subst e1; subst e2; subst e3
  exact h3 k hk
end Go.Proofs.YtfikfmediheioaaM
end

section
/- Layer 9 as plain functions, on: what the document fixes; the next date; dates compared. -/
namespace Go.Proofs.YtfikfmediheioaaM
open Go.RowKit Go.Proofs.YtfikfmediheioaaW.PrintWords Go.Proofs.YtfikfmediheioaaW.PrintLast Go.Proofs.YtfikfmediheioaaW.PrintMore Go.Proofs.YtfikfmediheioaaX Go.Proofs.Ytfikfmediheioaa.F
set_option linter.unusedVariables false
set_option linter.unusedSimpArgs false

theorem wakes09 (k : Nat) (hk : 40 ≤ k) : chattellaw09_wakes.f k = some true := by
  have e := (show chattellaw09_wakes.f 40 = some true by decide +kernel)
  have up : ∀ j, chattellaw09_wakes.f (40 + j) = some true := fun j => by
    induction j with
    | zero => exact e
    | succ j ih => exact chattellaw09_wakes.mono (40 + j) true ih
  have := up (k - 40)
  rwa [show 40 + (k - 40) = k by omega] at this
end Go.Proofs.YtfikfmediheioaaM
end

section
/- Layer 9 as plain functions, on: dates compared. -/
namespace Go.Proofs.YtfikfmediheioaaM
open Go.RowKit Go.Proofs.YtfikfmediheioaaW.PrintWords Go.Proofs.YtfikfmediheioaaW.PrintLast Go.Proofs.YtfikfmediheioaaW.PrintMore Go.Proofs.YtfikfmediheioaaX Go.Proofs.Ytfikfmediheioaa.F
set_option linter.unusedVariables false
set_option linter.unusedSimpArgs false

def sgI (a b : Int) : Int := if a < b then -1 else if a > b then 1 else 0
theorem cmpI (a b : Int) : cmp_Compare_int.f a b = some (sgI a b) := by
  unfold cmp_Compare_int.f cmp_isNaN_int.f sgI
  simp only [bne_self_eq_false, Option.bind_some]
  rw [if_neg (by decide), if_neg (by decide)]
  by_cases h : a < b
  · rw [if_pos h, if_pos h]
  · rw [if_neg h, if_neg h]
    by_cases h2 : a > b
    · rw [if_pos h2, if_pos h2]
    · rw [if_neg h2, if_neg h2]
def or3 (a b c : Int) : Int := if a = 0 then (if b = 0 then c else b) else a
theorem or3_eq (a b c : Int) (k : Nat) (hk : 3 < k) : cmp_Or_int.f k [a, b, c] = some (or3 a b c) := by
  obtain ⟨k, rfl⟩ : ∃ q, k = q + 4 := ⟨k - 4, by omega⟩
  have r0 : rd [a, b, c] 0 = a := rfl
  have r1 : rd [a, b, c] 1 = b := rfl
  have r2 : rd [a, b, c] 2 = c := rfl
  unfold cmp_Or_int.f or3
  simp only [cmp_Or_int.l0, List.length_cons, List.length_nil]
  have w1 : wrap64 (0 + 1) = 1 := wrap_id (by decide)
  have w2 : wrap64 (1 + 1) = 2 := wrap_id (by decide)
  have w3 : wrap64 (2 + 1) = 3 := wrap_id (by decide)
  rw [if_pos (by decide), if_pos (by decide), if_pos (by decide), r0]
  by_cases ha : a = 0
  · rw [if_pos ha, if_pos ha, w1, if_pos (by decide), if_pos (by decide), if_pos (by decide), r1]
    by_cases hb : b = 0
    · rw [if_pos hb, if_pos hb, w2, if_pos (by decide), if_pos (by decide), if_pos (by decide), r2]
      by_cases hc : c = 0
      · rw [if_pos hc, w3, if_neg (by decide), hc]
      · rw [if_neg hc]
    · rw [if_neg hb, if_neg hb]
  · rw [if_neg ha, if_neg ha]
theorem cmp_eq (y m d y2 m2 d2 : Int) (k : Nat) (hk : 3 < k) : date_Cmp.f k y m d y2 m2 d2 = some (or3 (sgI y y2) (sgI m m2) (sgI d d2)) := by
  unfold date_Cmp.f
  simp only [cmpI, Option.bind_some, or3_eq _ _ _ k hk]
end Go.Proofs.YtfikfmediheioaaM
end

section
/- Layer 9 as plain functions, on: the next date; dates compared. -/
namespace Go.Proofs.YtfikfmediheioaaM
open Go.RowKit Go.Proofs.YtfikfmediheioaaW.PrintWords Go.Proofs.YtfikfmediheioaaW.PrintLast Go.Proofs.YtfikfmediheioaaW.PrintMore Go.Proofs.YtfikfmediheioaaX Go.Proofs.Ytfikfmediheioaa.F
set_option linter.unusedVariables false
set_option linter.unusedSimpArgs false

/-- The next date, and whether there is one. -/
def nextD (y m d : Int) : Int × Int × Int × Bool := if d < days y m then (y, m, d + 1, true) else if m < 12 then (y, m + 1, 1, true) else (y + 1, 1, 1, decide (y < 9999))
theorem next_eq {y m d : Int} (h : Right y m d) (k : Nat) (hk : 1 < k) : chattelref09_Next.f k y m d = some (nextD y m d) := by
  obtain ⟨hy, hm, hd⟩ := h.in_
  unfold chattelref09_Next.f nextD
  rw [ref_days y m k hk, Option.bind_some]
  by_cases h1 : d < days y m
  · rw [if_pos h1, if_pos h1, wrap_id (by omega)]
  · rw [if_neg h1, if_neg h1]
    by_cases h2 : m < 12
    · rw [if_pos h2, if_pos h2, wrap_id (by omega)]
    · rw [if_neg h2, if_neg h2, wrap_id (by omega)]
/-- The date of the next number is the next date. -/
theorem of_next {y m d : Int} (h : Right y m d) (k : Nat) (hk : 20200 < k) : date_Of.f k (num y m d + 1) = some (if (nextD y m d).2.2.2 = true then ((nextD y m d).1, (nextD y m d).2.1, (nextD y m d).2.2.1, 0) else (0, 0, 0, 11)) := by
  obtain ⟨hy, hm, hd⟩ := h.in_
  have hdl := h.2
  unfold nextD
  by_cases h1 : d < days y m
  · rw [if_pos h1]
    simp only [if_true]
    have hR : Right y m (d + 1) := ⟨by omega, by omega⟩
    rw [show num y m d + 1 = num y m (d + 1) by unfold num; omega]
    exact of_num hR k hk
  · rw [if_neg h1]
    have hmd : mdays y m.toNat = mdays y (m - 1).toNat + days y m := by
      rw [show m.toNat = (m - 1).toNat + 1 by omega, mdays, show (((m - 1).toNat + 1 : Nat) : Int) = m by omega]
    by_cases h2 : m < 12
    · rw [if_pos h2]
      simp only [if_true]
      have hR : Right y (m + 1) 1 := ⟨by omega, by rw [days_in hy (by omega)]; have := dm_bd y (m + 1); omega⟩
      rw [show num y m d + 1 = num y (m + 1) 1 by unfold num; rw [show m + 1 - 1 = m by omega]; omega]
      exact of_num hR k hk
    · rw [if_neg h2]
      have e12 : m = 12 := by omega
      have hn : num y m d = aheadOf (y + 1) := by
        rw [ahead_next hy]
        unfold num
        subst e12
        have : ((12 : Int)).toNat = 12 := rfl
        rw [this] at hmd
        omega
      by_cases h3 : y < 9999
      · simp only [decide_eq_true h3, if_true]
        have hR : Right (y + 1) 1 1 := ⟨by omega, by rw [days_in (by omega) (by omega)]; have := dm_bd (y + 1) 1; omega⟩
        rw [show num y m d + 1 = num (y + 1) 1 1 by rw [hn]; unfold num; simp [mdays]]
        exact of_num hR k hk
      · simp only [decide_eq_false h3]
        rw [if_neg (by decide)]
        have ey : y = 9999 := by omega
        subst ey
        rw [hn, show aheadOf (9999 + 1) = 3652059 by decide]
        exact of_none (by omega) k (by omega)
theorem refcmp_eq (a b c p q r : Int) (k : Nat) (hk : 3 < k) : chattelref09_Cmp.f k a b c p q r = some (or3 (sgI a p) (sgI b q) (sgI c r)) := by
  obtain ⟨k, rfl⟩ : ∃ q, k = q + 4 := ⟨k - 4, by omega⟩
  have r0 : rd [a, b, c] 0 = a := rfl
  have r1 : rd [a, b, c] 1 = b := rfl
  have r2 : rd [a, b, c] 2 = c := rfl
  have s0 : rd [p, q, r] 0 = p := rfl
  have s1 : rd [p, q, r] 1 = q := rfl
  have s2 : rd [p, q, r] 2 = r := rfl
  have w1 : wrap64 (0 + 1) = 1 := wrap_id (by decide)
  have w2 : wrap64 (1 + 1) = 2 := wrap_id (by decide)
  have w3 : wrap64 (2 + 1) = 3 := wrap_id (by decide)
  unfold chattelref09_Cmp.f or3 sgI
  simp only [chattelref09_Cmp.l0, List.length_cons, List.length_nil]
  rw [if_pos (by decide), if_pos (by decide), if_pos (by decide), if_pos (by decide), r0, s0]
  by_cases h1 : a < p
  · rw [if_pos h1, if_pos h1, if_neg (by decide)]
  · rw [if_neg h1, if_neg h1]
    by_cases h2 : a > p
    · rw [if_pos h2, if_pos h2, if_neg (by decide)]
    · rw [if_neg h2, if_neg h2]
      simp only [if_true]
      rw [w1, if_pos (by decide), if_pos (by decide), if_pos (by decide), if_pos (by decide), r1, s1]
      by_cases h3 : b < q
      · rw [if_pos h3, if_pos h3, if_neg (by decide)]
      · rw [if_neg h3, if_neg h3]
        by_cases h4 : b > q
        · rw [if_pos h4, if_pos h4, if_neg (by decide)]
        · rw [if_neg h4, if_neg h4]
          simp only [if_true]
          rw [w2, if_pos (by decide), if_pos (by decide), if_pos (by decide), if_pos (by decide), r2, s2]
          by_cases h5 : c < r
          · rw [if_pos h5, if_pos h5]
          · rw [if_neg h5, if_neg h5]
            by_cases h6 : c > r
            · rw [if_pos h6, if_pos h6]
            · rw [if_neg h6, if_neg h6, w3, if_neg (by decide)]
theorem sg_neg (a b : Int) : sgI b a = - sgI a b := by unfold sgI; (repeat' split) <;> omega
theorem sg_bd (a b : Int) : -1 ≤ sgI a b ∧ sgI a b ≤ 1 := by unfold sgI; (repeat' split) <;> omega
theorem or3_neg (a b c : Int) : or3 (-a) (-b) (-c) = - or3 a b c := by unfold or3; (repeat' split) <;> omega
theorem or3_bd {a b c : Int} (h1 : -1 ≤ a ∧ a ≤ 1) (h2 : -1 ≤ b ∧ b ≤ 1) (h3 : -1 ≤ c ∧ c ≤ 1) : -1 ≤ or3 a b c ∧ or3 a b c ≤ 1 := by unfold or3; (repeat' split) <;> omega
theorem sg_lt {a b : Int} (h : a < b) : sgI a b = -1 := if_pos h
theorem sg_gt {a b : Int} (h : b < a) : sgI a b = 1 := by unfold sgI; rw [if_neg (by omega), if_pos h]
theorem sg_eq (a : Int) : sgI a a = 0 := by unfold sgI; rw [if_neg (by omega), if_neg (by omega)]
/-- Right dates are in the order of their numbers. -/
theorem or3_num {y m d y2 m2 d2 : Int} (h : Right y m d) (h2 : Right y2 m2 d2) : or3 (sgI y y2) (sgI m m2) (sgI d d2) = sgI (num y m d) (num y2 m2 d2) := by
  rcases Int.lt_trichotomy y y2 with a | a | a
  · rw [sg_lt a, sg_lt (num_year h h2 a)]; rfl
  · subst a
    rw [sg_eq]
    rcases Int.lt_trichotomy m m2 with a | a | a
    · rw [sg_lt a, sg_lt (num_month h h2 a)]; rfl
    · subst a
      rw [sg_eq]
      rcases Int.lt_trichotomy d d2 with a | a | a
      · rw [sg_lt a, sg_lt (num_day a)]; rfl
      · subst a
        rw [sg_eq, sg_eq]; rfl
      · rw [sg_gt a, sg_gt (num_day a)]; rfl
    · rw [sg_gt a, sg_gt (num_month h2 h a)]; rfl
  · rw [sg_gt a, sg_gt (num_year h2 h a)]; rfl
end Go.Proofs.YtfikfmediheioaaM
end

section
/- Layer 9 as plain functions, on: the text of a date. -/
namespace Go.Proofs.YtfikfmediheioaaM
open Go.RowKit Go.Proofs.YtfikfmediheioaaW.PrintWords Go.Proofs.YtfikfmediheioaaW.PrintLast Go.Proofs.YtfikfmediheioaaW.PrintMore Go.Proofs.YtfikfmediheioaaX Go.Proofs.Ytfikfmediheioaa.F
set_option linter.unusedVariables false
set_option linter.unusedSimpArgs false

theorem str_app (a b : List Int) : strOfNums a ++ strOfNums b = strOfNums (a ++ b) := by
  apply ByteArray.ext
  simp [strOfNums]
theorem str_nil : (⟨#[]⟩ : ByteArray) = strOfNums [] := rfl
theorem str_dash : (⟨#[45]⟩ : ByteArray) = strOfNums [45] := rfl
/-- A date's text. -/
def txt (y m d : Int) : List Int := [48 + y / 10 / 10 / 10 % 10, 48 + y / 10 / 10 % 10, 48 + y / 10 % 10, 48 + y % 10, 45, 48 + m / 10 % 10, 48 + m % 10, 45, 48 + d / 10 % 10, 48 + d % 10]
theorem dig_val {n : Int} (h : 0 ≤ n) : (wrap64 (48 + (Int.tmod n 10))) % 256 = 48 + n % 10 := by
  rw [tmod_pos _ h]
  have h1 := Int.emod_nonneg n (show (10 : Int) ≠ 0 by omega)
  have h2 := Int.emod_lt_of_pos n (show (0 : Int) < 10 by omega)
  rw [wrap_id (by omega)]
  omega
theorem put_step {L : List Int} {n i : Int} (hn : 0 ≤ n ∧ n ≤ 100000) (h0 : 0 ≤ i) (h1 : i < (L.length : Int)) (hl : L.length ≤ 100) (k : Nat) :
    date_put.l0 (k + 1) L n i = date_put.l0 k (L.set i.toNat (48 + n % 10)) (n / 10) (i - 1) := by
  simp only [date_put.l0]
  rw [if_pos h0, if_pos h0, if_pos h1, dig_val hn.1, tdiv_pos _ hn.1, wrap_id (x := n / 10) (by omega), wrap_id (x := i - 1) (by omega)]
theorem put_end {L : List Int} {n : Int} (k : Nat) : date_put.l0 (k + 1) L n (-1) = some L := by
  simp only [date_put.l0]
  rw [if_neg (by decide)]
theorem put4 (a b c d n : Int) (hn : 0 ≤ n ∧ n ≤ 100000) (k : Nat) (hk : 10 < k) : date_put.f k [a, b, c, d] n = some [48 + n / 10 / 10 / 10 % 10, 48 + n / 10 / 10 % 10, 48 + n / 10 % 10, 48 + n % 10] := by
  obtain ⟨k, rfl⟩ : ∃ q, k = q + 5 := ⟨k - 5, by omega⟩
  unfold date_put.f
  rw [show wrap64 ((([a, b, c, d] : List Int).length : Int) - 1) = 3 by simp only [List.length_cons, List.length_nil]; exact wrap_id (by decide), put_step hn (by decide) (by simp) (by simp), put_step (by omega) (by decide) (by simp) (by simp),
    put_step (by omega) (by decide) (by simp) (by simp), put_step (by omega) (by decide) (by simp) (by simp)]
  exact put_end k
theorem put2 (a b n : Int) (hn : 0 ≤ n ∧ n ≤ 100000) (k : Nat) (hk : 10 < k) : date_put.f k [a, b] n = some [48 + n / 10 % 10, 48 + n % 10] := by
  obtain ⟨k, rfl⟩ : ∃ q, k = q + 3 := ⟨k - 3, by omega⟩
  unfold date_put.f
  rw [show wrap64 ((([a, b] : List Int).length : Int) - 1) = 1 by simp only [List.length_cons, List.length_nil]; exact wrap_id (by decide), put_step hn (by decide) (by simp) (by simp), put_step (by omega) (by decide) (by simp) (by simp)]
  exact put_end k
theorem print_eq {y m d : Int} (h : Right y m d) (k : Nat) (hk : 20 < k) : date_Print.f k y m d = some (strOfNums (txt y m d), 0) := by
  obtain ⟨hy, hm, hd⟩ := h.in_
  unfold date_Print.f
  rw [date_check y m d k (by omega), Option.bind_some, if_pos h]
  simp only [if_true, Option.bind_some]
  have e1 : date_putW.f k [48, 48, 48, 48, 45, 48, 48, 45, 48, 48] 0 4 y = some [48 + y / 10 / 10 / 10 % 10, 48 + y / 10 / 10 % 10, 48 + y / 10 % 10, 48 + y % 10, 45, 48, 48, 45, 48, 48] := by
    unfold date_putW.f
    rw [if_pos (by simp)]
    show (date_put.f k [48, 48, 48, 48] y).map _ = _
    rw [put4 _ _ _ _ _ (by omega) k (by omega)]
    rfl
  have e2 : ∀ a b c e : Int, date_putW.f k [a, b, c, e, 45, 48, 48, 45, 48, 48] 5 7 m = some [a, b, c, e, 45, 48 + m / 10 % 10, 48 + m % 10, 45, 48, 48] := fun a b c e => by
    unfold date_putW.f
    rw [if_pos (by simp)]
    show (date_put.f k [48, 48] m).map _ = _
    rw [put2 _ _ _ (by omega) k (by omega)]
    rfl
  have e3 : ∀ a b c e f g : Int, date_putW.f k [a, b, c, e, 45, f, g, 45, 48, 48] 8 10 d = some [a, b, c, e, 45, f, g, 45, 48 + d / 10 % 10, 48 + d % 10] := fun a b c e f g => by
    unfold date_putW.f
    rw [if_pos (by simp)]
    show (date_put.f k [48, 48] d).map _ = _
    rw [put2 _ _ _ (by omega) k (by omega)]
    rfl
  have l10 : ((([48, 48, 48, 48, 45, 48, 48, 45, 48, 48] : List Int).length : Nat) : Int) = 10 := rfl
  rw [l10, if_pos (by decide), if_pos (by decide), e1, Option.bind_some, if_pos (by decide), if_pos (by decide), e2, Option.bind_some, if_pos (by decide), e3, Option.bind_some]
  rfl
theorem print_wrong {y m d : Int} (h : ¬ Right y m d) (k : Nat) (hk : 0 < k) : date_Print.f k y m d = some (⟨#[]⟩, 11) := by
  unfold date_Print.f
  rw [date_check y m d k hk, Option.bind_some, if_neg h, if_neg (by decide)]
theorem dig_step {n len : Int} {L : List Int} {i : Int} (hn : 0 ≤ n ∧ n ≤ 100000) (h0 : 0 ≤ i) (h1 : i < len) (h2 : len ≤ 100) (hl : L.length ≤ 100) (k : Nat) :
    chattelref09_digits.l0 (k + 1) n len (strOfNums L) i = chattelref09_digits.l0 k (n / 10) len (strOfNums ((48 + n % 10) :: L)) (i + 1) := by
  simp only [chattelref09_digits.l0]
  rw [if_pos h1, Option.bind_some, strOfNums_size, strOfNums_size, if_pos (by simp; omega), dig_val hn.1, tdiv_pos _ hn.1, wrap_id (x := n / 10) (by omega), wrap_id (x := i + 1) (by omega), str_app]
  rfl
theorem digits4 (n : Int) (hn : 0 ≤ n ∧ n ≤ 100000) (k : Nat) (hk : 10 < k) : chattelref09_digits.f k n 4 = some (strOfNums [48 + n / 10 / 10 / 10 % 10, 48 + n / 10 / 10 % 10, 48 + n / 10 % 10, 48 + n % 10]) := by
  obtain ⟨k, rfl⟩ : ∃ q, k = q + 5 := ⟨k - 5, by omega⟩
  unfold chattelref09_digits.f
  rw [str_nil, dig_step hn (by decide) (by decide) (by decide) (by simp), dig_step (by omega) (by decide) (by decide) (by decide) (by simp), dig_step (by omega) (by decide) (by decide) (by decide) (by simp), dig_step (by omega) (by decide) (by decide) (by decide) (by simp)]
  simp only [chattelref09_digits.l0]
  rw [if_neg (by decide)]
theorem digits2 (n : Int) (hn : 0 ≤ n ∧ n ≤ 100000) (k : Nat) (hk : 10 < k) : chattelref09_digits.f k n 2 = some (strOfNums [48 + n / 10 % 10, 48 + n % 10]) := by
  obtain ⟨k, rfl⟩ : ∃ q, k = q + 3 := ⟨k - 3, by omega⟩
  unfold chattelref09_digits.f
  rw [str_nil, dig_step hn (by decide) (by decide) (by decide) (by simp), dig_step (by omega) (by decide) (by decide) (by decide) (by simp)]
  simp only [chattelref09_digits.l0]
  rw [if_neg (by decide)]
theorem refprint_eq {y m d : Int} (h : Right y m d) (k : Nat) (hk : 20 < k) : chattelref09_Print.f k y m d = some (strOfNums (txt y m d)) := by
  obtain ⟨hy, hm, hd⟩ := h.in_
  unfold chattelref09_Print.f
  rw [digits4 y (by omega) k (by omega), Option.bind_some, digits2 m (by omega) k (by omega), Option.bind_some, digits2 d (by omega) k (by omega), Option.bind_some, str_dash]
  simp only [str_app, strOfNums_size]
  rw [if_pos (by simp), if_pos (by simp), if_pos (by simp), if_pos (by simp)]
  rfl
theorem weekday_eq (y m d : Int) (k : Nat) (hk : 14 < k) : date_Weekday.f k y m d = some (if Right y m d then (Int.tmod (num y m d - 1) 7, 0) else (0, 11)) := by
  unfold date_Weekday.f
  rw [number_eq y m d k hk, Option.bind_some]
  by_cases h : Right y m d
  · have b := num_top h
    rw [if_pos h, if_pos h]
    simp only [if_true]
    rw [wrap_id (by omega)]
  · rw [if_neg h, if_neg h]
    simp only
    rw [if_neg (by decide)]
end Go.Proofs.YtfikfmediheioaaM
end

section
/- Layer 9 as plain functions, on: a text that is a date's; the document's reading of it. -/
namespace Go.Proofs.YtfikfmediheioaaM
open Go.RowKit Go.Proofs.YtfikfmediheioaaW.PrintWords Go.Proofs.YtfikfmediheioaaW.PrintLast Go.Proofs.YtfikfmediheioaaW.PrintMore Go.Proofs.YtfikfmediheioaaX Go.Proofs.Ytfikfmediheioaa.F
set_option linter.unusedVariables false
set_option linter.unusedSimpArgs false

def dg (x : Int) : Prop := ¬ x < 48 ∧ ¬ x > 57
instance (x : Int) : Decidable (dg x) := inferInstanceAs (Decidable (_ ∧ _))
/-- A text of a date's form. -/
def OK (s : ByteArray) : Prop := (s.size : Int) = 10 ∧ bt s 4 = 45 ∧ bt s 7 = 45 ∧ (dg (bt s 0) ∧ dg (bt s 1) ∧ dg (bt s 2) ∧ dg (bt s 3)) ∧ (dg (bt s 5) ∧ dg (bt s 6)) ∧ (dg (bt s 8) ∧ dg (bt s 9))
instance (s : ByteArray) : Decidable (OK s) := inferInstanceAs (Decidable (_ ∧ _))
def yv (s : ByteArray) : Int := 10 * (10 * (10 * (10 * 0 + (bt s 0 - 48)) + (bt s 1 - 48)) + (bt s 2 - 48)) + (bt s 3 - 48)
def mv (s : ByteArray) : Int := 10 * (10 * 0 + (bt s 5 - 48)) + (bt s 6 - 48)
def dv (s : ByteArray) : Int := 10 * (10 * 0 + (bt s 8 - 48)) + (bt s 9 - 48)
/-- What a text is read to, and the error. -/
def readD (s : ByteArray) : Int × Int × Int × Int := if OK s then (if Right (yv s) (mv s) (dv s) then (yv s, mv s, dv s, 0) else (0, 0, 0, 11)) else (0, 0, 0, 4)
theorem bt_ext (s : ByteArray) (lo hi : Nat) (h : hi ≤ s.size) (i : Int) (h0 : 0 ≤ i) (h1 : lo + i.toNat < hi) : bt (s.extract lo hi) i = bt s (lo + i) := by
  have e1 : i.toNat < (s.extract lo hi).size := by rw [ByteArray.size_extract]; omega
  have e2 : ((lo : Int) + i).toNat = lo + i.toNat := by omega
  have e3 : ((lo : Int) + i).toNat < s.size := by omega
  unfold bt
  rw [dif_pos e1, dif_pos e3]
  simp only [ByteArray.getElem_extract, e2]
theorem num_step (s : ByteArray) (a n i : Int) (hn : (s.size : Int) = n) (h0 : 0 ≤ i) (h1 : i < n) (h2 : n ≤ 100) (ha : 0 ≤ a ∧ a ≤ 100000) (k : Nat) :
    date_number.l0 (k + 1) s a n i = if dg (bt s i) then date_number.l0 k s (10 * a + (bt s i - 48)) n (i + 1) else some (0, false) := by
  simp only [date_number.l0]
  have hb := bt_range s i
  rw [if_pos h1, if_pos h0, if_pos (by omega)]
  by_cases h3 : bt s i < 48
  · rw [if_pos h3, if_neg (show ¬ dg (bt s i) from fun h => h.1 h3)]
  · rw [if_neg h3]
    by_cases h4 : bt s i > 57
    · rw [if_pos h4, if_neg (show ¬ dg (bt s i) from fun h => h.2 h4)]
    · rw [if_neg h4, if_pos (show dg (bt s i) from ⟨h3, h4⟩), wrap_id (x := 10 * a) (by omega), show (bt s i - 48) % 256 = bt s i - 48 by omega, wrap_id (x := 10 * a + (bt s i - 48)) (by omega), wrap_id (x := i + 1) (by omega)]
theorem num_end (s : ByteArray) (a n : Int) (k : Nat) : date_number.l0 (k + 1) s a n n = some (a, true) := by
  simp only [date_number.l0]
  rw [if_neg (by omega)]
theorem number2 (s : ByteArray) (h : (s.size : Int) = 2) (k : Nat) (hk : 10 < k) : date_number.f k s = some (if dg (bt s 0) ∧ dg (bt s 1) then (10 * (10 * 0 + (bt s 0 - 48)) + (bt s 1 - 48), true) else (0, false)) := by
  obtain ⟨k, rfl⟩ : ∃ q, k = q + 3 := ⟨k - 3, by omega⟩
  unfold date_number.f
  rw [h, num_step s 0 2 0 h (by decide) (by decide) (by decide) (by decide)]
  by_cases h0 : dg (bt s 0)
  · rw [if_pos h0, num_step s _ 2 (0 + 1) h (by decide) (by decide) (by decide) (by unfold dg at h0; omega)]
    by_cases h1 : dg (bt s 1)
    · rw [show (0 : Int) + 1 = 1 by decide, if_pos h1, if_pos ⟨h0, h1⟩]
      exact num_end s _ 2 k
    · rw [show (0 : Int) + 1 = 1 by decide, if_neg h1, if_neg (fun h => h1 h.2)]
  · rw [if_neg h0, if_neg (fun h => h0 h.1)]
theorem number4 (s : ByteArray) (h : (s.size : Int) = 4) (k : Nat) (hk : 10 < k) : date_number.f k s = some (if dg (bt s 0) ∧ dg (bt s 1) ∧ dg (bt s 2) ∧ dg (bt s 3) then (10 * (10 * (10 * (10 * 0 + (bt s 0 - 48)) + (bt s 1 - 48)) + (bt s 2 - 48)) + (bt s 3 - 48), true) else (0, false)) := by
  obtain ⟨k, rfl⟩ : ∃ q, k = q + 5 := ⟨k - 5, by omega⟩
  unfold date_number.f
  rw [h, num_step s 0 4 0 h (by decide) (by decide) (by decide) (by decide)]
  by_cases h0 : dg (bt s 0)
  · rw [if_pos h0, num_step s _ 4 (0 + 1) h (by decide) (by decide) (by decide) (by unfold dg at h0; omega), show (0 : Int) + 1 = 1 by decide]
    by_cases h1 : dg (bt s 1)
    · rw [if_pos h1, num_step s _ 4 (1 + 1) h (by decide) (by decide) (by decide) (by unfold dg at h0 h1; omega), show (1 : Int) + 1 = 2 by decide]
      by_cases h2 : dg (bt s 2)
      · rw [if_pos h2, num_step s _ 4 (2 + 1) h (by decide) (by decide) (by decide) (by unfold dg at h0 h1 h2; omega), show (2 : Int) + 1 = 3 by decide]
        by_cases h3 : dg (bt s 3)
        · rw [if_pos h3, if_pos ⟨h0, h1, h2, h3⟩]
          exact num_end s _ 4 k
        · rw [if_neg h3, if_neg (fun h => h3 h.2.2.2)]
      · rw [if_neg h2, if_neg (fun h => h2 h.2.2.1)]
    · rw [if_neg h1, if_neg (fun h => h1 h.2.1)]
  · rw [if_neg h0, if_neg (fun h => h0 h.1)]
theorem read_bad {s : ByteArray} (h : ¬ OK s) : readD s = (0, 0, 0, 4) := if_neg h
theorem parse_j0 (s : ByteArray) (k : Nat) (hk : 0 < k) : date_Parse.j0 k s true = some (0, 0, 0, 4) := by
  obtain ⟨k, rfl⟩ : ∃ q, k = q + 1 := ⟨k - 1, by omega⟩
  simp only [date_Parse.j0, if_true]
theorem parse_j1 (a b c : Int) (k : Nat) (hk : 0 < k) : date_Parse.j1 k a b c true = some (0, 0, 0, 4) := by
  obtain ⟨k, rfl⟩ : ∃ q, k = q + 1 := ⟨k - 1, by omega⟩
  simp only [date_Parse.j1, if_true]
theorem parse_eq (s : ByteArray) (k : Nat) (hk : 30 < k) : date_Parse.f k s = some (readD s) := by
  obtain ⟨k, rfl⟩ : ∃ q, k = q + 2 := ⟨k - 2, by omega⟩
  unfold date_Parse.f
  by_cases hs : (s.size : Int) = 10
  · rw [if_pos hs, if_pos (by omega)]
    by_cases h4 : bt s 4 = 45
    · rw [if_pos h4, if_pos (by omega)]
      by_cases h7 : bt s 7 = 45
      · rw [show (bt s 7 != 45) = false by simp [h7]]
        have z4 : (((s.extract 0 4).size : Nat) : Int) = 4 := by rw [ByteArray.size_extract]; omega
        have z7 : (((s.extract 5 7).size : Nat) : Int) = 2 := by rw [ByteArray.size_extract]; omega
        have z10 : (((s.extract 8 s.size).size : Nat) : Int) = 2 := by rw [ByteArray.size_extract]; omega
        have b0 : bt (s.extract 0 4) 0 = bt s 0 := bt_ext s 0 4 (by omega) 0 (by decide) (by decide)
        have b1 : bt (s.extract 0 4) 1 = bt s 1 := bt_ext s 0 4 (by omega) 1 (by decide) (by decide)
        have b2 : bt (s.extract 0 4) 2 = bt s 2 := bt_ext s 0 4 (by omega) 2 (by decide) (by decide)
        have b3 : bt (s.extract 0 4) 3 = bt s 3 := bt_ext s 0 4 (by omega) 3 (by decide) (by decide)
        have b5 : bt (s.extract 5 7) 0 = bt s 5 := bt_ext s 5 7 (by omega) 0 (by decide) (by decide)
        have b6 : bt (s.extract 5 7) 1 = bt s 6 := bt_ext s 5 7 (by omega) 1 (by decide) (by decide)
        have b8 : bt (s.extract 8 s.size) 0 = bt s 8 := bt_ext s 8 s.size (by omega) 0 (by decide) (by simp; omega)
        have b9 : bt (s.extract 8 s.size) 1 = bt s 9 := bt_ext s 8 s.size (by omega) 1 (by decide) (by simp; omega)
        simp only [date_Parse.j0]
        rw [if_neg (by decide), if_pos (by decide), if_pos (by omega), number4 _ z4 _ (by omega), Option.bind_some, if_pos (by decide), if_pos (by omega), number2 _ z7 _ (by omega), Option.bind_some, if_pos (by omega), number2 _ z10 _ (by omega), Option.bind_some,
          b0, b1, b2, b3, b5, b6, b8, b9]
        by_cases hA : dg (bt s 0) ∧ dg (bt s 1) ∧ dg (bt s 2) ∧ dg (bt s 3)
        · rw [if_pos hA]
          by_cases hB : dg (bt s 5) ∧ dg (bt s 6)
          · rw [if_pos hB]
            by_cases hC : dg (bt s 8) ∧ dg (bt s 9)
            · rw [if_pos hC]
              simp only [if_true, date_Parse.j1, Bool.not_true]
              rw [if_neg (by decide), date_check _ _ _ _ (by omega), Option.bind_some]
              unfold readD
              rw [if_pos (show OK s from ⟨hs, h4, h7, hA, hB, hC⟩)]
              show (if (if Right (yv s) (mv s) (dv s) then (0 : Int) else 11) = 0 then some (yv s, mv s, dv s, (0 : Int)) else some (0, 0, 0, if Right (yv s) (mv s) (dv s) then (0 : Int) else 11)) = _
              by_cases hR : Right (yv s) (mv s) (dv s)
              · simp only [if_pos hR, if_true]
              · simp only [if_neg hR]
                rw [if_neg (by decide)]
            · rw [if_neg hC, read_bad (fun h => hC h.2.2.2.2.2)]
              simp only [if_true, Bool.not_false]
              exact parse_j1 _ _ _ _ (by omega)
          · rw [if_neg hB, read_bad (fun h => hB h.2.2.2.2.1)]
            simp only [if_true]
            rw [if_neg (by decide)]
            exact parse_j1 _ _ _ _ (by omega)
        · rw [if_neg hA, read_bad (fun h => hA h.2.2.2.1), if_neg (by decide)]
          exact parse_j1 _ _ _ _ (by omega)
      · rw [show (bt s 7 != 45) = true by simp [h7], parse_j0 _ _ (by omega), read_bad (fun h => h7 h.2.2.1)]
    · rw [if_neg h4, parse_j0 _ _ (by omega), read_bad (fun h => h4 h.2.1)]
  · rw [if_neg hs, parse_j0 _ _ (by omega), read_bad (fun h => hs h.1)]
/-- One step of the document's reading: a digit. -/
theorem ref_digit (s : ByteArray) (hs : (s.size : Int) = 10) (L : List Int) (p i v : Int) (hp : 0 ≤ p) (hp2 : p < (L.length : Int)) (hv : rd L p = v) (hv2 : 0 ≤ v ∧ v ≤ 100000) (h0 : 0 ≤ i) (h1 : i < 10) (h4 : i ≠ 4) (h7 : i ≠ 7) (k : Nat) :
    chattelref09_Parse.l0 (k + 2) s L p i 0 0 0 = if dg (bt s i) then chattelref09_Parse.l0 k s (L.set p.toNat (10 * v + (bt s i - 48))) p (i + 1) 0 0 0 else some (0, 0, 0, 4) := by
  have hb := bt_range s i
  simp only [chattelref09_Parse.l0, chattelref09_Parse.j1]
  rw [if_pos h1, if_neg h4, show (i == 7) = false by simp [h7], if_neg (by decide), if_pos h0, if_pos (by omega), if_pos hp, if_pos hp2, hv]
  by_cases h3 : bt s i < 48
  · rw [if_pos h3, if_neg (show ¬ dg (bt s i) from fun h => h.1 h3)]
  · rw [if_neg h3]
    by_cases h5 : bt s i > 57
    · rw [if_pos h5, if_neg (show ¬ dg (bt s i) from fun h => h.2 h5)]
    · rw [if_neg h5, if_pos (show dg (bt s i) from ⟨h3, h5⟩), wrap_id (x := 10 * v) (by omega), wrap_id (x := bt s i) (by omega), wrap_id (x := 10 * v + bt s i) (by omega), wrap_id (x := 10 * v + bt s i - 48) (by omega), wrap_id (x := i + 1) (by omega), show 10 * v + bt s i - 48 = 10 * v + (bt s i - 48) by omega]
theorem ref_dash (s : ByteArray) (hs : (s.size : Int) = 10) (L : List Int) (p i : Int) (hp : 0 ≤ p ∧ p ≤ 10) (h : i = 4 ∨ i = 7) (k : Nat) :
    chattelref09_Parse.l0 (k + 2) s L p i 0 0 0 = if bt s i = 45 then chattelref09_Parse.l0 k s L (p + 1) (i + 1) 0 0 0 else some (0, 0, 0, 4) := by
  have e : chattelref09_Parse.j1 (k + 1) s L p i true 0 0 0 = if bt s i = 45 then chattelref09_Parse.l0 k s L (p + 1) (i + 1) 0 0 0 else some (0, 0, 0, 4) := by
    simp only [chattelref09_Parse.j1, if_true]
    rw [if_pos (by omega), if_pos (by omega), wrap_id (x := p + 1) (by omega), wrap_id (x := i + 1) (by omega)]
  rw [← e]
  simp only [chattelref09_Parse.l0]
  rw [if_pos (by omega)]
  rcases h with h | h
  · subst h
    rfl
  · subst h
    rfl
theorem ref_end (s : ByteArray) (a b c p : Int) (k : Nat) (hk : 1 < k) : chattelref09_Parse.l0 (k + 1) s [a, b, c] p 10 0 0 0 = some (if Right a b c then (a, b, c, 0) else (0, 0, 0, 11)) := by
  simp only [chattelref09_Parse.l0]
  have r0 : rd [a, b, c] 0 = a := rfl
  have r1 : rd [a, b, c] 1 = b := rfl
  have r2 : rd [a, b, c] 2 = c := rfl
  rw [if_neg (by decide), if_pos (by simp), if_pos (by simp), if_pos (by simp), r0, r1, r2, ref_right a b c k hk, Option.bind_some]
  by_cases h : Right a b c
  · rw [decide_eq_true h, if_pos rfl, if_pos h]
  · rw [decide_eq_false h, if_neg (by decide), if_neg h]
theorem refparse_eq (s : ByteArray) (k : Nat) (hk : 40 < k) : chattelref09_Parse.f k s = some (readD s) := by
  obtain ⟨k, rfl⟩ : ∃ q, k = q + 21 := ⟨k - 21, by omega⟩
  unfold chattelref09_Parse.f
  by_cases hs : (s.size : Int) = 10
  · rw [if_pos hs, ref_digit s hs [0, 0, 0] 0 0 0 (by decide) (by simp) rfl (by decide) (by decide) (by decide) (by decide) (by decide)]
    by_cases d0 : dg (bt s 0)
    · rw [if_pos d0, show (0 : Int) + 1 = 1 by decide]
      have g0 := d0
      unfold dg at g0
      rw [ref_digit s hs _ 0 1 (10 * 0 + (bt s 0 - 48)) (by decide) (by simp) rfl (by omega) (by decide) (by decide) (by decide) (by decide)]
      by_cases d1 : dg (bt s 1)
      · rw [if_pos d1, show (1 : Int) + 1 = 2 by decide]
        have g1 := d1
        unfold dg at g1
        rw [ref_digit s hs _ 0 2 (10 * (10 * 0 + (bt s 0 - 48)) + (bt s 1 - 48)) (by decide) (by simp) rfl (by omega) (by decide) (by decide) (by decide) (by decide)]
        by_cases d2 : dg (bt s 2)
        · rw [if_pos d2, show (2 : Int) + 1 = 3 by decide]
          have g2 := d2
          unfold dg at g2
          rw [ref_digit s hs _ 0 3 (10 * (10 * (10 * 0 + (bt s 0 - 48)) + (bt s 1 - 48)) + (bt s 2 - 48)) (by decide) (by simp) rfl (by omega) (by decide) (by decide) (by decide) (by decide)]
          by_cases d3 : dg (bt s 3)
          · rw [if_pos d3, show (3 : Int) + 1 = 4 by decide, ref_dash s hs _ 0 4 (by decide) (Or.inl rfl)]
            have g3 := d3
            unfold dg at g3
            by_cases d4 : bt s 4 = 45
            · rw [if_pos d4, show (4 : Int) + 1 = 5 by decide, show (0 : Int) + 1 = 1 by decide]
              rw [ref_digit s hs _ 1 5 0 (by decide) (by simp) rfl (by decide) (by decide) (by decide) (by decide) (by decide)]
              by_cases d5 : dg (bt s 5)
              · rw [if_pos d5, show (5 : Int) + 1 = 6 by decide]
                have g5 := d5
                unfold dg at g5
                rw [ref_digit s hs _ 1 6 (10 * 0 + (bt s 5 - 48)) (by decide) (by simp) rfl (by omega) (by decide) (by decide) (by decide) (by decide)]
                by_cases d6 : dg (bt s 6)
                · rw [if_pos d6, show (6 : Int) + 1 = 7 by decide, ref_dash s hs _ 1 7 (by decide) (Or.inr rfl)]
                  by_cases d7 : bt s 7 = 45
                  · rw [if_pos d7, show (7 : Int) + 1 = 8 by decide, show (1 : Int) + 1 = 2 by decide]
                    rw [ref_digit s hs _ 2 8 0 (by decide) (by simp) rfl (by decide) (by decide) (by decide) (by decide) (by decide)]
                    by_cases d8 : dg (bt s 8)
                    · rw [if_pos d8, show (8 : Int) + 1 = 9 by decide]
                      have g8 := d8
                      unfold dg at g8
                      rw [ref_digit s hs _ 2 9 (10 * 0 + (bt s 8 - 48)) (by decide) (by simp) rfl (by omega) (by decide) (by decide) (by decide) (by decide)]
                      by_cases d9 : dg (bt s 9)
                      · rw [if_pos d9, show (9 : Int) + 1 = 10 by decide]
                        unfold readD
                        rw [if_pos (show OK s from ⟨hs, d4, d7, ⟨d0, d1, d2, d3⟩, ⟨d5, d6⟩, d8, d9⟩)]
                        exact ref_end s (yv s) (mv s) (dv s) 2 k (by omega)
                      · rw [if_neg d9, read_bad (fun h => d9 h.2.2.2.2.2.2)]
                    · rw [if_neg d8, read_bad (fun h => d8 h.2.2.2.2.2.1)]
                  · rw [if_neg d7, read_bad (fun h => d7 h.2.2.1)]
                · rw [if_neg d6, read_bad (fun h => d6 h.2.2.2.2.1.2)]
              · rw [if_neg d5, read_bad (fun h => d5 h.2.2.2.2.1.1)]
            · rw [if_neg d4, read_bad (fun h => d4 h.2.1)]
          · rw [if_neg d3, read_bad (fun h => d3 h.2.2.2.1.2.2.2)]
        · rw [if_neg d2, read_bad (fun h => d2 h.2.2.2.1.2.2.1)]
      · rw [if_neg d1, read_bad (fun h => d1 h.2.2.2.1.2.1)]
    · rw [if_neg d0, read_bad (fun h => d0 h.2.2.2.1.1)]
  · rw [if_neg hs, read_bad (fun h => hs h.1)]
end Go.Proofs.YtfikfmediheioaaM
end

section
/- Proved is that DateTexts answers true for every input: what any text is parsed to is the document's, or there is its error; a date's text is parsed to it again. -/
namespace Go.Proofs.Ytfikfmediheioaa.Pure
open Go.RowKit Go.Proofs.Ytfikfmediheioaa.F Go.Proofs.YtfikfmediheioaaW.PrintWords Go.Proofs.YtfikfmediheioaaW.PrintLast Go.Proofs.YtfikfmediheioaaM
set_option linter.unusedVariables false

theorem bt_str (xs : List Int) (i : Int) (v : Int) (h : xs[i.toNat]? = some v) (hv : 0 ≤ v ∧ v ≤ 255) : bt (strOfNums xs) i = v := by
  obtain ⟨hl, he⟩ := List.getElem?_eq_some_iff.mp h
  unfold bt
  rw [dif_pos (by rw [strOfNums_size]; exact hl)]
  have e : (strOfNums xs)[i.toNat]'(by rw [strOfNums_size]; exact hl) = UInt8.ofNat v.toNat := by
    show (strOfNums xs).data[i.toNat]'_ = _
    simp [strOfNums, he]
  rw [e]
  simp
  omega
theorem read_txt {y m d : Int} (h : Right y m d) : readD (strOfNums (txt y m d)) = (y, m, d, 0) := by
  obtain ⟨hy, hm, hd⟩ := h.in_
  have hz : ((strOfNums (txt y m d)).size : Int) = 10 := by rw [strOfNums_size]; rfl
  have b0 := bt_str (txt y m d) 0 _ rfl (by omega)
  have b1 := bt_str (txt y m d) 1 _ rfl (by omega)
  have b2 := bt_str (txt y m d) 2 _ rfl (by omega)
  have b3 := bt_str (txt y m d) 3 _ rfl (by omega)
  have b4 := bt_str (txt y m d) 4 _ rfl (by omega)
  have b5 := bt_str (txt y m d) 5 _ rfl (by omega)
  have b6 := bt_str (txt y m d) 6 _ rfl (by omega)
  have b7 := bt_str (txt y m d) 7 _ rfl (by omega)
  have b8 := bt_str (txt y m d) 8 _ rfl (by omega)
  have b9 := bt_str (txt y m d) 9 _ rfl (by omega)
  have ey : yv (strOfNums (txt y m d)) = y := by unfold yv; rw [b0, b1, b2, b3]; omega
  have em : mv (strOfNums (txt y m d)) = m := by unfold mv; rw [b5, b6]; omega
  have ed : dv (strOfNums (txt y m d)) = d := by unfold dv; rw [b8, b9]; omega
  unfold readD
  rw [if_pos, ey, em, ed, if_pos h]
  refine ⟨hz, b4, b7, ⟨?_, ?_, ?_, ?_⟩, ⟨?_, ?_⟩, ?_, ?_⟩
  · rw [b0]; unfold dg; omega
  · rw [b1]; unfold dg; omega
  · rw [b2]; unfold dg; omega
  · rw [b3]; unfold dg; omega
  · rw [b5]; unfold dg; omega
  · rw [b6]; unfold dg; omega
  · rw [b8]; unfold dg; omega
  · rw [b9]; unfold dg; omega
theorem txt_read {s : ByteArray} (h : OK s) : strOfNums (txt (yv s) (mv s) (dv s)) = s := by
  obtain ⟨hz, h4, h7, ⟨h0, h1, h2, h3⟩, ⟨h5, h6⟩, h8, h9⟩ := h
  unfold dg at h0 h1 h2 h3 h5 h6 h8 h9
  have hs : s.size = 10 := by omega
  have key : txt (yv s) (mv s) (dv s) = [bt s 0, bt s 1, bt s 2, bt s 3, bt s 4, bt s 5, bt s 6, bt s 7, bt s 8, bt s 9] := by
    unfold txt yv mv dv
    rw [h4, h7]
    simp only [List.cons.injEq, and_true]
    refine ⟨?_, ?_, ?_, ?_, trivial, ?_, ?_, trivial, ?_, ?_⟩ <;> omega
  have hb : ∀ j : Nat, (hj : j < s.size) → UInt8.ofNat (bt s (j : Int)).toNat = s.data[j] := fun j hj => by
    unfold bt
    rw [dif_pos (by simpa using hj)]
    simp
    rfl
  rw [key]
  apply ByteArray.ext
  apply Array.ext
  · exact (strOfNums_size [bt s 0, bt s 1, bt s 2, bt s 3, bt s 4, bt s 5, bt s 6, bt s 7, bt s 8, bt s 9]).trans hs.symm
  · intro i a b
    have hi : i < 10 := Nat.lt_of_lt_of_eq b hs
    rw [← hb i b]
    simp only [strOfNums, List.getElem_toArray]
    have : i = 0 ∨ i = 1 ∨ i = 2 ∨ i = 3 ∨ i = 4 ∨ i = 5 ∨ i = 6 ∨ i = 7 ∨ i = 8 ∨ i = 9 := by omega
    rcases this with e | e | e | e | e | e | e | e | e | e <;> (subst e; rfl)
theorem texts_j0 (s : ByteArray) (k : Nat) (hk : 100 < k) : chattellaw09_DateTexts.j0 k s (readD s).2.2.2 false (readD s).1 (readD s).2.1 (readD s).2.2.1 = some true := by
  obtain ⟨k, rfl⟩ : ∃ q, k = q + 1 := ⟨k - 1, by omega⟩
  simp only [chattellaw09_DateTexts.j0]
  rw [if_neg (by decide)]
  unfold readD
  by_cases h : OK s
  · rw [if_pos h]
    by_cases hR : Right (yv s) (mv s) (dv s)
    · rw [if_pos hR]
      simp only [if_true]
      rw [print_eq hR _ (by omega), Option.bind_some, wakes09 _ (by omega), Option.bind_some, if_pos rfl]
      simp only [if_true]
      rw [txt_read h]
      simp
    · rw [if_neg hR]
      simp only
      rw [if_neg (by decide), wakes09 _ (by omega), Option.bind_some, if_pos rfl]
      rfl
  · rw [if_neg h]
    simp only
    rw [if_neg (by decide), wakes09 _ (by omega), Option.bind_some, if_pos rfl]
    rfl
theorem DateTexts : chattellaw09_DateTexts.Pure := by
  intro s a b c hs wa wb wc
  refine ⟨200, ?_⟩
  unfold chattellaw09_DateTexts.f
  have hA := (made_right a b c 9999 (by decide) (by decide)).1
  rw [parse_eq s _ (by omega), Option.bind_some, refparse_eq s _ (by omega), Option.bind_some, make_eq a b c 9999 (by decide) (by decide) _ (by omega), Option.bind_some]
  generalize made a b c 9999 = A at *
  obtain ⟨y, m, d⟩ := A
  simp only at hA ⊢
  rw [print_eq hA _ (by omega), Option.bind_some]
  simp only
  rw [parse_eq _ _ (by omega), Option.bind_some, read_txt hA, if_neg (by simp)]
  simp only [if_true]
  rw [if_neg (by simp), show ((0 : Int) != 0) = false by decide]
  exact texts_j0 s 200 (by decide)
end Go.Proofs.Ytfikfmediheioaa.Pure
end
