-- Joined of: D0 D1 D2 D3 D4 D5 PureMonthSeries
import Derived.Test.YtfikfmediheioaaF2
import Derived.Test.YtfikfmediheioaaF3
import Derived.Test.YtfikfmediheioaaF5
import Derived.Test.YtfikfmediheioaaF6
import Derived.Test.YtfikfmediheioaaF7
import Derived.Test.YtfikfmediheioaaF8
import Derived.Test.YtfikfmediheioaaE0
import Derived.Test.YtfikfmediheioaaF15
import Derived.Test.YtfikfmediheioaaF4
import Derived.Test.YtfikfmediheioaaF9
import Derived.Test.YtfikfmediheioaaF0
import Derived.Test.YtfikfmediheioaaF10
import Derived.Test.YtfikfmediheioaaF16
import Derived.Test.YtfikfmediheioaaF22
import Derived.Test.YtfikfmediheioaaF23
import Derived.Test.YtfikfmediheioaaF24
import Derived.Test.YtfikfmediheioaaF25
import Derived.Test.YtfikfmediheioaaF18
import Derived.Test.YtfikfmediheioaaF19
import Derived.Test.YtfikfmediheioaaF20
import Derived.Test.YtfikfmediheioaaF12
import Derived.Test.YtfikfmediheioaaF11
import Derived.Test.YtfikfmediheioaaF13
import Derived.Test.YtfikfmediheioaaF14
import Derived.Test.YtfikfmediheioaaF17
section
/- Layer 9 (date) as plain functions: the calendar. -/
namespace Go.Proofs.YtfikfmediheioaaM
open Go.RowKit Go.Proofs.YtfikfmediheioaaW.PrintWords Go.Proofs.YtfikfmediheioaaW.PrintLast Go.Proofs.YtfikfmediheioaaW.PrintMore Go.Proofs.YtfikfmediheioaaX Go.Proofs.Ytfikfmediheioaa.F
set_option linter.unusedVariables false
set_option linter.unusedSimpArgs false

def leap (y : Int) : Bool := decide ((y % 4 = 0 ∧ y % 100 ≠ 0) ∨ y % 400 = 0)
/-- Days of a month of a year, each as it should be. -/
def dm (y m : Int) : Int := if m = 2 then (if leap y = true then 29 else 28) else if m = 4 ∨ m = 6 ∨ m = 9 ∨ m = 11 then 30 else 31
def days (y m : Int) : Int := if 1 ≤ y ∧ y ≤ 9999 ∧ 1 ≤ m ∧ m ≤ 12 then dm y m else 0
def Right (y m d : Int) : Prop := 1 ≤ d ∧ d ≤ days y m
instance (y m d : Int) : Decidable (Right y m d) := inferInstanceAs (Decidable (_ ∧ _))
theorem dm_bd (y m : Int) : 28 ≤ dm y m ∧ dm y m ≤ 31 := by unfold dm; repeat' split <;> omega
theorem days_in {y m : Int} (h : 1 ≤ y ∧ y ≤ 9999) (h2 : 1 ≤ m ∧ m ≤ 12) : days y m = dm y m := if_pos ⟨h.1, h.2, h2.1, h2.2⟩
theorem days_bd (y m : Int) : 0 ≤ days y m ∧ days y m ≤ 31 := by
  unfold days
  have := dm_bd y m
  split <;> omega
theorem Right.in_ {y m d : Int} (h : Right y m d) : (1 ≤ y ∧ y ≤ 9999) ∧ (1 ≤ m ∧ m ≤ 12) ∧ 1 ≤ d ∧ d ≤ 31 := by
  obtain ⟨h1, h2⟩ := h
  have := days_bd y m
  unfold days at h2 this
  split at h2
  · rename_i h3
    rw [if_pos h3] at this
    exact ⟨⟨h3.1, h3.2.1⟩, ⟨h3.2.2.1, h3.2.2.2⟩, h1, by omega⟩
  · omega
theorem date_leap (y : Int) : date_Leap.f y = some (decide (1 ≤ y ∧ y ≤ 9999) && leap y) := by
  unfold date_Leap.f date_good.f
  by_cases h1 : 1 ≤ y
  · rw [if_pos h1, Option.bind_some]
    by_cases h2 : y ≤ 9999
    · rw [decide_eq_true h2, if_pos rfl, tmod_pos _ (by omega), tmod_pos _ (by omega), tmod_pos _ (by omega)]
      unfold leap
      by_cases a : y % 4 = 0
      · rw [if_pos a]
        by_cases b : y % 100 = 0
        · rw [if_pos b]
          by_cases c : y % 400 = 0 <;> simp [a, b, c, h1, h2]
        · rw [if_neg b]
          simp [a, b, h1, h2]
      · rw [if_neg a]
        have c : ¬ y % 400 = 0 := by omega
        simp [a, c, h1, h2]
    · rw [decide_eq_false h2, if_neg (by decide)]
      simp [h2]
  · rw [if_neg h1, Option.bind_some, if_neg (by decide)]
    simp [h1]
theorem tab12 {m : Int} (h : 1 ≤ m ∧ m ≤ 12) : 0 ≤ wrap64 (m - 1) ∧ wrap64 (m - 1) < 12 ∧
    rd ([31, 28, 31, 30, 31, 30, 31, 31, 30, 31, 30, 31] : List Int) (wrap64 (m - 1)) = if m = 2 then 28 else if m = 4 ∨ m = 6 ∨ m = 9 ∨ m = 11 then 30 else 31 := by
  have : m = 1 ∨ m = 2 ∨ m = 3 ∨ m = 4 ∨ m = 5 ∨ m = 6 ∨ m = 7 ∨ m = 8 ∨ m = 9 ∨ m = 10 ∨ m = 11 ∨ m = 12 := by omega
  rcases this with h | h | h | h | h | h | h | h | h | h | h | h <;> (subst h; decide +kernel)
theorem date_days (y m : Int) (k : Nat) (hk : 0 < k) : date_Days.f k y m = some (days y m) := by
  obtain ⟨k, rfl⟩ : ∃ j, k = j + 1 := ⟨k - 1, by omega⟩
  unfold date_Days.f date_good.f days
  by_cases h1 : 1 ≤ y
  · rw [if_pos h1, Option.bind_some]
    by_cases h2 : y ≤ 9999
    · rw [decide_eq_true h2, if_pos rfl]
      by_cases h3 : m < 1
      · rw [if_pos h3, if_neg (by omega)]
        simp only [date_Days.j0, if_true]
      · rw [if_neg h3]
        by_cases h4 : m > 12
        · rw [decide_eq_true h4, if_neg (by omega)]
          simp only [date_Days.j0, if_true]
        · rw [decide_eq_false h4, if_pos ⟨h1, h2, by omega, by omega⟩]
          obtain ⟨t1, t2, t3⟩ := tab12 (m := m) (by omega)
          simp only [date_Days.j0, date_leap, Option.bind_some, if_pos t1, if_pos t2, t3]
          rw [if_neg (by decide)]
          unfold dm
          by_cases h5 : m = 2
          · simp only [if_pos h5, decide_eq_true (show 1 ≤ y ∧ y ≤ 9999 from ⟨h1, h2⟩), Bool.true_and]
            split <;> rfl
          · simp only [if_neg h5]
    · rw [decide_eq_false h2, if_neg (by decide), if_neg (by omega)]
      simp only [date_Days.j0, if_true]
  · rw [if_neg h1, Option.bind_some, if_neg (by decide), if_neg (by omega)]
    simp only [date_Days.j0, if_true]
theorem date_check (y m d : Int) (k : Nat) (hk : 0 < k) : date_Check.f k y m d = some (if Right y m d then 0 else 11) := by
  unfold date_Check.f
  by_cases h : d < 1
  · rw [if_pos h, if_neg (fun h2 : Right y m d => by have := h2.1; omega)]
  · rw [if_neg h, date_days y m k hk, Option.bind_some]
    by_cases h2 : d > days y m
    · rw [if_pos h2, if_neg (fun h3 : Right y m d => by have := h3.2; omega)]
    · rw [if_neg h2, if_pos (show Right y m d from ⟨by omega, by omega⟩)]
theorem ref_leap (y : Int) (k : Nat) (hk : 0 < k) : chattelref09_Leap.f k y = some (decide (1 ≤ y ∧ y ≤ 9999) && leap y) := by
  obtain ⟨k, rfl⟩ : ∃ j, k = j + 1 := ⟨k - 1, by omega⟩
  unfold chattelref09_Leap.f
  by_cases h1 : y < 1
  · rw [if_pos h1]
    simp only [chattelref09_Leap.j0, if_true]
    rw [decide_eq_false (by omega)]
    rfl
  · rw [if_neg h1]
    by_cases h2 : y > 9999
    · rw [decide_eq_true h2, decide_eq_false (by omega)]
      simp only [chattelref09_Leap.j0, if_true]
      rfl
    · rw [decide_eq_false h2, decide_eq_true (by omega)]
      simp only [chattelref09_Leap.j0]
      rw [if_neg (by decide), tmod_pos _ (by omega), tmod_pos _ (by omega), tmod_pos _ (by omega)]
      unfold leap
      by_cases a : y % 400 = 0
      · simp [a]
      · rw [if_neg a]
        by_cases b : y % 4 = 0
        · rw [if_pos b]
          by_cases c : y % 100 = 0 <;> simp [a, b, c]
        · simp [a, b]
theorem ref_days (y m : Int) (k : Nat) (hk : 1 < k) : chattelref09_Days.f k y m = some (days y m) := by
  obtain ⟨k, rfl⟩ : ∃ j, k = j + 1 := ⟨k - 1, by omega⟩
  unfold chattelref09_Days.f days
  by_cases h1 : y < 1
  · rw [if_pos h1, if_neg (by omega)]
    simp only [chattelref09_Days.j0, if_true]
  · rw [if_neg h1]
    by_cases h2 : y > 9999
    · rw [if_pos h2, if_neg (by omega)]
      simp only [chattelref09_Days.j0, if_true]
    · rw [if_neg h2]
      by_cases h3 : m < 1
      · rw [if_pos h3, if_neg (by omega)]
        simp only [chattelref09_Days.j0, if_true]
      · rw [if_neg h3]
        by_cases h4 : m > 12
        · rw [decide_eq_true h4, if_neg (by omega)]
          simp only [chattelref09_Days.j0, if_true]
        · rw [decide_eq_false h4, if_pos ⟨by omega, by omega, by omega, by omega⟩]
          simp only [chattelref09_Days.j0, ref_leap y k (by omega), Option.bind_some, decide_eq_true (show 1 ≤ y ∧ y ≤ 9999 by omega), Bool.true_and]
          rw [if_neg (by decide)]
          unfold dm
          by_cases h5 : m = 2
          · simp only [if_pos h5]
            split <;> rfl
          · simp only [if_neg h5]
            by_cases a : m = 4
            · simp [a]
            · by_cases b : m = 6
              · simp [b]
              · by_cases c : m = 9
                · simp [c]
                · by_cases d : m = 11
                  · simp [d]
                  · simp [a, b, c, d]
/-- A right date of any numbers. -/
def made (a b c n : Int) : Int × Int × Int := (a % n + 1, b % 12 + 1, c % days (a % n + 1) (b % 12 + 1) + 1)
theorem tmod_fix (a : Int) {n : Int} (hn : 0 < n) : (if Int.tmod a n < 0 then Int.tmod a n + n else Int.tmod a n) = a % n := by
  rw [Int.tmod_eq_emod]
  have h1 := Int.emod_nonneg a (show n ≠ 0 by omega)
  have h2 := Int.emod_lt_of_pos a hn
  split <;> split <;> omega
end Go.Proofs.YtfikfmediheioaaM
end

section
/- Layers 9 and 10 as plain functions, on: right dates of any numbers, months further. -/
namespace Go.Proofs.YtfikfmediheioaaM
open Go.RowKit Go.Proofs.YtfikfmediheioaaW.PrintWords Go.Proofs.YtfikfmediheioaaW.PrintLast Go.Proofs.YtfikfmediheioaaW.PrintMore Go.Proofs.YtfikfmediheioaaX Go.Proofs.Ytfikfmediheioaa.F
set_option linter.unusedVariables false
set_option linter.unusedSimpArgs false

theorem tmod_n {a n : Int} (hn : 0 < n) (hm : n ≤ 10000) (h : Int.tmod a n < 0) : wrap64 (Int.tmod a n + n) = a % n := by
  have h1 := tmod_fix a hn
  rw [if_pos h] at h1
  have h2 := Int.emod_nonneg a (show n ≠ 0 by omega)
  have h3 := Int.emod_lt_of_pos a hn
  rw [wrap_id (by omega), h1]
theorem tmod_p {a n : Int} (hn : 0 < n) (h : ¬ Int.tmod a n < 0) : Int.tmod a n = a % n := by
  have h1 := tmod_fix a hn
  rw [if_neg h] at h1
  exact h1
theorem make_days (y m c : Int) (k : Nat) (hk : 1 < k) (hy : 1 ≤ y ∧ y ≤ 9999) (hm : 1 ≤ m ∧ m ≤ 12) :
    ((chattelref09_Days.f k y m).bind fun t => if t = 0 then (none : Option (Int × Int × Int)) else if Int.tmod c t < 0 then some (y, m, wrap64 (wrap64 (Int.tmod c t + t) + 1)) else some (y, m, wrap64 (Int.tmod c t + 1))) = some (y, m, c % days y m + 1) := by
  rw [ref_days y m k hk, Option.bind_some]
  have h1 := days_in hy hm
  have h2 := dm_bd y m
  generalize days y m = t at *
  rw [if_neg (by omega)]
  have h3 := Int.emod_nonneg c (show t ≠ 0 by omega)
  have h4 := Int.emod_lt_of_pos c (show 0 < t by omega)
  by_cases h : Int.tmod c t < 0
  · rw [if_pos h, tmod_n (by omega) (by omega) h, wrap_id (by omega)]
  · rw [if_neg h, tmod_p (by omega) h, wrap_id (by omega)]
theorem make_eq (a b c n : Int) (hn : 0 < n) (hn2 : n ≤ 9999) (k : Nat) (hk : 2 < k) : chattelref09_Make.f k a b c n = some (made a b c n) := by
  obtain ⟨k, rfl⟩ : ∃ j, k = j + 1 := ⟨k - 1, by omega⟩
  unfold chattelref09_Make.f
  rw [if_neg (by omega)]
  have h1 := Int.emod_nonneg a (show n ≠ 0 by omega)
  have h2 := Int.emod_lt_of_pos a hn
  have h3 := Int.emod_nonneg b (show (12 : Int) ≠ 0 by omega)
  have h4 := Int.emod_lt_of_pos b (show (0 : Int) < 12 by omega)
  have hj : chattelref09_Make.j0 (k + 1) (a % n) a b c = some (made a b c n) := by
    simp only [chattelref09_Make.j0]
    rw [wrap_id (x := a % n + 1) (by omega)]
    by_cases h : Int.tmod b 12 < 0
    · rw [if_pos h, tmod_n (by omega) (by omega) h, wrap_id (x := b % 12 + 1) (by omega)]
      exact make_days _ _ c k (by omega) (by omega) (by omega)
    · rw [if_neg h, tmod_p (by omega) h, wrap_id (x := b % 12 + 1) (by omega)]
      exact make_days _ _ c k (by omega) (by omega) (by omega)
  by_cases h : Int.tmod a n < 0
  · rw [if_pos h, tmod_n hn (by omega) h]
    exact hj
  · rw [if_neg h, tmod_p hn h]
    exact hj
theorem made_right (a b c n : Int) (hn : 0 < n) (hn2 : n ≤ 9999) : Right (made a b c n).1 (made a b c n).2.1 (made a b c n).2.2 ∧ (made a b c n).1 ≤ n := by
  have h1 := Int.emod_nonneg a (show n ≠ 0 by omega)
  have h2 := Int.emod_lt_of_pos a hn
  have h3 := Int.emod_nonneg b (show (12 : Int) ≠ 0 by omega)
  have h4 := Int.emod_lt_of_pos b (show (0 : Int) < 12 by omega)
  have h5 := days_in (y := a % n + 1) (m := b % 12 + 1) (by omega) (by omega)
  have h6 := dm_bd (a % n + 1) (b % 12 + 1)
  unfold made Right
  simp only
  generalize days (a % n + 1) (b % 12 + 1) = t at *
  have h7 := Int.emod_nonneg c (show t ≠ 0 by omega)
  have h8 := Int.emod_lt_of_pos c (show 0 < t by omega)
  omega
/-- Months further: the date, and the error. -/
def addm (y m d n : Int) : Int × Int × Int × Int :=
  if Right y m d then (if n < -119988 ∨ n > 119988 ∨ 12 * y + m - 1 + n < 12 ∨ (12 * y + m - 1 + n) / 12 > 9999 then (0, 0, 0, 11)
    else ((12 * y + m - 1 + n) / 12, (12 * y + m - 1 + n) % 12 + 1, min d (days ((12 * y + m - 1 + n) / 12) ((12 * y + m - 1 + n) % 12 + 1)), 0)) else (0, 0, 0, 11)
theorem add_eq (y m d n : Int) (k : Nat) (hk : 1 < k) : month_Add.f k y m d n = some (addm y m d n) := by
  obtain ⟨k, rfl⟩ : ∃ j, k = j + 1 := ⟨k - 1, by omega⟩
  unfold month_Add.f addm
  rw [date_check y m d _ (by omega), Option.bind_some]
  by_cases h : Right y m d
  · rw [if_pos h, if_pos rfl, if_pos h]
    obtain ⟨hy, hm, hd⟩ := h.in_
    by_cases h1 : n < -119988
    · rw [if_pos h1, if_pos (by omega)]
      simp only [month_Add.j0, if_true]
    · rw [if_neg h1]
      by_cases h2 : n > 119988
      · rw [decide_eq_true h2, if_pos (by omega)]
        simp only [month_Add.j0, if_true]
      · rw [decide_eq_false h2]
        simp only [month_Add.j0]
        rw [if_neg (by decide), wrap_id (x := 12 * y) (by omega), wrap_id (x := 12 * y + m) (by omega), wrap_id (x := 12 * y + m - 1) (by omega), wrap_id (x := 12 * y + m - 1 + n) (by omega)]
        generalize hq : 12 * y + m - 1 + n = q
        by_cases h3 : q < 12
        · rw [if_pos h3, if_pos (by omega)]
        · rw [if_neg h3, tdiv_pos _ (by omega), tmod_pos _ (by omega), wrap_id (x := q / 12) (by omega), wrap_id (x := q % 12 + 1) (by omega)]
          by_cases h4 : q / 12 > 9999
          · rw [if_pos h4, if_pos (by omega)]
          · rw [if_neg h4, if_neg (by omega), date_days _ _ k (by omega), Option.bind_some, mn_eq]
  · rw [if_neg h, if_neg (by decide), if_neg h]
theorem end_eq (y m d : Int) (k : Nat) (hk : 0 < k) : month_End.f k y m d = some (decide (Right y m d ∧ d = days y m)) := by
  unfold month_End.f
  rw [date_check y m d k hk, Option.bind_some]
  by_cases h : Right y m d
  · rw [if_pos h, if_pos rfl, date_days y m k hk, Option.bind_some]
    by_cases e : d = days y m <;> simp [e, h]
    rw [← e]
    exact h
  · rw [if_neg h, if_neg (by decide)]
    simp [h]
end Go.Proofs.YtfikfmediheioaaM
end

section
/- Layer 10 as plain functions, on: series; dates compared. -/
namespace Go.Proofs.YtfikfmediheioaaM
open Go.RowKit Go.Proofs.YtfikfmediheioaaW.PrintWords Go.Proofs.YtfikfmediheioaaW.PrintLast Go.Proofs.YtfikfmediheioaaW.PrintMore Go.Proofs.YtfikfmediheioaaX Go.Proofs.Ytfikfmediheioaa.F
set_option linter.unusedVariables false
set_option linter.unusedSimpArgs false

/-- The dates from the j-th on, so many, behind those that are there; and the error. -/
def ser (y m d st : Int) : Nat → Int → List S23 → List S23 × Int
  | 0, _, acc => (acc, 0)
  | r + 1, j, acc => if (addm y m d (j * st)).2.2.2 = 0 then ser y m d st r (j + 1) (acc ++ [⟨(addm y m d (j * st)).1, (addm y m d (j * st)).2.1, (addm y m d (j * st)).2.2.1⟩]) else ([], (addm y m d (j * st)).2.2.2)
theorem series_l0 (y m d s n : Int) (hs : 1 ≤ s) (hn : n ≤ 1200) : ∀ (r : Nat) (j : Int) (acc : List S23), 1 ≤ j → j + r = n + 1 → acc.length + r ≤ 2000 → ∀ k, r + 2 < k → month_Series.l0 k s n acc j y m d = some (ser y m d (min s 119989) r j acc)
  | 0, j, acc, h1, h2, h3, k, hk => by
    obtain ⟨k, rfl⟩ : ∃ q, k = q + 1 := ⟨k - 1, by omega⟩
    simp only [month_Series.l0]
    rw [if_neg (by omega)]
    rfl
  | r + 1, j, acc, h1, h2, h3, k, hk => by
    obtain ⟨k, rfl⟩ : ∃ q, k = q + 1 := ⟨k - 1, by omega⟩
    simp only [month_Series.l0]
    have hb : 0 ≤ j * min s 119989 ∧ j * min s 119989 ≤ 1200 * 119989 := ⟨Int.mul_nonneg (by omega) (by omega), Int.mul_le_mul (by omega) (by omega) (by omega) (by omega)⟩
    rw [if_pos (by omega), mn_eq, wrap_id (x := j * min s 119989) (by omega), add_eq _ _ _ _ k (by omega), Option.bind_some]
    unfold ser
    by_cases h : (addm y m d (j * min s 119989)).2.2.2 = 0
    · rw [if_pos h, if_pos (by omega), if_pos h, wrap_id (x := j + 1) (by omega)]
      exact series_l0 y m d s n hs hn r (j + 1) _ (by omega) (by omega) (by simp; omega) k (by omega)
    · rw [if_neg h, if_neg h]
theorem series_eq (y m d s n : Int) (k : Nat) (hk : 1300 < k) : month_Series.f k y m d s n =
    some (if s < 1 ∨ n < 0 ∨ n > 1200 then ([], 2) else if Right y m d then ser y m d (min s 119989) n.toNat 1 [] else ([], 11)) := by
  obtain ⟨k, rfl⟩ : ∃ q, k = q + 1 := ⟨k - 1, by omega⟩
  unfold month_Series.f
  by_cases h1 : s < 1
  · rw [if_pos h1, if_pos (by omega)]
    simp only [month_Series.j0, if_true]
  · rw [if_neg h1]
    by_cases h2 : n < 0
    · rw [if_pos h2, if_pos (by omega)]
      simp only [month_Series.j0, if_true]
    · rw [if_neg h2]
      by_cases h3 : n > 1200
      · rw [decide_eq_true h3, if_pos (by omega)]
        simp only [month_Series.j0, if_true]
      · rw [decide_eq_false h3, if_neg (by omega)]
        simp only [month_Series.j0]
        rw [if_neg (by decide), date_check y m d k (by omega), Option.bind_some]
        by_cases h4 : Right y m d
        · rw [if_pos h4, if_pos rfl, if_pos h4]
          exact series_l0 y m d s n (by omega) (by omega) n.toNat 1 [] (by omega) (by omega) (by simp; omega) k (by omega)
        · rw [if_neg h4, if_neg (by decide), if_neg h4]
def sgI (a b : Int) : Int := if a < b then -1 else if a > b then 1 else 0
theorem cmpI (a b : Int) : cmp_Compare_int.f a b = some (sgI a b) := by
  unfold cmp_Compare_int.f cmp_isNaN_int.f sgI
  simp only [bne_self_eq_false, Option.bind_some]
  rw [if_neg (by decide), if_neg (by decide)]
  by_cases h : a < b
  · rw [if_pos h, if_pos h]
  · rw [if_neg h, if_neg h]
    by_cases h2 : a > b
    · rw [if_pos h2, if_pos h2]
    · rw [if_neg h2, if_neg h2]
def or3 (a b c : Int) : Int := if a = 0 then (if b = 0 then c else b) else a
theorem or3_eq (a b c : Int) (k : Nat) (hk : 3 < k) : cmp_Or_int.f k [a, b, c] = some (or3 a b c) := by
  obtain ⟨k, rfl⟩ : ∃ q, k = q + 4 := ⟨k - 4, by omega⟩
  have r0 : rd [a, b, c] 0 = a := rfl
  have r1 : rd [a, b, c] 1 = b := rfl
  have r2 : rd [a, b, c] 2 = c := rfl
  unfold cmp_Or_int.f or3
  simp only [cmp_Or_int.l0, List.length_cons, List.length_nil]
  have w1 : wrap64 (0 + 1) = 1 := wrap_id (by decide)
  have w2 : wrap64 (1 + 1) = 2 := wrap_id (by decide)
  have w3 : wrap64 (2 + 1) = 3 := wrap_id (by decide)
  rw [if_pos (by decide), if_pos (by decide), if_pos (by decide), r0]
  by_cases ha : a = 0
  · rw [if_pos ha, if_pos ha, w1, if_pos (by decide), if_pos (by decide), if_pos (by decide), r1]
    by_cases hb : b = 0
    · rw [if_pos hb, if_pos hb, w2, if_pos (by decide), if_pos (by decide), if_pos (by decide), r2]
      by_cases hc : c = 0
      · rw [if_pos hc, w3, if_neg (by decide), hc]
      · rw [if_neg hc]
    · rw [if_neg hb, if_neg hb]
  · rw [if_neg ha, if_neg ha]
theorem cmp_eq (y m d y2 m2 d2 : Int) (k : Nat) (hk : 3 < k) : date_Cmp.f k y m d y2 m2 d2 = some (or3 (sgI y y2) (sgI m m2) (sgI d d2)) := by
  unfold date_Cmp.f
  simp only [cmpI, Option.bind_some, or3_eq _ _ _ k hk]
theorem wakes10 : Ev (fun k => chattellaw10_wakes.f k) true := Ev.of (fun k => chattellaw10_wakes.mono k) (k := 8) (by decide +kernel)
end Go.Proofs.YtfikfmediheioaaM
end

section
/- Layer 9 as plain functions, on: a date's number; days between. -/
namespace Go.Proofs.YtfikfmediheioaaM
open Go.RowKit Go.Proofs.YtfikfmediheioaaW.PrintWords Go.Proofs.YtfikfmediheioaaW.PrintLast Go.Proofs.YtfikfmediheioaaW.PrintMore Go.Proofs.YtfikfmediheioaaX Go.Proofs.Ytfikfmediheioaa.F
set_option linter.unusedVariables false
set_option linter.unusedSimpArgs false

def aheadOf (y : Int) : Int := 365 * (y - 1) + (y - 1) / 4 - (y - 1) / 100 + (y - 1) / 400
theorem ahead_eq (y : Int) (h : 1 ≤ y ∧ y ≤ 10000) : date_ahead.f y = some (aheadOf y) := by
  unfold date_ahead.f aheadOf
  have e0 : wrap64 (y - 1) = y - 1 := wrap_id (by omega)
  rw [e0, tdiv_pos _ (by omega), tdiv_pos _ (by omega), tdiv_pos _ (by omega)]
  have hz : 0 ≤ y - 1 ∧ y - 1 ≤ 9999 := by omega
  clear e0
  generalize y - 1 = z at *
  rw [wrap_id (x := 365 * z) (by omega), wrap_id (x := z / 4) (by omega), wrap_id (x := z / 100) (by omega), wrap_id (x := z / 400) (by omega), wrap_id (x := 365 * z + z / 4) (by omega), wrap_id (x := 365 * z + z / 4 - z / 100) (by omega), wrap_id (by omega)]
theorem ahead_bd (y : Int) (h : 1 ≤ y ∧ y ≤ 10000) : 0 ≤ aheadOf y ∧ aheadOf y ≤ 3652059 := by unfold aheadOf; omega
/-- The days of a year's first months, so many. -/
def mdays (y : Int) : Nat → Int
  | 0 => 0
  | t + 1 => mdays y t + days y ((t + 1 : Nat) : Int)
theorem mdays_bd (y : Int) : ∀ t : Nat, 0 ≤ mdays y t ∧ mdays y t ≤ 31 * t
  | 0 => by simp [mdays]
  | t + 1 => by
    have := mdays_bd y t
    have := days_bd y ((t + 1 : Nat) : Int)
    unfold mdays
    omega
/-- A date's number. -/
def num (y m d : Int) : Int := aheadOf y + mdays y (m - 1).toNat + d
theorem number_l0 (y d : Int) (M : Nat) (hM : M ≤ 11) (hd : 0 ≤ d ∧ d ≤ 31) (b : Int) (hb : 0 ≤ b ∧ b ≤ 3652059) (r : Nat) : ∀ (t : Nat), t + r = M → ∀ k, r + 1 < k →
    date_Number.l0 k (b + mdays y t) ((t + 1 : Nat) : Int) y ((M + 1 : Nat) : Int) d = some (b + mdays y M + d, 0) := by
  induction r with
  | zero =>
    intro t h k hk
    obtain ⟨k, rfl⟩ : ∃ q, k = q + 1 := ⟨k - 1, by omega⟩
    have ht : t = M := by omega
    subst ht
    have := mdays_bd y t
    simp only [date_Number.l0]
    rw [if_neg (by omega), wrap_id (by omega)]
  | succ r ih =>
    intro t h k hk
    obtain ⟨k, rfl⟩ : ∃ q, k = q + 1 := ⟨k - 1, by omega⟩
    have h1 := mdays_bd y t
    have h2 := days_bd y ((t + 1 : Nat) : Int)
    have h3 : b + mdays y t + days y ((t + 1 : Nat) : Int) = b + mdays y (t + 1) := by rw [mdays, Int.add_assoc]
    simp only [date_Number.l0]
    rw [if_pos (by omega), date_days y _ k (by omega), Option.bind_some, wrap_id (by omega), wrap_id (x := ((t + 1 : Nat) : Int) + 1) (by omega), h3]
    exact ih (t + 1) (by omega) k (by omega)
theorem number_eq (y m d : Int) (k : Nat) (hk : 14 < k) : date_Number.f k y m d = some (if Right y m d then (num y m d, 0) else (0, 11)) := by
  unfold date_Number.f
  rw [date_check y m d k (by omega), Option.bind_some]
  by_cases h : Right y m d
  · obtain ⟨hy, hm, hd⟩ := h.in_
    rw [if_pos h, if_pos rfl, if_pos h, ahead_eq y (by omega), Option.bind_some]
    obtain ⟨M, hM⟩ : ∃ M : Nat, m = ((M + 1 : Nat) : Int) := ⟨(m - 1).toNat, by omega⟩
    have := number_l0 y d M (by omega) (by omega) (aheadOf y) (ahead_bd y (by omega)) M 0 (by omega) k (by omega)
    rw [mdays, Int.add_zero, ← hM] at this
    unfold num
    rw [show (m - 1).toNat = M by omega]
    exact this
  · rw [if_neg h, if_neg (by decide), if_neg h]
theorem num_bd {y m d : Int} (h : Right y m d) : 1 ≤ num y m d ∧ num y m d ≤ 4000000 := by
  obtain ⟨hy, hm, hd⟩ := h.in_
  have h1 := ahead_bd y (by omega)
  have h2 := mdays_bd y (m - 1).toNat
  unfold num
  omega
theorem between_eq (y m d y2 m2 d2 : Int) (k : Nat) (hk : 14 < k) : month_Between.f k y m d y2 m2 d2 =
    some (if Right y m d then (if Right y2 m2 d2 then (num y2 m2 d2 - num y m d, 0) else (0, 11)) else (0, 11)) := by
  unfold month_Between.f
  rw [number_eq y m d k hk, Option.bind_some]
  by_cases h : Right y m d
  · rw [if_pos h, if_pos h]
    simp only [if_true]
    rw [number_eq y2 m2 d2 k hk, Option.bind_some]
    by_cases h2 : Right y2 m2 d2
    · have b1 := num_bd h
      have b2 := num_bd h2
      rw [if_pos h2, if_pos h2]
      simp only [if_true]
      rw [wrap_id (by omega)]
    · rw [if_neg h2, if_neg h2]
      simp only
      rw [if_neg (by decide)]
  · rw [if_neg h, if_neg h]
    simp only
    rw [if_neg (by decide)]
end Go.Proofs.YtfikfmediheioaaM
end

section
/- Layer 10's document answer as plain functions: months further, by loops. -/
namespace Go.Proofs.YtfikfmediheioaaM
open Go.RowKit Go.Proofs.YtfikfmediheioaaW.PrintWords Go.Proofs.YtfikfmediheioaaW.PrintLast Go.Proofs.YtfikfmediheioaaW.PrintMore Go.Proofs.YtfikfmediheioaaX Go.Proofs.Ytfikfmediheioaa.F
set_option linter.unusedVariables false
set_option linter.unusedSimpArgs false

/-- The date of a month's number, or none. -/
def finR (d Q : Int) : Int × Int × Int × Bool := if Q / 12 < 1 ∨ Q / 12 > 9999 then (0, 0, 0, false) else (Q / 12, Q % 12 + 1, min d (days (Q / 12) (Q % 12 + 1)), true)
theorem refadd_l1 (a b d : Int) (r : Nat) : ∀ (y m : Int), -1000000 + (r : Int) ≤ y ∧ y ≤ 1000000 → m ≤ 12 → 1 ≤ m + 12 * r → r ≤ 20000 → ∀ k, r + 3 < k → chattelref10_Add.l1 k y m a b d = some (finR d (12 * y + m - 1)) := by
  induction r with
  | zero =>
    intro y m hy h1 h2 h3 k hk
    obtain ⟨k, rfl⟩ : ∃ q, k = q + 1 := ⟨k - 1, by omega⟩
    have e1 : (12 * y + m - 1) / 12 = y := by omega
    have e2 : (12 * y + m - 1) % 12 + 1 = m := by omega
    simp only [chattelref10_Add.l1]
    unfold finR
    rw [e1, e2, if_neg (by omega)]
    by_cases h4 : y < 1
    · rw [if_pos h4, if_pos (by omega)]
    · rw [if_neg h4]
      by_cases h5 : y > 9999
      · rw [if_pos h5, if_pos (by omega)]
      · rw [if_neg h5, if_neg (by omega), ref_days y m k (by omega), Option.bind_some, mn_eq]
  | succ r ih =>
    intro y m hy h1 h2 h3 k hk
    by_cases h : 1 ≤ m + 12 * r
    · exact ih y m ⟨by omega, hy.2⟩ h1 h (by omega) k (by omega)
    · obtain ⟨k, rfl⟩ : ∃ q, k = q + 1 := ⟨k - 1, by omega⟩
      simp only [chattelref10_Add.l1]
      rw [if_pos (by omega), wrap_id (x := y - 1) (by omega), wrap_id (x := m + 12) (by omega), show 12 * y + m - 1 = 12 * (y - 1) + (m + 12) - 1 by omega]
      exact ih (y - 1) (m + 12) (by omega) (by omega) (by omega) (by omega) k (by omega)
theorem refadd_l0 (a b d : Int) (r : Nat) : ∀ (y m : Int), -900000 ≤ y ∧ y + (r : Int) ≤ 1000000 → m ≤ 12 + 12 * r → -200000 ≤ m → r ≤ 20000 → ∀ k, r + 20010 < k → chattelref10_Add.l0 k y m a b d = some (finR d (12 * y + m - 1)) := by
  induction r with
  | zero =>
    intro y m hy h1 h2 h3 k hk
    obtain ⟨k, rfl⟩ : ∃ q, k = q + 1 := ⟨k - 1, by omega⟩
    simp only [chattelref10_Add.l0]
    rw [if_neg (by omega)]
    exact refadd_l1 a b d 20000 y m (by omega) (by omega) (by omega) (by omega) k (by omega)
  | succ r ih =>
    intro y m hy h1 h2 h3 k hk
    by_cases h : m ≤ 12 + 12 * r
    · exact ih y m (by omega) h h2 (by omega) k (by omega)
    · obtain ⟨k, rfl⟩ : ∃ q, k = q + 1 := ⟨k - 1, by omega⟩
      simp only [chattelref10_Add.l0]
      rw [if_pos (by omega), wrap_id (x := y + 1) (by omega), wrap_id (x := m - 12) (by omega), show 12 * y + m - 1 = 12 * (y + 1) + (m - 12) - 1 by omega]
      exact ih (y + 1) (m - 12) (by omega) (by omega) (by omega) (by omega) k (by omega)
/-- The document's months further, from a right date: as the program's. -/
theorem refadd_eq {y m d : Int} (h : Right y m d) (n : Int) (k : Nat) (hk : 50000 < k) : chattelref10_Add.f k y m d n =
    some (if n > 200000 ∨ n < -200000 then (0, 0, 0, false) else finR d (12 * y + m - 1 + n)) := by
  obtain ⟨hy, hm, hd⟩ := h.in_
  obtain ⟨k, rfl⟩ : ∃ q, k = q + 1 := ⟨k - 1, by omega⟩
  unfold chattelref10_Add.f
  by_cases h1 : n > 200000
  · rw [if_pos h1, if_pos (by omega)]
    simp only [chattelref10_Add.j0, if_true]
  · rw [if_neg h1]
    by_cases h2 : n < -200000
    · rw [decide_eq_true h2, if_pos (by omega)]
      simp only [chattelref10_Add.j0, if_true]
    · rw [decide_eq_false h2, if_neg (by omega)]
      simp only [chattelref10_Add.j0]
      rw [if_neg (by decide), wrap_id (x := m + n) (by omega), show 12 * y + m - 1 + n = 12 * y + (m + n) - 1 by omega]
      exact refadd_l0 y m d 20000 y (m + n) (by omega) (by omega) (by omega) (by omega) k (by omega)
end Go.Proofs.YtfikfmediheioaaM
end

section
/- Layer 10 as plain functions: the document's series is the program's. -/
namespace Go.Proofs.YtfikfmediheioaaM
open Go.RowKit Go.Proofs.YtfikfmediheioaaW.PrintWords Go.Proofs.YtfikfmediheioaaW.PrintLast Go.Proofs.YtfikfmediheioaaW.PrintMore Go.Proofs.YtfikfmediheioaaX Go.Proofs.Ytfikfmediheioaa.F
set_option linter.unusedVariables false
set_option linter.unusedSimpArgs false

theorem ref_right (y m d : Int) (k : Nat) (hk : 1 < k) : chattelref09_Right.f k y m d = some (decide (Right y m d)) := by
  unfold chattelref09_Right.f
  rw [ref_days y m k hk, Option.bind_some]
  unfold Right
  by_cases h : d ≥ 1
  · rw [if_pos h]
    simp [h]
  · rw [if_neg h]
    simp [h]
/-- What the document's months further are, by the program's. -/
theorem add_same {y m d : Int} (h : Right y m d) (n : Int) : (if n > 200000 ∨ n < -200000 then (0, 0, 0, false) else finR d (12 * y + m - 1 + n)) =
    ((addm y m d n).1, (addm y m d n).2.1, (addm y m d n).2.2.1, decide ((addm y m d n).2.2.2 = 0)) := by
  obtain ⟨hy, hm, hd⟩ := h.in_
  unfold addm finR
  rw [if_pos h]
  generalize hq : 12 * y + m - 1 + n = Q
  by_cases h1 : n < -119988 ∨ n > 119988 ∨ Q < 12 ∨ Q / 12 > 9999
  · rw [if_pos h1]
    by_cases h2 : n > 200000 ∨ n < -200000
    · rw [if_pos h2]; rfl
    · rw [if_neg h2, if_pos (by omega)]; rfl
  · rw [if_neg h1, if_neg (by omega), if_neg (by omega)]; rfl
theorem addm_far {y m d n : Int} (h : n > 119988) : addm y m d n = (0, 0, 0, 11) := by
  unfold addm
  by_cases hR : Right y m d
  · rw [if_pos hR, if_pos (by omega)]
  · rw [if_neg hR]
theorem addm_min (y m d : Int) {j s : Int} (hj : 1 ≤ j) : addm y m d (j * min s 119989) = addm y m d (j * s) := by
  by_cases h : s ≤ 119989
  · rw [show min s 119989 = s by omega]
  · have h1 : min s 119989 = 119989 := by omega
    have h2 : 1 * s ≤ j * s := Int.mul_le_mul_of_nonneg_right hj (by omega)
    rw [h1, addm_far (by omega), addm_far (by omega)]
theorem addm_err {y m d n : Int} (h : ¬ (addm y m d n).2.2.2 = 0) : (addm y m d n).2.2.2 = 11 := by
  unfold addm at h ⊢
  split
  · split
    · rfl
    · rename_i a b
      rw [if_pos a, if_neg b] at h
      exact absurd rfl h
  · rfl
theorem refser_l0 {y m d : Int} (hR : Right y m d) (s n : Int) (hs : 1 ≤ s) (hs2 : s ≤ 9223372036854775807) (hn : n ≤ 1200) (r : Nat) : ∀ (j : Int) (acc : List S23), 1 ≤ j → j + r = n + 1 → acc.length + r ≤ 2000 → ∀ k, r + 60000 < k →
    chattelref10_Series.l0 k s n acc j y m d = some (ser y m d (min s 119989) r j acc) := by
  induction r with
  | zero =>
    intro j acc h1 h2 h3 k hk
    obtain ⟨k, rfl⟩ : ∃ q, k = q + 1 := ⟨k - 1, by omega⟩
    simp only [chattelref10_Series.l0]
    rw [if_neg (by omega)]
    rfl
  | succ r ih =>
    intro j acc h1 h2 h3 k hk
    obtain ⟨k, rfl⟩ : ∃ q, k = q + 1 := ⟨k - 1, by omega⟩
    simp only [chattelref10_Series.l0]
    unfold ser
    rw [if_pos (by omega), addm_min y m d h1]
    by_cases hs3 : s > 200000
    · have h4 : 1 * s ≤ j * s := Int.mul_le_mul_of_nonneg_right h1 (by omega)
      rw [if_pos hs3, addm_far (by omega)]
      rfl
    · have hb : 0 ≤ j * s ∧ j * s ≤ 1200 * 200000 := ⟨Int.mul_nonneg (by omega) (by omega), Int.mul_le_mul (by omega) (by omega) (by omega) (by omega)⟩
      rw [if_neg hs3, wrap_id (x := j * s) (by omega), refadd_eq hR (j * s) k (by omega), add_same hR, Option.bind_some]
      by_cases h : (addm y m d (j * s)).2.2.2 = 0
      · simp only [h, decide_true, if_true]
        rw [if_pos (by omega), wrap_id (x := j + 1) (by omega)]
        exact ih (j + 1) _ (by omega) (by omega) (by simp; omega) k (by omega)
      · simp only [decide_eq_false h]
        rw [if_neg (by decide), if_neg h, addm_err h]
theorem refser_eq (y m d s n : Int) (hs2 : s ≤ 9223372036854775807) (k : Nat) (hk : 70000 < k) : chattelref10_Series.f k y m d s n =
    some (if s < 1 ∨ n < 0 ∨ n > 1200 then ([], 2) else if Right y m d then ser y m d (min s 119989) n.toNat 1 [] else ([], 11)) := by
  obtain ⟨k, rfl⟩ : ∃ q, k = q + 1 := ⟨k - 1, by omega⟩
  unfold chattelref10_Series.f
  by_cases h1 : s < 1
  · rw [if_pos h1, if_pos (by omega)]
    simp only [chattelref10_Series.j0, if_true]
  · rw [if_neg h1]
    by_cases h2 : n < 0
    · rw [if_pos h2, if_pos (by omega)]
      simp only [chattelref10_Series.j0, if_true]
    · rw [if_neg h2]
      by_cases h3 : n > 1200
      · rw [decide_eq_true h3, if_pos (by omega)]
        simp only [chattelref10_Series.j0, if_true]
      · rw [decide_eq_false h3, if_neg (by omega)]
        simp only [chattelref10_Series.j0]
        rw [if_neg (by decide), ref_right y m d k (by omega), Option.bind_some]
        by_cases h4 : Right y m d
        · rw [decide_eq_true h4, if_pos rfl, if_pos h4]
          exact refser_l0 h4 s n (by omega) hs2 (by omega) n.toNat 1 [] (by omega) (by omega) (by simp; omega) k (by omega)
        · rw [decide_eq_false h4, if_neg (by decide), if_neg h4]
end Go.Proofs.YtfikfmediheioaaM
end

section
/- Proved is that MonthSeries answers true for every input: any series of dates is the document's, or there is its error. -/
namespace Go.Proofs.Ytfikfmediheioaa.Pure
open Go.RowKit Go.Proofs.Ytfikfmediheioaa.F Go.Proofs.YtfikfmediheioaaW.PrintWords Go.Proofs.YtfikfmediheioaaW.PrintLast Go.Proofs.YtfikfmediheioaaM
set_option linter.unusedVariables false

theorem same_l0 (L : List S23) (hl : L.length ≤ 1000000) (r : Nat) : ∀ i : Nat, i + r = L.length → ∀ k, r < k → api_Date.l0 k L L (L.length : Int) (i : Int) = some true := by
  induction r with
  | zero =>
    intro i h k hk
    obtain ⟨k, rfl⟩ : ∃ q, k = q + 1 := ⟨k - 1, by omega⟩
    simp only [api_Date.l0]
    rw [if_neg (by omega)]
  | succ r ih =>
    intro i h k hk
    obtain ⟨k, rfl⟩ : ∃ q, k = q + 1 := ⟨k - 1, by omega⟩
    simp only [api_Date.l0]
    rw [if_pos (by omega), if_pos (by omega), if_pos (by omega), if_pos (by omega), if_neg (by simp), wrap_id (by omega)]
    exact ih (i + 1) (by omega) k (by omega)
theorem ser_len (y m d st : Int) : ∀ (r : Nat) (j : Int) (acc : List S23), (ser y m d st r j acc).1.length ≤ acc.length + r
  | 0, j, acc => by simp [ser]
  | r + 1, j, acc => by
    unfold ser
    split
    · have := ser_len y m d st r (j + 1) (acc ++ [⟨(addm y m d (j * st)).1, (addm y m d (j * st)).2.1, (addm y m d (j * st)).2.2.1⟩])
      simp at this
      omega
    · simp
theorem both (y m d s n : Int) (hs : s ≤ 9223372036854775807) (k : Nat) (hk : 1000000 < k) : ∃ R : List S23 × Int, month_Series.f k y m d s n = some R ∧ chattelref10_Series.f k y m d s n = some R ∧ api_Date.f k R.1 R.1 = some true := by
  refine ⟨_, series_eq y m d s n k (by omega), refser_eq y m d s n hs k (by omega), ?_⟩
  have hl : (if s < 1 ∨ n < 0 ∨ n > 1200 then (([] : List S23), (2 : Int)) else if Right y m d then ser y m d (min s 119989) n.toNat 1 [] else ([], 11)).1.length ≤ 1200 := by
    split
    · simp
    · split
      · have := ser_len y m d (min s 119989) n.toNat 1 []
        simp at this
        omega
      · simp
  generalize (if s < 1 ∨ n < 0 ∨ n > 1200 then (([] : List S23), (2 : Int)) else if Right y m d then ser y m d (min s 119989) n.toNat 1 [] else ([], 11)).1 = L at hl
  unfold api_Date.f
  rw [if_pos rfl]
  exact same_l0 L (by omega) L.length 0 (by omega) k (by omega)
theorem inner (a b : Int) (X24 : List S23) (x25 x26 : Int) (p q : S27) (hp : p.f0 ≤ 9223372036854775807) (hq : q.f0 ≤ 9223372036854775807) (y m d : Int) (k : Nat) (hk : 1000010 < k) :
    chattellaw10_MonthSeries.l1 (k + 3) a b X24 x25 x26 [p, q] (2 : Int) 0 y m d = chattellaw10_MonthSeries.l0 k a b X24 x25 (wrap64 (x26 + 1)) := by
  have r0 : rd_T27 [p, q] 0 = p := rfl
  have r1 : rd_T27 [p, q] 1 = q := rfl
  have w1 : wrap64 (0 + 1) = 1 := wrap_id (by decide)
  have w2 : wrap64 (1 + 1) = 2 := wrap_id (by decide)
  obtain ⟨R, a1, a2, a3⟩ := both y m d p.f0 p.f1 hp (k + 2) (by omega)
  obtain ⟨S, b1, b2, b3⟩ := both y m d q.f0 q.f1 hq (k + 1) (by omega)
  simp only [chattellaw10_MonthSeries.l1, r0, r1, w1, w2, a1, a2, a3, b1, b2, b3, Option.bind_some, List.length_cons, List.length_nil]
  simp
theorem outer (s n : Int) (hs : s ≤ 9223372036854775807) (p q : S23) (k : Nat) (hk : 1000020 < k) (hw : ∀ k, 1000020 < k → chattellaw10_wakes.f k = some true) :
    chattellaw10_MonthSeries.l0 (k + 9) s n [p, q] (2 : Int) 0 = some true := by
  have r0 : rd_T23 [p, q] 0 = p := rfl
  have r1 : rd_T23 [p, q] 1 = q := rfl
  have w1 : wrap64 (0 + 1) = 1 := wrap_id (by decide)
  have w2 : wrap64 (1 + 1) = 2 := wrap_id (by decide)
  have hm : 1 + mx 0 s % 12 ≤ 9223372036854775807 := by
    rw [mx_eq]
    omega
  have i1 := inner s n [p, q] 2 0 ⟨s, n⟩ ⟨1 + mx 0 s % 12, mx 0 n % 40⟩ hs hm p.f0 p.f1 p.f2 (k + 5) (by omega)
  have i2 := inner s n [p, q] 2 1 ⟨s, n⟩ ⟨1 + mx 0 s % 12, mx 0 n % 40⟩ hs hm q.f0 q.f1 q.f2 (k + 1) (by omega)
  rw [chattellaw10_MonthSeries.l0, if_pos (by decide), if_pos (by decide), if_pos (by simp), Option.bind_some, r0]
  refine Eq.trans i1 ?_
  rw [w1, chattellaw10_MonthSeries.l0, if_pos (by decide), if_pos (by decide), if_pos (by simp), Option.bind_some, r1]
  refine Eq.trans i2 ?_
  rw [w2, chattellaw10_MonthSeries.l0, if_neg (by decide), hw k hk]
  rfl
theorem MonthSeries : chattellaw10_MonthSeries.Pure := by
  intro a b c s n wa wb wc ws wn
  obtain ⟨K, hK0⟩ := wakes10
  refine ⟨K + 1000021 + 9, ?_⟩
  unfold chattellaw10_MonthSeries.f
  rw [make_eq a b c 9999 (by decide) (by decide) _ (by omega), Option.bind_some, Option.bind_some]
  have h8 : ∀ k, 1000020 < k → chattellaw10_wakes.f k = some true := fun k hk => by
    have e := (show chattellaw10_wakes.f 8 = some true by decide +kernel)
    have up : ∀ j, chattellaw10_wakes.f (8 + j) = some true := fun j => by
      induction j with
      | zero => exact e
      | succ j ih => exact chattellaw10_wakes.mono (8 + j) true ih
    have := up (k - 8)
    rwa [show 8 + (k - 8) = k by omega] at this
  exact outer s n (i64_of ws).2 _ _ (K + 1000021) (by omega) h8
end Go.Proofs.Ytfikfmediheioaa.Pure
end
