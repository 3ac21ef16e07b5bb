/- Layer 9 as plain functions, on: a date's number; days between. -/
import Derived.Test.YtfikfmediheioaaF18
import Derived.Test.YtfikfmediheioaaF19
import Derived.Test.YtfikfmediheioaaF20
import Derived.Test.YtfikfmediheioaaD2
namespace Go.Proofs.YtfikfmediheioaaM
open Go.RowKit Go.Proofs.YtfikfmediheioaaW.PrintWords Go.Proofs.YtfikfmediheioaaW.PrintLast Go.Proofs.YtfikfmediheioaaW.PrintMore Go.Proofs.YtfikfmediheioaaX Go.Proofs.Ytfikfmediheioaa.F
set_option linter.unusedVariables false
set_option linter.unusedSimpArgs false

def aheadOf (y : Int) : Int := 365 * (y - 1) + (y - 1) / 4 - (y - 1) / 100 + (y - 1) / 400
theorem ahead_eq (y : Int) (h : 1 ≤ y ∧ y ≤ 10000) : date_ahead.f y = some (aheadOf y) := by
  unfold date_ahead.f aheadOf
  have e0 : wrap64 (y - 1) = y - 1 := wrap_id (by omega)
  rw [e0, tdiv_pos _ (by omega), tdiv_pos _ (by omega), tdiv_pos _ (by omega)]
  have hz : 0 ≤ y - 1 ∧ y - 1 ≤ 9999 := by omega
  clear e0
  generalize y - 1 = z at *
  rw [wrap_id (x := 365 * z) (by omega), wrap_id (x := z / 4) (by omega), wrap_id (x := z / 100) (by omega), wrap_id (x := z / 400) (by omega), wrap_id (x := 365 * z + z / 4) (by omega), wrap_id (x := 365 * z + z / 4 - z / 100) (by omega), wrap_id (by omega)]
theorem ahead_bd (y : Int) (h : 1 ≤ y ∧ y ≤ 10000) : 0 ≤ aheadOf y ∧ aheadOf y ≤ 3652059 := by unfold aheadOf; omega
/-- The days of a year's first months, so many. -/
def mdays (y : Int) : Nat → Int
  | 0 => 0
  | t + 1 => mdays y t + days y ((t + 1 : Nat) : Int)
theorem mdays_bd (y : Int) : ∀ t : Nat, 0 ≤ mdays y t ∧ mdays y t ≤ 31 * t
  | 0 => by simp [mdays]
  | t + 1 => by
    have := mdays_bd y t
    have := days_bd y ((t + 1 : Nat) : Int)
    unfold mdays
    omega
/-- A date's number. -/
def num (y m d : Int) : Int := aheadOf y + mdays y (m - 1).toNat + d
theorem number_l0 (y d : Int) (M : Nat) (hM : M ≤ 11) (hd : 0 ≤ d ∧ d ≤ 31) (b : Int) (hb : 0 ≤ b ∧ b ≤ 3652059) (r : Nat) : ∀ (t : Nat), t + r = M → ∀ k, r + 1 < k →
    date_Number.l0 k (b + mdays y t) ((t + 1 : Nat) : Int) y ((M + 1 : Nat) : Int) d = some (b + mdays y M + d, 0) := by
  induction r with
  | zero =>
    intro t h k hk
    obtain ⟨k, rfl⟩ : ∃ q, k = q + 1 := ⟨k - 1, by omega⟩
    have ht : t = M := by omega
    subst ht
    have := mdays_bd y t
    simp only [date_Number.l0]
    rw [if_neg (by omega), wrap_id (by omega)]
  | succ r ih =>
    intro t h k hk
    obtain ⟨k, rfl⟩ : ∃ q, k = q + 1 := ⟨k - 1, by omega⟩
    have h1 := mdays_bd y t
    have h2 := days_bd y ((t + 1 : Nat) : Int)
    have h3 : b + mdays y t + days y ((t + 1 : Nat) : Int) = b + mdays y (t + 1) := by rw [mdays, Int.add_assoc]
    simp only [date_Number.l0]
    rw [if_pos (by omega), date_days y _ k (by omega), Option.bind_some, wrap_id (by omega), wrap_id (x := ((t + 1 : Nat) : Int) + 1) (by omega), h3]
    exact ih (t + 1) (by omega) k (by omega)
theorem number_eq (y m d : Int) (k : Nat) (hk : 14 < k) : date_Number.f k y m d = some (if Right y m d then (num y m d, 0) else (0, 11)) := by
  unfold date_Number.f
  rw [date_check y m d k (by omega), Option.bind_some]
  by_cases h : Right y m d
  · obtain ⟨hy, hm, hd⟩ := h.in_
    rw [if_pos h, if_pos rfl, if_pos h, ahead_eq y (by omega), Option.bind_some]
    obtain ⟨M, hM⟩ : ∃ M : Nat, m = ((M + 1 : Nat) : Int) := ⟨(m - 1).toNat, by omega⟩
    have := number_l0 y d M (by omega) (by omega) (aheadOf y) (ahead_bd y (by omega)) M 0 (by omega) k (by omega)
    rw [mdays, Int.add_zero, ← hM] at this
    unfold num
    rw [show (m - 1).toNat = M by omega]
    exact this
  · rw [if_neg h, if_neg (by decide), if_neg h]
theorem num_bd {y m d : Int} (h : Right y m d) : 1 ≤ num y m d ∧ num y m d ≤ 4000000 := by
  obtain ⟨hy, hm, hd⟩ := h.in_
  have h1 := ahead_bd y (by omega)
  have h2 := mdays_bd y (m - 1).toNat
  unfold num
  omega
theorem between_eq (y m d y2 m2 d2 : Int) (k : Nat) (hk : 14 < k) : month_Between.f k y m d y2 m2 d2 =
    some (if Right y m d then (if Right y2 m2 d2 then (num y2 m2 d2 - num y m d, 0) else (0, 11)) else (0, 11)) := by
  unfold month_Between.f
  rw [number_eq y m d k hk, Option.bind_some]
  by_cases h : Right y m d
  · rw [if_pos h, if_pos h]
    simp only [if_true]
    rw [number_eq y2 m2 d2 k hk, Option.bind_some]
    by_cases h2 : Right y2 m2 d2
    · have b1 := num_bd h
      have b2 := num_bd h2
      rw [if_pos h2, if_pos h2]
      simp only [if_true]
      rw [wrap_id (by omega)]
    · rw [if_neg h2, if_neg h2]
      simp only
      rw [if_neg (by decide)]
  · rw [if_neg h, if_neg h]
    simp only
    rw [if_neg (by decide)]
end Go.Proofs.YtfikfmediheioaaM
