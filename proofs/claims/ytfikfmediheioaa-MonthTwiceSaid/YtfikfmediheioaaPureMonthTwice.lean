/- Proved is that MonthTwice answers true for every input: from a day up to the 28th months further add up, and so many back lead back; from any day, some months further and then more is no later than at once, by three days at most. -/
import Derived.Test.YtfikfmediheioaaF16
import Derived.Test.YtfikfmediheioaaF21
import Derived.Test.YtfikfmediheioaaD3
namespace Go.Proofs.Ytfikfmediheioaa.Pure
open Go.RowKit Go.Proofs.Ytfikfmediheioaa.F Go.Proofs.YtfikfmediheioaaW.PrintWords Go.Proofs.YtfikfmediheioaaW.PrintLast Go.Proofs.YtfikfmediheioaaM
set_option linter.unusedVariables false

/-- The date of a month's number, of that Day or the month's last one; no error. -/
def ad (d Q : Int) : Int × Int × Int × Int := (Q / 12, Q % 12 + 1, min d (days (Q / 12) (Q % 12 + 1)), 0)
theorem addm_in {y m d n Q : Int} (h : Right y m d) (hn : -119988 ≤ n ∧ n ≤ 119988) (hQ : 12 * y + m - 1 + n = Q) : addm y m d n = if 12 ≤ Q ∧ Q ≤ 119999 then ad d Q else (0, 0, 0, 11) := by
  unfold addm ad
  rw [if_pos h, hQ]
  by_cases h2 : 12 ≤ Q ∧ Q ≤ 119999
  · rw [if_pos h2, if_neg (by omega)]
  · rw [if_neg h2, if_pos (by omega)]
theorem Q_in {Q : Int} (h : 12 ≤ Q ∧ Q ≤ 119999) : (1 ≤ Q / 12 ∧ Q / 12 ≤ 9999) ∧ (1 ≤ Q % 12 + 1 ∧ Q % 12 + 1 ≤ 12) ∧ 12 * (Q / 12) + (Q % 12 + 1) - 1 = Q := by omega
theorem D_in {Q : Int} (h : 12 ≤ Q ∧ Q ≤ 119999) : 28 ≤ days (Q / 12) (Q % 12 + 1) ∧ days (Q / 12) (Q % 12 + 1) ≤ 31 := by
  rw [days_in (Q_in h).1 (Q_in h).2.1]
  exact dm_bd _ _
theorem ad_right {d Q : Int} (h : 12 ≤ Q ∧ Q ≤ 119999) (hd : 1 ≤ d) : Right (Q / 12) (Q % 12 + 1) (min d (days (Q / 12) (Q % 12 + 1))) := by
  have := D_in h
  unfold Right
  omega
theorem ad_early {d Q : Int} (h : 12 ≤ Q ∧ Q ≤ 119999) (hd : d ≤ 28) : min d (days (Q / 12) (Q % 12 + 1)) = d := by
  have := D_in h
  omega
theorem days_off {d D1 D2 : Int} (h : 28 ≤ D1) (h2 : 28 ≤ D2) (hd : d ≤ 31) : 0 ≤ min d D2 - min (min d D1) D2 ∧ min d D2 - min (min d D1) D2 ≤ 3 := by omega
theorem num_off (y m d d2 : Int) : num y m d - num y m d2 = d - d2 := by unfold num; omega
theorem i16_mod {n : Int} (h : -32768 ≤ n ∧ n ≤ 32767) : -599 ≤ Int.tmod (wrap64 n) 600 ∧ Int.tmod (wrap64 n) 600 ≤ 599 := by
  rw [wrap_id (by omega), Int.tmod_eq_emod]
  split <;> omega
theorem twice_j0 {K : Nat} (hK : ∀ k, K ≤ k → chattellaw10_wakes.f k = some true) (i j y m d : Int) (a0 a1 a2 b0 b1 b2 : Int) (k : Nat) (hk : K < k) (y' m' d' : Int) :
    chattellaw10_MonthTwice.j0 k i j true y m d y' m' d' a0 a1 a2 b0 b1 b2 = some true := by
  obtain ⟨k, rfl⟩ : ∃ q, k = q + 1 := ⟨k - 1, by omega⟩
  simp only [chattellaw10_MonthTwice.j0, if_true]
  rw [hK k (by omega)]
  rfl
theorem MonthTwice : chattellaw10_MonthTwice.Pure := by
  intro a b c n n2 wa wb wc wn wn2
  have hi := i16_mod (i16_of wn)
  have hj := i16_mod (i16_of wn2)
  obtain ⟨hR, _⟩ := made_right a b c 9999 (by decide) (by decide)
  generalize hM : made a b c 9999 = M at hR
  obtain ⟨y, m, d⟩ := M
  simp only at hR
  have hin := hR.in_
  obtain ⟨K, hK0⟩ := wakes10
  have hK : ∀ k, K ≤ k → chattellaw10_wakes.f k = some true := hK0
  refine ⟨K + 100, ?_⟩
  unfold chattellaw10_MonthTwice.f
  rw [make_eq a b c 9999 (by decide) (by decide) _ (by omega), hM, Option.bind_some]
  simp only
  generalize Int.tmod (wrap64 n) 600 = i at *
  generalize Int.tmod (wrap64 n2) 600 = j at *
  rw [mn_eq, wrap_id (x := i + j) (by omega), add_eq _ _ _ _ _ (by omega), Option.bind_some, add_eq _ _ _ _ _ (by omega), Option.bind_some]
  have hE : Right y m (min d 28) := ⟨by omega, by have := hR.2; omega⟩
  obtain ⟨Q, hQ⟩ : ∃ Q, 12 * y + m - 1 = Q := ⟨_, rfl⟩
  have e28 : min d 28 ≤ 28 := by omega
  have e1 : 1 ≤ min d 28 := by omega
  generalize hed : min d 28 = e at *
  have hQ0 : 12 ≤ Q ∧ Q ≤ 119999 := by omega
  rw [addm_in hE (n := i) (Q := Q + i) (by omega) (by omega), addm_in hE (n := i + j) (Q := Q + i + j) (by omega) (by omega)]
  by_cases h1 : 12 ≤ Q + i ∧ Q + i ≤ 119999
  · rw [if_pos h1]
    by_cases h2 : 12 ≤ Q + i + j ∧ Q + i + j ≤ 119999
    · rw [if_pos h2]
      simp only [ad, if_true]
      have q1 := Q_in h1
      have q2 := Q_in h2
      have D1 := D_in h1
      have D2 := D_in h2
      have x1 : addm ((Q + i) / 12) ((Q + i) % 12 + 1) (min e (days ((Q + i) / 12) ((Q + i) % 12 + 1))) j = ad e (Q + i + j) := by
        rw [ad_early h1 e28]
        have := ad_right h1 e1
        rw [ad_early h1 e28] at this
        rw [addm_in this (n := j) (Q := Q + i + j) (by omega) (by omega), if_pos h2]
      have x2 : addm ((Q + i) / 12) ((Q + i) % 12 + 1) (min e (days ((Q + i) / 12) ((Q + i) % 12 + 1))) (-i) = ad e Q := by
        rw [ad_early h1 e28]
        have := ad_right h1 e1
        rw [ad_early h1 e28] at this
        rw [addm_in this (n := -i) (Q := Q) (by omega) (by omega), if_pos hQ0]
      have x3 : addm y m d i = ad d (Q + i) := by rw [addm_in hR (n := i) (Q := Q + i) (by omega) (by omega), if_pos h1]
      have x4 : addm ((Q + i) / 12) ((Q + i) % 12 + 1) (min d (days ((Q + i) / 12) ((Q + i) % 12 + 1))) j = ad (min d (days ((Q + i) / 12) ((Q + i) % 12 + 1))) (Q + i + j) := by
        rw [addm_in (ad_right h1 hin.2.2.1) (n := j) (Q := Q + i + j) (by omega) (by omega), if_pos h2]
      have x5 : addm y m d (i + j) = ad d (Q + i + j) := by rw [addm_in hR (n := i + j) (Q := Q + i + j) (by omega) (by omega), if_pos h2]
      have r1 : Right ((Q + i + j) / 12) ((Q + i + j) % 12 + 1) (min (min d (days ((Q + i) / 12) ((Q + i) % 12 + 1))) (days ((Q + i + j) / 12) ((Q + i + j) % 12 + 1))) := ad_right h2 (by have := hin.2.2.1; omega)
      have r2 : Right ((Q + i + j) / 12) ((Q + i + j) % 12 + 1) (min d (days ((Q + i + j) / 12) ((Q + i + j) % 12 + 1))) := ad_right h2 hin.2.2.1
      have off := days_off (d := d) D1.1 D2.1 hin.2.2.2
      have q0a : Q / 12 = y := by omega
      have q0b : Q % 12 + 1 = m := by omega
      have ee : min e (days y m) = e := by have := hE.2; omega
      show chattellaw10_MonthTwice.j0 (K + 99 + 1) _ _ _ _ _ _ _ _ _ _ _ _ _ _ _ = _
      simp only [chattellaw10_MonthTwice.j0]
      rw [if_neg (by decide), add_eq _ _ _ _ _ (by omega), Option.bind_some, wrap_id (x := -i) (by omega), add_eq _ _ _ _ _ (by omega), Option.bind_some, add_eq _ _ _ _ _ (by omega), Option.bind_some, add_eq _ _ _ _ _ (by omega), Option.bind_some,
        wrap_id (x := i + j) (by omega), add_eq _ _ _ _ _ (by omega), Option.bind_some, between_eq _ _ _ _ _ _ _ (by omega), Option.bind_some, hK _ (by omega), Option.bind_some, x1, x2, x3, x5]
      simp only [ad]
      simp only [x4, ad, if_pos r1, if_pos r2, num_off, q0a, q0b, ee]
      generalize min d (days ((Q + i + j) / 12) ((Q + i + j) % 12 + 1)) - min (min d (days ((Q + i) / 12) ((Q + i) % 12 + 1))) (days ((Q + i + j) / 12) ((Q + i + j) % 12 + 1)) = z at *
      simp [off]
    · rw [if_neg h2]
      simp only [ad, if_true]
      exact twice_j0 hK _ _ _ _ _ _ _ _ _ _ _ _ (by omega) _ _ _
  · rw [if_neg h1]
    simp only
    rw [if_neg (by decide)]
    exact twice_j0 hK _ _ _ _ _ _ _ _ _ _ _ _ (by omega) _ _ _
end Go.Proofs.Ytfikfmediheioaa.Pure
