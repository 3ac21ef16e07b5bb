/- Proved is that MonthRises answers true for every input: the dates of a series rise; no Day is above the first date's; each is its month's last one, or has that Day. -/
import Derived.Test.YtfikfmediheioaaF0
import Derived.Test.YtfikfmediheioaaF10
import Derived.Test.YtfikfmediheioaaF16
import Derived.Test.YtfikfmediheioaaF26
import Derived.Test.YtfikfmediheioaaD2
namespace Go.Proofs.Ytfikfmediheioaa.Pure
open Go.RowKit Go.Proofs.Ytfikfmediheioaa.F Go.Proofs.YtfikfmediheioaaW.PrintWords Go.Proofs.YtfikfmediheioaaW.PrintLast Go.Proofs.YtfikfmediheioaaM
set_option linter.unusedVariables false

/-- The date of a month's number, of that Day or the month's last one. -/
def ed (d Q : Int) : S23 := ⟨Q / 12, Q % 12 + 1, min d (days (Q / 12) (Q % 12 + 1))⟩
def gen (d st : Int) : Nat → Int → List S23
  | 0, _ => []
  | r + 1, Q => ed d (Q + st) :: gen d st r (Q + st)
theorem gen_len (d st : Int) : ∀ (r : Nat) (Q : Int), (gen d st r Q).length = r
  | 0, _ => rfl
  | r + 1, Q => by rw [gen, List.length_cons, gen_len]
theorem addm_ok {y m d n : Int} (h : Right y m d) (h1 : 0 ≤ n ∧ n ≤ 119988) : addm y m d n =
    if 12 * y + m - 1 + n ≤ 119999 then ((12 * y + m - 1 + n) / 12, (12 * y + m - 1 + n) % 12 + 1, min d (days ((12 * y + m - 1 + n) / 12) ((12 * y + m - 1 + n) % 12 + 1)), 0) else (0, 0, 0, 11) := by
  obtain ⟨hy, hm, _⟩ := h.in_
  unfold addm
  rw [if_pos h]
  by_cases h2 : 12 * y + m - 1 + n ≤ 119999
  · rw [if_pos h2, if_neg (by omega)]
  · rw [if_neg h2, if_pos (by omega)]
theorem ser_eq {y m d st : Int} (h : Right y m d) (hst : 1 ≤ st ∧ st ≤ 24) : ∀ (r : Nat) (j Q : Int) (acc : List S23), 1 ≤ j → j + r ≤ 256 → 12 * y + m - 1 + j * st = Q + st → Q ≤ 119999 →
    ser y m d st r j acc = if Q + r * st ≤ 119999 then (acc ++ gen d st r Q, 0) else ([], 11)
  | 0, j, Q, acc, h1, h2, h3, h4 => by
    unfold ser gen
    rw [if_pos (by simpa using h4), List.append_nil]
  | r + 1, j, Q, acc, h1, h2, h3, h4 => by
    unfold ser
    have hb : 0 ≤ j * st ∧ j * st ≤ 256 * 24 := ⟨Int.mul_nonneg (by omega) (by omega), Int.mul_le_mul (by omega) (by omega) (by omega) (by omega)⟩
    have hr : 0 ≤ (r : Int) * st := Int.mul_nonneg (by omega) (by omega)
    have e1 : ((r + 1 : Nat) : Int) * st = r * st + st := by rw [Int.natCast_add, Int.add_mul]; simp
    have e2 : (j + 1) * st = j * st + st := by rw [Int.add_mul]; simp
    rw [addm_ok h (by omega), h3, e1]
    by_cases h5 : Q + st ≤ 119999
    · rw [if_pos h5]
      simp only [if_true]
      rw [ser_eq h hst r (j + 1) (Q + st) _ (by omega) (by omega) (by rw [e2]; omega) h5]
      by_cases h6 : Q + st + r * st ≤ 119999
      · rw [if_pos h6, if_pos (by omega), gen, List.append_assoc]
        rfl
      · rw [if_neg h6, if_neg (by omega)]
    · rw [if_neg h5, if_neg (by decide), if_neg (by omega)]
theorem step_le {Q st : Int} (hst : 1 ≤ st) (h3 : 12 ≤ Q) (h4 : Q + st ≤ 119999) : (1 ≤ (Q + st) / 12 ∧ (Q + st) / 12 ≤ 9999) ∧ (1 ≤ (Q + st) % 12 + 1 ∧ (Q + st) % 12 + 1 ≤ 12) := by omega
theorem step_up {Q st : Int} (hst : 1 ≤ st) : Q / 12 < (Q + st) / 12 ∨ Q / 12 = (Q + st) / 12 ∧ Q % 12 + 1 < (Q + st) % 12 + 1 := by omega
theorem cmp_up {Q st ld z : Int} (hst : 1 ≤ st) : ¬ or3 (sgI (Q / 12) ((Q + st) / 12)) (sgI (Q % 12 + 1) ((Q + st) % 12 + 1)) z ≥ 0 := by
  rcases step_up (Q := Q) hst with h | ⟨h1, h2⟩
  · have z1 : sgI (Q / 12) ((Q + st) / 12) = -1 := by unfold sgI; rw [if_pos h]
    rw [z1]
    unfold or3
    rw [if_neg (by decide)]
    decide
  · have z1 : sgI (Q / 12) ((Q + st) / 12) = 0 := by unfold sgI; rw [if_neg (by omega), if_neg (by omega)]
    have z2 : sgI (Q % 12 + 1) ((Q + st) % 12 + 1) = -1 := by unfold sgI; rw [if_pos h2]
    rw [z1, z2]
    unfold or3
    rw [if_pos rfl, if_neg (by decide)]
    decide
theorem min_a (d T : Int) : ¬ min d T > d := by omega
theorem min_b {d T : Int} (h : min d T < d) : min d T = T := by omega
theorem min_c {d T : Int} (h : 1 ≤ d) (hT : 1 ≤ T) : 1 ≤ min d T ∧ min d T ≤ T := by omega
theorem rises_step {y m d st n : Int} (hd : 1 ≤ d) (hst : 1 ≤ st) (L : List S23) (k i : Nat) (Q ld : Int) (hi : (i : Int) < (L.length : Int)) (hl : L.length ≤ 256) (hx : rd_T23 L (i : Int) = ed d (Q + st)) (h3 : 12 ≤ Q) (hQ : Q + st ≤ 119999) (hk : 3 < k)
    (next : ∀ z, chattellaw10_MonthRises.l0 k n L L (L.length : Int) ((i + 1 : Nat) : Int) y m d ((Q + st) / 12) ((Q + st) % 12 + 1) z = some true) :
    chattellaw10_MonthRises.l0 (k + 1) n L L (L.length : Int) (i : Int) y m d (Q / 12) (Q % 12 + 1) ld = some true := by
  obtain ⟨b1, b2⟩ := step_le hst h3 hQ
  have hdays := days_in b1 b2
  have hbd := dm_bd ((Q + st) / 12) ((Q + st) % 12 + 1)
  have hT : 1 ≤ days ((Q + st) / 12) ((Q + st) % 12 + 1) := by rw [hdays]; exact Int.le_trans (by decide) hbd.1
  have hw : wrap64 ((i : Int) + 1) = ((i + 1 : Nat) : Int) := by rw [wrap_id (by omega)]; rfl
  have hc := fun z => cmp_up (Q := Q) (st := st) (ld := ld) (z := z) hst
  have g6 : 0 ≤ (i : Int) := Int.natCast_nonneg i
  simp only [ed] at hx
  have hk0 : 0 < k := by omega
  generalize (Q + st) / 12 = Y at *
  generalize (Q + st) % 12 + 1 = M at *
  simp only [chattellaw10_MonthRises.l0]
  rw [if_pos hi, if_pos g6, if_pos hi, hx]
  simp only
  rw [cmp_eq _ _ _ _ _ _ k hk, Option.bind_some, if_neg (hc _), if_neg (min_a _ _), hw]
  by_cases hlt : min d (days Y M) < d
  · rw [if_pos hlt, end_eq _ _ _ k hk0, Option.bind_some, decide_eq_true ⟨min_c hd hT, min_b hlt⟩, if_pos rfl]
    exact next _
  · rw [if_neg hlt]
    exact next _
theorem rises_l0 {y m d st n : Int} (hd : 1 ≤ d) (hst : 1 ≤ st ∧ st ≤ 24) (L : List S23) (hn : (L.length : Int) = wrap64 n) (hl : L.length ≤ 256) (K : Nat) (hK : ∀ k, K ≤ k → chattellaw10_wakes.f k = some true) (r : Nat) :
    ∀ (i : Nat) (Q ld : Int), i + r = L.length → L.drop i = gen d st r Q → 12 ≤ Q → Q + r * st ≤ 119999 → ∀ k, r + 8 + K < k →
      chattellaw10_MonthRises.l0 k n L L (L.length : Int) (i : Int) y m d (Q / 12) (Q % 12 + 1) ld = some true := by
  induction r with
  | zero =>
    intro i Q ld h1 h2 h3 h4 k hk
    obtain ⟨k, rfl⟩ : ∃ q, k = q + 1 := ⟨k - 1, by omega⟩
    simp only [chattellaw10_MonthRises.l0]
    rw [if_neg (by omega), hK k (by omega), Option.bind_some, if_pos rfl, hn]
    simp
  | succ r ih =>
    intro i Q ld h1 h2 h3 h4 k hk
    obtain ⟨k, rfl⟩ : ∃ q, k = q + 1 := ⟨k - 1, by omega⟩
    have hr : 0 ≤ (r : Int) * st := Int.mul_nonneg (Int.natCast_nonneg r) (by omega)
    have e1 : ((r + 1 : Nat) : Int) * st = r * st + st := by rw [Int.natCast_add, Int.add_mul]; simp
    rw [e1] at h4
    generalize (r : Int) * st = p at hr h4 ih
    have hi : i < L.length := by omega
    rw [gen, List.drop_eq_getElem_cons hi] at h2
    injection h2 with h5 h6
    have hx : rd_T23 L (i : Int) = ed d (Q + st) := by
      unfold rd_T23
      rw [Int.toNat_natCast, List.getD_eq_getElem?_getD, List.getElem?_eq_getElem hi, h5]
      rfl
    exact rises_step hd hst.1 L k i Q ld (by omega) hl hx h3 (by omega) (by omega) (fun z => ih (i + 1) (Q + st) z (by omega) h6 (by omega) (by omega) k (by omega))
theorem MonthRises : chattellaw10_MonthRises.Pure := by
  intro a b c s n wa wb wc ws wn
  have hs := u8_of ws
  have hn := u8_of wn
  obtain ⟨hR, hy⟩ := made_right a b c 9000 (by decide) (by decide)
  have hin := hR.in_
  generalize hM : made a b c 9000 = M at hR hy hin
  obtain ⟨y, m, d⟩ := M
  simp only at hR hy hin
  obtain ⟨K, hK⟩ := wakes10
  have hK : ∀ k, K ≤ k → chattellaw10_wakes.f k = some true := hK
  have hst : wrap64 (1 + wrap64 (Int.tmod s 24)) = 1 + s % 24 := by
    rw [tmod_pos _ hs.1, wrap_id (x := s % 24) (by omega), wrap_id (by omega)]
  have hnw : wrap64 n = n := wrap_id (by omega)
  generalize hst' : 1 + s % 24 = st at hst
  have hstb : 1 ≤ st ∧ st ≤ 24 := by omega
  obtain ⟨N, rfl⟩ : ∃ N : Nat, n = (N : Int) := ⟨n.toNat, by omega⟩
  refine ⟨K + 3000, ?_⟩
  unfold chattellaw10_MonthRises.f
  rw [make_eq a b c 9000 (by decide) (by decide) _ (by omega), hM, Option.bind_some]
  simp only
  have hser : month_Series.f (K + 3000) y m d st N = some (if 12 * y + m - 1 + N * st ≤ 119999 then ([] ++ gen d st N (12 * y + m - 1), 0) else ([], 11)) := by
    rw [series_eq y m d st N _ (by omega), if_neg (by omega), if_pos hR, Int.toNat_natCast, show min st 119989 = st by omega,
      ser_eq hR hstb N 1 (12 * y + m - 1) [] (by omega) (by omega) (by omega) (by omega)]
  rw [hst, hnw, hser, Option.bind_some]
  have hp : 0 ≤ (N : Int) * st := Int.mul_nonneg (by omega) (by omega)
  have hp2 : (N : Int) * st ≤ 255 * 24 := Int.mul_le_mul (by omega) (by omega) (by omega) (by omega)
  by_cases h : 12 * y + m - 1 + N * st ≤ 119999
  · rw [if_pos h]
    simp only [if_true, List.nil_append]
    have hl := gen_len d st N (12 * y + m - 1)
    have := rises_l0 (y := y) (m := m) (n := (N : Int)) hin.2.2.1 hstb (gen d st N (12 * y + m - 1)) (by rw [hl, hnw]) (by omega) K hK N 0 (12 * y + m - 1) d (by omega) (by rfl) (by omega) h (K + 3000) (by omega)
    rw [show (12 * y + m - 1) / 12 = y by omega, show (12 * y + m - 1) % 12 + 1 = m by omega] at this
    exact this
  · rw [if_neg h]
    simp only
    rw [if_neg (by decide), hK _ (by omega), Option.bind_some, if_pos rfl]
    have e3 : st * (N : Int) = N * st := Int.mul_comm _ _
    rw [wrap_id (x := st * (N : Int)) (by omega), tdiv_pos _ (by omega), e3]
    generalize (N : Int) * st = p at *
    rw [wrap_id (x := p / 12) (by omega), wrap_id (by omega), decide_eq_true (by omega)]
end Go.Proofs.Ytfikfmediheioaa.Pure
