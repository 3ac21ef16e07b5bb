-- Joined of: R1 R2 R3 R4
import Derived.Test.YtebjbmgfbejapaaC210JM4
import Derived.Test.YtebjbmgfbejapaaC210JF2
import Derived.Laws.Bits64b
section
namespace Go.Proofs.YtebjbmgfbejapaaM
open Go.RowKit Go.Proofs.YtebjbmgfbejapaaW.PrintWords Go.Proofs.YtebjbmgfbejapaaW.PrintLast Go.Proofs.YtebjbmgfbejapaaW.PrintMore Go.Proofs.YtebjbmgfbejapaaX Go.Proofs.Ytebjbmgfbejapaa.F
set_option linter.unusedVariables false
set_option linter.unusedSimpArgs false
theorem D2 : 2 ≤ 10000 := by decide
def dig (n : Nat) : List Int := dg 10000 n
abbrev wfD (l : List Int) : Prop := wf ((10000 : Nat) : Int) l
abbrev vD (l : List Int) : Int := vl ((10000 : Nat) : Int) l
theorem D_pos : (0 : Int) < ((10000 : Nat) : Int) := by decide
theorem D_int : ((10000 : Nat) : Int) = 10000 := rfl
theorem dig_wf (n : Nat) : wfD (dig n) := dg_wf D2 n
theorem dig_v (n : Nat) : vD (dig n) = n := dg_vl D2 n
theorem dig_zero : dig 0 = [] := dg_zero 10000
theorem dig_nil {n : Nat} : (dig n).length = 0 ↔ n = 0 := by
  constructor
  · intro h
    by_cases h0 : n = 0
    · exact h0
    · unfold dig at h; rw [dg_pos D2 h0] at h; simp at h
  · intro h; subst h; rw [dig_zero]; rfl
theorem dig_len_le {n m : Nat} (h : n < 10000 ^ m) : (dig n).length ≤ m := dg_len_le D2 h
theorem dig_lt (n : Nat) : n < 10000 ^ (dig n).length := dg_lt D2 n
theorem dig_le {n : Nat} (h : n ≠ 0) : 10000 ^ ((dig n).length - 1) ≤ n := dg_le D2 h
theorem dig_inj {a b : Nat} (h : dig a = dig b) : a = b := dg_inj D2 h
theorem dlen_lt {a b : Nat} (h : (dig a).length < (dig b).length) : a < b := by
  have h1 := dig_lt a
  have h2 : b ≠ 0 := fun h0 => by subst h0; rw [dig_zero] at h; simp at h
  have h3 := dig_le h2
  have h4 : 10000 ^ (dig a).length ≤ 10000 ^ ((dig b).length - 1) := Nat.pow_le_pow_right (by decide) (by omega)
  omega
theorem dlen_mono {a b : Nat} (h : a ≤ b) : (dig a).length ≤ (dig b).length := by
  rcases Nat.lt_or_ge (dig b).length (dig a).length with h1 | h1
  · have := dlen_lt h1; omega
  · exact h1
theorem dlen_add (a b : Nat) : (dig (a + b)).length ≤ max (dig a).length (dig b).length + 1 := by
  refine dig_len_le ?_
  have h1 := dig_lt a
  have h2 := dig_lt b
  have h3 : 10000 ^ (dig a).length ≤ 10000 ^ (max (dig a).length (dig b).length) := Nat.pow_le_pow_right (by decide) (by omega)
  have h4 : 10000 ^ (dig b).length ≤ 10000 ^ (max (dig a).length (dig b).length) := Nat.pow_le_pow_right (by decide) (by omega)
  rw [Nat.pow_succ]
  generalize 10000 ^ (max (dig a).length (dig b).length) = p at *
  omega
theorem dlen_mul (a b : Nat) : (dig (a * b)).length ≤ (dig a).length + (dig b).length := by
  refine dig_len_le ?_
  rw [Nat.pow_add]
  exact Nat.mul_lt_mul_of_lt_of_lt (dig_lt a) (dig_lt b)
theorem dlen_lim (n : Nat) : (dig n).length ≤ 5 * (lim n).length := by
  refine dig_len_le ?_
  have h1 := lim_lt n
  rw [Nat.pow_mul]
  exact Nat.lt_of_lt_of_le h1 (Nat.pow_le_pow_left (by decide) _)
theorem Trim_l0 (x : List Int) (hx : wfD x) (hl : x.length < 4611686018427387904) : ∀ n : Nat, n ≤ x.length → vD (x.take n) = vD x → ∀ k, n < k → chattelref01_Trim.l0 k x (n : Int) = some (dig (vD x).toNat) := by
  intro n
  induction n with
  | zero =>
    intro hn hv k hk
    obtain ⟨k, rfl⟩ : ∃ m, k = m + 1 := ⟨k - 1, by omega⟩
    simp only [chattelref01_Trim.l0]
    rw [if_neg (by omega), if_pos (by omega), if_pos (by omega)]
    have : vD x = 0 := by rw [← hv]; rfl
    rw [this]
    show some (x.take 0) = some (dg 10000 0)
    rw [dg_zero]
    rfl
  | succ n ih =>
    intro hn hv k hk
    obtain ⟨k, rfl⟩ : ∃ m, k = m + 1 := ⟨k - 1, by omega⟩
    have e1 : wrap64 (((n + 1 : Nat) : Int) - 1) = (n : Int) := by rw [wrap_id (by omega)]; omega
    simp only [chattelref01_Trim.l0]
    rw [if_pos (by omega), e1, if_pos (by omega), if_pos (by omega), rd_nat]
    by_cases h0 : x.getD n 0 = 0
    · rw [if_pos h0]
      refine ih (by omega) ?_ k (by omega)
      rw [← hv]
      show vl _ _ = vl _ _
      rw [vl_take_succ, h0, Int.mul_zero, Int.add_zero]
    · rw [if_neg h0, if_pos (by omega), if_pos (by omega), Int.toNat_natCast]
      have h1 := dg_of D2 (wf_take hx (n + 1)) (fun hne => by
        have h2 : (x.take (n + 1)).getLast hne = x.getD n 0 := by
          have h3 : (x.take (n + 1)).length = n + 1 := by rw [List.length_take]; omega
          rw [List.getLast_eq_getElem, List.getElem_take, List.getD_eq_getElem?_getD, List.getElem?_eq_getElem (by omega)]
          simp [h3]
        rw [h2]; exact h0)
      rw [← h1]
      show some (dig _) = _
      rw [show vl ((10000 : Nat) : Int) (x.take (n + 1)) = vD x from hv]
theorem Trim_ev (x : List Int) (hx : wfD x) (hl : x.length < 4611686018427387904) : Ev (fun k => chattelref01_Trim.f k x) (dig (vD x).toNat) := by
  refine Ev.lt x.length (fun k hk => ?_)
  unfold chattelref01_Trim.f
  exact Trim_l0 x hx hl x.length (Nat.le_refl _) (vl_take_ge _ _ _ (Nat.le_refl _)) k hk
theorem at_eq (l : List Int) (i : Nat) : chattelref01_at.f l (i : Int) = some (l.getD i 0) := by
  unfold chattelref01_at.f
  by_cases h : l.length ≤ i
  · rw [if_pos (by omega), List.getD_eq_getElem?_getD, List.getElem?_eq_none h]; rfl
  · rw [if_neg (by omega), if_pos (by omega), if_pos (by omega), rd_nat]
theorem tdiv_pos {a b : Int} (h : 0 ≤ a) : Int.tdiv a b = a / b := Int.tdiv_eq_ediv_of_nonneg h
theorem tmod_pos {a b : Int} (h : 0 ≤ a) : Int.tmod a b = a % b := Int.tmod_eq_emod_of_nonneg h
structure RAddInv (a b x : List Int) (c : Int) (i : Nat) : Prop where
  w : wfD x
  len : x.length = i
  c0 : 0 ≤ c ∧ c ≤ 1
  v : vD x + c * ((10000 : Nat) : Int) ^ i = vD (a.take i) + vD (b.take i)
theorem RAdd_l0 (a b : List Int) (ha : wfD a) (hb : wfD b) (m : Nat) (hm : m < 17592186044415) (hma : a.length ≤ m ∧ b.length ≤ m) :
    ∀ d i : Nat, i + d = m + 1 → ∀ x c, RAddInv a b x c i → Ev (fun k => chattelref01_Add.l0 k a b x c (i : Int)) (dig (vD a + vD b).toNat) := by
  intro d
  have fin : ∀ i : Nat, a.length ≤ i → b.length ≤ i → i ≤ m + 1 → ∀ x c, RAddInv a b x c i → c = 0 → Ev (fun k => chattelref01_Add.j1 k a b x c (i : Int) false) (dig (vD a + vD b).toNat) := by
    intro i h1 h2 h3 x c h hc
    refine Ev.unroll ?_
    simp only [chattelref01_Add.j1]
    refine Ev.neg (by decide) ?_
    have hv := h.v
    rw [show vD (a.take i) = vD a from vl_take_ge _ _ _ h1, show vD (b.take i) = vD b from vl_take_ge _ _ _ h2, hc, Int.zero_mul, Int.add_zero] at hv
    rw [← hv]
    exact Ev.bind (f := fun _ t => some t) (Trim_ev x h.w (by rw [h.len]; omega)) (Ev.now _)
  induction d with
  | zero =>
    intro i hi x c h
    have hi' : i = m + 1 := by omega
    subst hi'
    have hc : c = 0 := by
      have hv := h.v
      rw [show vD (a.take (m + 1)) = vD a from vl_take_ge _ _ _ (by omega), show vD (b.take (m + 1)) = vD b from vl_take_ge _ _ _ (by omega)] at hv
      have h1 := vl_lt D_pos ha
      have h2 := vl_lt D_pos hb
      have h3 := vl_nonneg D_pos h.w
      have h4 : ((10000 : Nat) : Int) ^ a.length ≤ ((10000 : Nat) : Int) ^ m := by
        rw [← Int.natCast_pow, ← Int.natCast_pow]; exact Int.ofNat_le.2 (Nat.pow_le_pow_right (by decide) (by omega))
      have h5 : ((10000 : Nat) : Int) ^ b.length ≤ ((10000 : Nat) : Int) ^ m := by
        rw [← Int.natCast_pow, ← Int.natCast_pow]; exact Int.ofNat_le.2 (Nat.pow_le_pow_right (by decide) (by omega))
      have h6 : ((10000 : Nat) : Int) ^ (m + 1) = ((10000 : Nat) : Int) ^ m * 10000 := Int.pow_succ _ _
      have h7 : 0 ≤ ((10000 : Nat) : Int) ^ m := Int.pow_nonneg (by decide)
      rcases Int.le_iff_lt_or_eq.1 h.c0.1 with h8 | h8
      · have h9 : c = 1 := by have := h.c0.2; omega
        rw [h9, h6] at hv
        simp only [vD] at hv
        omega
      · exact h8.symm
    refine Ev.unroll ?_
    simp only [chattelref01_Add.l0]
    refine Ev.neg (by omega) (Ev.neg (by omega) ?_)
    rw [decide_eq_false (by omega)]
    exact fin (m + 1) (by omega) (by omega) (Nat.le_refl _) x c h hc
  | succ d ih =>
    intro i hi x c h
    have go : Ev (fun k => chattelref01_Add.j1 k a b x c (i : Int) true) (dig (vD a + vD b).toNat) := by
      refine Ev.unroll ?_
      simp only [chattelref01_Add.j1]
      refine Ev.pos (by decide) ?_
      have wa := wf_getD D_pos ha i
      have wb := wf_getD D_pos hb i
      rw [D_int] at wa wb
      have hc := h.c0
      have e1 : wrap64 ((i : Int) + 1) = ((i + 1 : Nat) : Int) := by rw [wrap_id (by omega)]; omega
      have e2 : wrap64 (wrap64 (a.getD i 0 + b.getD i 0) + c) = a.getD i 0 + b.getD i 0 + c := by rw [wrap_id (x := a.getD i 0 + b.getD i 0) (by omega), wrap_id (by omega)]
      simp only [at_eq, Option.bind_some, e1, e2]
      rw [tdiv_pos (by omega), tmod_pos (by omega), wrap_id (x := (a.getD i 0 + b.getD i 0 + c) / 10000) (by omega)]
      refine Ev.pos (by rw [h.len]; omega) ?_
      refine ih (i + 1) (by omega) _ _ ⟨wf_append h.w (wf_cons.2 ⟨by rw [D_int]; omega, wf_nil _⟩), by rw [List.length_append, h.len]; rfl, by omega, ?_⟩
      have hv := h.v
      show vl _ _ + _ = vl _ _ + vl _ _
      rw [vl_append, h.len, vl_take_succ, vl_take_succ, Int.pow_succ]
      simp only [vD, vl] at hv ⊢
      have e3 : (a.getD i 0 + b.getD i 0 + c) % 10000 + 10000 * ((a.getD i 0 + b.getD i 0 + c) / 10000) = a.getD i 0 + b.getD i 0 + c := Int.emod_add_mul_ediv _ _
      generalize (a.getD i 0 + b.getD i 0 + c) % 10000 = s at *
      generalize (a.getD i 0 + b.getD i 0 + c) / 10000 = q at *
      rw [D_int] at *
      generalize (10000 : Int) ^ i = p at *
      have e4 : p * (s + 10000 * q) = p * (a.getD i 0 + b.getD i 0 + c) := by rw [e3]
      grind
    refine Ev.unroll ?_
    simp only [chattelref01_Add.l0]
    by_cases h1 : i < a.length
    · exact Ev.pos (by omega) go
    · refine Ev.neg (by omega) ?_
      by_cases h2 : i < b.length
      · exact Ev.pos (by omega) go
      · refine Ev.neg (by omega) ?_
        by_cases h3 : c > 0
        · rw [decide_eq_true h3]; exact go
        · rw [decide_eq_false h3]
          exact fin i (by omega) (by omega) (by omega) x c h (by have := h.c0; omega)
theorem RAdd_ev (a b : Nat) (la : (dig a).length < 17592186044415) (lb : (dig b).length < 17592186044415) : Ev (fun k => chattelref01_Add.f k (dig a) (dig b)) (dig (a + b)) := by
  unfold chattelref01_Add.f
  have := RAdd_l0 (dig a) (dig b) (dig_wf a) (dig_wf b) (max (dig a).length (dig b).length) (by omega) (by omega) _ 0 (Nat.zero_add _) [] 0 ⟨wf_nil _, rfl, by omega, rfl⟩
  rw [dig_v, dig_v, show ((a : Int) + (b : Int)).toNat = a + b by omega] at this
  exact this
structure RSubInv (a b x : List Int) (c : Int) (i : Nat) : Prop where
  w : wfD x
  len : x.length = i
  c0 : 0 ≤ c ∧ c ≤ 1
  v : vD x - c * ((10000 : Nat) : Int) ^ i = vD (a.take i) - vD (b.take i)
theorem RSub_l0 (a b : List Int) (ha : wfD a) (hb : wfD b) (hm : a.length < 17592186044415) (hlen : b.length ≤ a.length) (hle : vD b ≤ vD a) :
    ∀ d i : Nat, i + d = a.length → ∀ x c, RSubInv a b x c i → Ev (fun k => chattelref01_Sub.l0 k a b x c (i : Int)) (dig (vD a - vD b).toNat) := by
  intro d
  induction d with
  | zero =>
    intro i hi x c h
    have hi' : i = a.length := by omega
    subst hi'
    refine Ev.unroll ?_
    simp only [chattelref01_Sub.l0]
    refine Ev.neg (by omega) ?_
    have hv := h.v
    rw [show vD (a.take a.length) = vD a from vl_take_ge _ _ _ (by omega), show vD (b.take a.length) = vD b from vl_take_ge _ _ _ (by omega)] at hv
    have hc : c = 0 := by
      have h1 := vl_lt D_pos h.w
      rw [h.len] at h1
      rcases Int.le_iff_lt_or_eq.1 h.c0.1 with h8 | h8
      · have h9 : c = 1 := by have := h.c0.2; omega
        rw [h9] at hv
        simp only [vD] at hv hle
        omega
      · exact h8.symm
    rw [hc, Int.zero_mul, Int.sub_zero] at hv
    rw [← hv]
    exact Ev.bind (f := fun _ t => some t) (Trim_ev x h.w (by rw [h.len]; omega)) (Ev.now _)
  | succ d ih =>
    intro i hi x c h
    refine Ev.unroll ?_
    simp only [chattelref01_Sub.l0]
    have wa := wf_getD D_pos ha i
    have wb := wf_getD D_pos hb i
    rw [D_int] at wa wb
    have hc := h.c0
    have e1 : wrap64 ((i : Int) + 1) = ((i + 1 : Nat) : Int) := by rw [wrap_id (by omega)]; omega
    have e2 : wrap64 (wrap64 (a.getD i 0 - b.getD i 0) - c) = a.getD i 0 - b.getD i 0 - c := by rw [wrap_id (x := a.getD i 0 - b.getD i 0) (by omega), wrap_id (by omega)]
    simp only [at_eq, Option.bind_some, e1, rd_nat, e2]
    refine Ev.pos (by omega) (Ev.pos (by omega) ?_)
    have hv := h.v
    have stp : ∀ (s q : Int), 0 ≤ s ∧ s < 10000 → 0 ≤ q ∧ q ≤ 1 → s - 10000 * q = a.getD i 0 - b.getD i 0 - c → Ev (fun k => chattelref01_Sub.l0 k a b (x ++ [s]) q ((i + 1 : Nat) : Int)) (dig (vD a - vD b).toNat) := by
      intro s q hs hq e3
      refine ih (i + 1) (by omega) _ _ ⟨wf_append h.w (wf_cons.2 ⟨by rw [D_int]; exact hs, wf_nil _⟩), by rw [List.length_append, h.len]; rfl, hq, ?_⟩
      show vl _ _ - _ = vl _ _ - vl _ _
      rw [vl_append, h.len, vl_take_succ, vl_take_succ, Int.pow_succ]
      simp only [vD, vl] at hv ⊢
      rw [D_int] at *
      generalize (10000 : Int) ^ i = p at *
      have e4 : p * (s - 10000 * q) = p * (a.getD i 0 - b.getD i 0 - c) := by rw [e3]
      grind
    by_cases h1 : a.getD i 0 - b.getD i 0 - c < 0
    · refine Ev.pos h1 (Ev.pos (by rw [h.len]; omega) ?_)
      rw [wrap_id (x := a.getD i 0 - b.getD i 0 - c + 10000) (by omega)]
      exact stp _ 1 (by omega) (by omega) (by omega)
    · refine Ev.neg h1 (Ev.pos (by rw [h.len]; omega) ?_)
      exact stp _ 0 (by omega) (by omega) (by omega)
theorem RSub_ev (a b : Nat) (hle : b ≤ a) (la : (dig a).length < 17592186044415) : Ev (fun k => chattelref01_Sub.f k (dig a) (dig b)) (dig (a - b)) := by
  unfold chattelref01_Sub.f
  have hlen : (dig b).length ≤ (dig a).length := by
    rcases Nat.lt_or_ge (dig a).length (dig b).length with h1 | h1
    · have := dlen_lt h1; omega
    · exact h1
  have := RSub_l0 (dig a) (dig b) (dig_wf a) (dig_wf b) la hlen (by rw [dig_v, dig_v]; omega) _ 0 (Nat.zero_add _) [] 0 ⟨wf_nil _, rfl, by omega, rfl⟩
  rw [dig_v, dig_v, show ((a : Int) - (b : Int)).toNat = a - b by omega] at this
  exact this
theorem RCmp_l0 (a b : List Int) (ha : wfD a) (hb : wfD b) (hl : a.length = b.length) (hm : a.length < 4611686018427387904) : ∀ n : Nat, n ≤ a.length →
    (vD (a.take n) < vD (b.take n) ↔ vD a < vD b) → (vD (a.take n) = vD (b.take n) ↔ vD a = vD b) → ∀ k, n < k → chattelref01_Cmp.l0 k a b ((n : Int) - 1) = some (if vD a < vD b then -1 else if vD a = vD b then 0 else 1) := by
  intro n
  induction n with
  | zero =>
    intro hn h1 h2 k hk
    obtain ⟨k, rfl⟩ : ∃ m, k = m + 1 := ⟨k - 1, by omega⟩
    simp only [chattelref01_Cmp.l0]
    rw [if_neg (by omega)]
    have h3 : vD a = vD b := h2.1 rfl
    rw [if_neg (by omega), if_pos h3]
  | succ n ih =>
    intro hn h1 h2 k hk
    obtain ⟨k, rfl⟩ : ∃ m, k = m + 1 := ⟨k - 1, by omega⟩
    have e1 : ((n + 1 : Nat) : Int) - 1 = (n : Int) := by omega
    have e2 : wrap64 ((n : Int) - 1) = (n : Int) - 1 := wrap_id (by omega)
    simp only [chattelref01_Cmp.l0, e1, e2, rd_nat]
    rw [if_pos (by omega), if_pos (by omega), if_pos (by omega), if_pos (by omega)]
    obtain ⟨s1, s2, s3⟩ := sg_step D_pos ha hb n h1 h2 (by omega) (by omega)
    by_cases c1 : a.getD n 0 < b.getD n 0
    · have := s1 c1
      rw [if_pos c1, if_pos this]
    · by_cases c2 : a.getD n 0 = b.getD n 0
      · rw [if_neg c1, if_neg (by omega)]
        exact ih (by omega) (s3 c2).1 (s3 c2).2 k (by omega)
      · have := s2 (by omega)
        simp only [vD]
        rw [if_neg c1, if_pos (by omega), if_neg (by omega), if_neg (by omega)]
theorem RCmp_ev (a b : Nat) (ha : (dig a).length < 4611686018427387904) (hb : (dig b).length < 4611686018427387904) : Ev (fun k => chattelref01_Cmp.f k (dig a) (dig b)) (sg a b) := by
  unfold chattelref01_Cmp.f
  rcases Nat.lt_trichotomy (dig a).length (dig b).length with h | h | h
  · have := dlen_lt h
    refine Ev.neg (by omega) (Ev.pos (by omega) (Ev.const ?_))
    unfold sg; rw [if_pos this]
  · refine Ev.pos (by omega) (Ev.lt (dig a).length (fun k hk => ?_))
    rw [wrap_id (by omega)]
    rw [RCmp_l0 (dig a) (dig b) (dig_wf a) (dig_wf b) h ha (dig a).length (Nat.le_refl _) (by rw [List.take_of_length_le (Nat.le_refl _), List.take_of_length_le (by omega)]) (by rw [List.take_of_length_le (Nat.le_refl _), List.take_of_length_le (by omega)]) k hk]
    rw [dig_v, dig_v]
    unfold sg
    congr 1
    by_cases h1 : a < b
    · rw [if_pos h1, if_pos (by omega)]
    · rw [if_neg h1, if_neg (by omega)]
      by_cases h2 : a = b
      · rw [if_pos h2, if_pos (by omega)]
      · rw [if_neg h2, if_neg (by omega)]
  · have := dlen_lt h
    refine Ev.neg (by omega) (Ev.neg (by omega) (Ev.const ?_))
    unfold sg; rw [if_neg (by omega), if_neg (by omega)]
theorem Small_l0 (n : Nat) : n < 9223372036854775808 → ∀ x : List Int, x.length + (dig n).length < 17592186044416 → Ev (fun k => chattelref01_Small.l0 k (n : Int) x) (x ++ dig n) := by
  induction n using Nat.strongRecOn with
  | _ n ih =>
    intro hn x hx
    refine Ev.unroll ?_
    simp only [chattelref01_Small.l0]
    by_cases h0 : n = 0
    · subst h0
      refine Ev.neg (by omega) (Ev.const ?_)
      rw [dig_zero, List.append_nil]
    · refine Ev.pos (by omega) ?_
      have e0 : dig n = ((n % 10000 : Nat) : Int) :: dig (n / 10000) := dg_pos D2 h0
      rw [e0, List.length_cons] at hx
      refine Ev.pos (by omega) ?_
      rw [tdiv_pos (by omega), tmod_pos (by omega), wrap_id (by omega), show (n : Int) / 10000 = ((n / 10000 : Nat) : Int) by omega, show (n : Int) % 10000 = ((n % 10000 : Nat) : Int) by omega]
      have := ih (n / 10000) (by omega) (by omega) (x ++ [((n % 10000 : Nat) : Int)]) (by rw [List.length_append, List.length_singleton]; omega)
      rw [e0]
      rw [List.append_assoc, List.singleton_append] at this
      exact this
theorem Small_ev (n : Nat) (hn : n < 9223372036854775808) : Ev (fun k => chattelref01_Small.f k (n : Int)) (dig n) := by
  unfold chattelref01_Small.f
  have hl : (dig n).length ≤ 5 := dig_len_le (by omega)
  have := Small_l0 n hn [] (by simp; omega)
  rw [List.nil_append] at this
  exact this
structure RMulInv (a b x : List Int) (i j : Nat) (c : Int) : Prop where
  w : wfD x
  len : x.length = a.length + b.length + 1
  c0 : 0 ≤ c ∧ c ≤ 9999
  v : vD x + c * ((10000 : Nat) : Int) ^ (i + j) = vD (a.take i) * vD b + a.getD i 0 * ((10000 : Nat) : Int) ^ i * vD (b.take j)
theorem RMul_step {x y c l : Int} (hx : 0 ≤ x ∧ x < 10000) (hy : 0 ≤ y ∧ y < 10000) (hc : 0 ≤ c ∧ c ≤ 9999) (hl : 0 ≤ l ∧ l < 10000) : 0 ≤ x * y ∧ x * y ≤ 99980001 := by
  refine ⟨Int.mul_nonneg hx.1 hy.1, ?_⟩
  have h1 : x * y ≤ 9999 * y := Int.mul_le_mul_of_nonneg_right (by omega) hy.1
  omega
theorem RMul_num {x y c l : Int} (hx : 0 ≤ x ∧ x < 10000) (hy : 0 ≤ y ∧ y < 10000) (hc : 0 ≤ c ∧ c ≤ 9999) (hl : 0 ≤ l ∧ l < 10000) :
    wrap64 (wrap64 (l + wrap64 (x * y)) + c) = l + x * y + c ∧ Int.tmod (l + x * y + c) 10000 = (l + x * y + c) % 10000 ∧ wrap64 (Int.tdiv (l + x * y + c) 10000) = (l + x * y + c) / 10000 ∧
    (0 ≤ (l + x * y + c) % 10000 ∧ (l + x * y + c) % 10000 < 10000) ∧ (0 ≤ (l + x * y + c) / 10000 ∧ (l + x * y + c) / 10000 ≤ 9999) := by
  obtain ⟨m1, m2⟩ := RMul_step hx hy hc hl
  generalize x * y = m at *
  have e1 : wrap64 m = m := wrap_id (by omega)
  have e2 : wrap64 (l + m) = l + m := wrap_id (by omega)
  have e3 : wrap64 (l + m + c) = l + m + c := wrap_id (by omega)
  rw [e1, e2, e3, tdiv_pos (by omega), tmod_pos (by omega)]
  exact ⟨rfl, rfl, wrap_id (by omega), by omega, by omega⟩
theorem RMul_val {p r x c X Y A B l s q : Int} (hv : X + c * (p * r) = A + Y) (e3 : s + 10000 * q = l + x * B + c) : X + p * r * (s - l) + q * (p * r * 10000) = A + (Y + x * p * (r * B)) := by
  have e4 : p * r * (s + 10000 * q) = p * r * (l + x * B + c) := by rw [e3]
  grind
theorem RMul_put (a b : List Int) (ha : wfD a) (hb : wfD b) (hm : a.length + b.length < 2199023255552) (i j : Nat) (hi : i < a.length) (hj : j ≤ b.length) (x : List Int) (c : Int) (h : RMulInv a b x i j c) (r : List Int)
    (k1 : ∀ x c, RMulInv a b x i (j + 1) c → Ev (fun k => chattelref01_Mul.l1 k a b x (i : Int) c ((j + 1 : Nat) : Int)) r) :
    Ev (fun k => (chattelref01_at.f b (j : Int)).bind fun t240 => (if 0 ≤ (wrap64 ((i : Int) + (j : Int))) then (if (wrap64 ((i : Int) + (j : Int))) < (x.length : Int) then (if 0 ≤ (i : Int) then (if (i : Int) < (a.length : Int) then (chattelref01_Mul.l1 k a b (x.set ((wrap64 ((i : Int) + (j : Int))) : Int).toNat (Int.tmod (wrap64 ((wrap64 ((rd x (wrap64 ((i : Int) + (j : Int)))) + (wrap64 ((rd a (i : Int)) * t240)))) + c)) 10000)) (i : Int) (wrap64 (Int.tdiv (wrap64 ((wrap64 ((rd x (wrap64 ((i : Int) + (j : Int)))) + (wrap64 ((rd a (i : Int)) * t240)))) + c)) 10000)) (wrap64 ((j : Int) + 1))) else (none)) else (none)) else (none)) else (none))) r := by
  have hlen := h.len
  have q1 : (0 : Int) ≤ ((i + j : Nat) : Int) := by omega
  have q2 : ((i + j : Nat) : Int) < (x.length : Int) := by have := h.len; omega
  have q3 : (0 : Int) ≤ (i : Int) := by omega
  have q4 : (i : Int) < (a.length : Int) := by omega
  have q5 : i + j < x.length := by omega
  have e1 : wrap64 ((i : Int) + (j : Int)) = ((i + j : Nat) : Int) := by rw [wrap_id (by omega)]; omega
  have e2 : wrap64 ((j : Int) + 1) = ((j + 1 : Nat) : Int) := by rw [wrap_id (by omega)]; omega
  have wa := wf_getD D_pos ha i
  have wb := wf_getD D_pos hb j
  have wx := wf_getD D_pos h.w (i + j)
  rw [D_int] at wa wb wx
  obtain ⟨n1, n2, n3, n4, n5⟩ := RMul_num wa wb h.c0 wx
  simp only [at_eq, Option.bind_some, e1, e2, rd_nat, Int.toNat_natCast]
  rw [n1, n2, n3]
  refine Ev.pos q1 (Ev.pos q2 (Ev.pos q3 (Ev.pos q4 ?_)))
  refine k1 _ _ ⟨wf_set h.w _ (by rw [D_int]; exact n4), by rw [List.length_set, h.len], n5, ?_⟩
  have hv := h.v
  show vl _ _ + _ = _ * _ + _ * vl _ _
  rw [vl_set _ _ _ _ q5, vl_take_succ, show i + (j + 1) = (i + j) + 1 from rfl, Int.pow_succ]
  have hp : ((10000 : Nat) : Int) ^ (i + j) = ((10000 : Nat) : Int) ^ i * ((10000 : Nat) : Int) ^ j := Int.pow_add _ _ _
  simp only [vD] at hv ⊢
  rw [hp] at hv ⊢
  rw [Int.mul_add (a.getD i 0 * _)]
  exact RMul_val hv (Int.emod_add_mul_ediv _ _)
theorem RMul_out (a b : List Int) (hm : a.length + b.length < 2199023255552) (i j : Nat) (hi : i < a.length) (r : List Int) (h1 : b.length ≤ j) (x : List Int) (h : RMulInv a b x i j 0)
    (ih : ∀ x, RMulInv a b x (i + 1) 0 0 → Ev (fun k => chattelref01_Mul.l0 k a b x ((i + 1 : Nat) : Int)) r) : Ev (fun k => chattelref01_Mul.l1 k a b x (i : Int) 0 (j : Int)) r := by
  refine Ev.unroll ?_
  simp only [chattelref01_Mul.l1]
  refine Ev.neg (by omega) (Ev.neg (by omega) ?_)
  have e1 : wrap64 ((i : Int) + 1) = ((i + 1 : Nat) : Int) := by rw [wrap_id (by omega)]; omega
  rw [e1]
  refine ih x ⟨h.w, h.len, by omega, ?_⟩
  have hv := h.v
  rw [show vD (b.take j) = vD b from vl_take_ge _ _ _ h1, Int.zero_mul, Int.add_zero] at hv
  show vl _ _ + 0 * _ = vl _ _ * _ + _ * vl _ (b.take 0)
  rw [vl_take_succ, List.take_zero, show vl ((10000 : Nat) : Int) ([] : List Int) = 0 from rfl, Int.zero_mul, Int.mul_zero, Int.add_zero, Int.add_zero, Int.add_mul]
  simp only [vD] at hv
  rw [hv, Int.mul_comm (a.getD i 0)]
theorem RMul_end (a b : List Int) (ha : wfD a) (hb : wfD b) (i : Nat) (hi : i < a.length) (x : List Int) (c : Int) (h : RMulInv a b x i (b.length + 1) c) : c = 0 := by
  have wa := wf_getD D_pos ha i
  rw [D_int] at wa
  have hv := h.v
  have hc := h.c0
  rw [show vD (b.take (b.length + 1)) = vD b from vl_take_ge _ _ _ (by omega)] at hv
  have h1 := vl_lt D_pos hb
  have h2 := vl_lt D_pos (wf_take ha i)
  have h3 := vl_nonneg D_pos h.w
  have h4 := vl_nonneg D_pos hb
  have h5 := vl_nonneg D_pos (wf_take ha i)
  rw [List.length_take, Nat.min_eq_left (by omega)] at h2
  have hp : ((10000 : Nat) : Int) ^ (i + (b.length + 1)) = ((10000 : Nat) : Int) ^ i * (((10000 : Nat) : Int) ^ b.length * 10000) := by
    rw [Int.pow_add, Int.pow_succ]; rfl
  rcases Int.le_iff_lt_or_eq.1 hc.1 with h8 | h8
  · exfalso
    clear h
    rw [hp] at hv
    simp only [vD] at hv
    generalize ((10000 : Nat) : Int) ^ i = p at *
    generalize ((10000 : Nat) : Int) ^ b.length = r at *
    generalize vl ((10000 : Nat) : Int) b = u at *
    generalize vl ((10000 : Nat) : Int) (a.take i) = t at *
    generalize vl ((10000 : Nat) : Int) x = z at *
    generalize a.getD i 0 = y at *
    clear hp
    have q1 : t * u ≤ p * u := Int.mul_le_mul_of_nonneg_right (by omega) h4
    have q2 : y * p * u ≤ 9999 * p * u := Int.mul_le_mul_of_nonneg_right (Int.mul_le_mul_of_nonneg_right (by omega) (by omega)) h4
    have q3 : p * u + p ≤ p * r := by
      have := Int.mul_le_mul_of_nonneg_left (show u + 1 ≤ r by omega) (show 0 ≤ p by omega)
      rwa [Int.mul_add, Int.mul_one] at this
    have q4 : 1 * (p * (r * 10000)) ≤ c * (p * (r * 10000)) := Int.mul_le_mul_of_nonneg_right (by omega) (Int.mul_nonneg (by omega) (by omega))
    have q5 : p * (r * 10000) = 10000 * (p * r) := by rw [← Int.mul_assoc, Int.mul_comm]
    have q6 : 9999 * p * u = 9999 * (p * u) := Int.mul_assoc _ _ _
    rw [q5] at hv q4
    rw [q6] at q2
    generalize c * (10000 * (p * r)) = A1 at *
    generalize p * r = A2 at *
    generalize p * u = A3 at *
    generalize t * u = A4 at *
    generalize y * p * u = A5 at *
    omega
  · exact h8.symm
theorem RMul_loops (a b : List Int) (ha : wfD a) (hb : wfD b) (hm : a.length + b.length < 2199023255552) :
    ∀ e : Nat, (∀ i : Nat, i + e = a.length → ∀ x, RMulInv a b x i 0 0 → Ev (fun k => chattelref01_Mul.l0 k a b x (i : Int)) (dig (vD a * vD b).toNat)) := by
  intro e
  induction e with
  | zero =>
    intro i hi x h
    have hi' : i = a.length := by omega
    subst hi'
    refine Ev.unroll ?_
    simp only [chattelref01_Mul.l0]
    refine Ev.neg (by omega) ?_
    have hv := h.v
    rw [show vD (a.take a.length) = vD a from vl_take_ge _ _ _ (by omega), show vD (b.take 0) = 0 from rfl, Int.mul_zero, Int.zero_mul, Int.add_zero, Int.add_zero] at hv
    rw [← hv]
    exact Ev.bind (f := fun _ t => some t) (Trim_ev x h.w (by rw [h.len]; omega)) (Ev.now _)
  | succ e ih =>
    intro i hi x h
    have hi2 : i < a.length := by omega
    have ih' := ih (i + 1) (by omega)
    clear ih
    generalize dig (vD a * vD b).toNat = r at *
    have inner : ∀ d j : Nat, j + d = b.length + 1 → ∀ x c, RMulInv a b x i j c → Ev (fun k => chattelref01_Mul.l1 k a b x (i : Int) c (j : Int)) r := by
      intro d
      induction d with
      | zero =>
        intro j hj x c h
        have hj' : j = b.length + 1 := by omega
        subst hj'
        have hc := RMul_end a b ha hb i hi2 x c h
        subst hc
        exact RMul_out a b hm i _ hi2 r (by omega) x h ih'
      | succ d ihd =>
        intro j hj x c h
        have next := fun x c h => ihd (j + 1) (by omega) x c h
        clear ihd
        by_cases h1 : j < b.length
        · refine Ev.unroll ?_
          simp only [chattelref01_Mul.l1]
          exact Ev.pos (by omega) (RMul_put a b ha hb hm i j hi2 (by omega) x c h r next)
        · by_cases h2 : c > 0
          · refine Ev.unroll ?_
            simp only [chattelref01_Mul.l1]
            exact Ev.neg (by omega) (Ev.pos h2 (RMul_put a b ha hb hm i j hi2 (by omega) x c h r next))
          · have hc : c = 0 := by have := h.c0; omega
            subst hc
            exact RMul_out a b hm i j hi2 r (by omega) x h ih'
    refine Ev.unroll ?_
    simp only [chattelref01_Mul.l0]
    refine Ev.pos (by omega) ?_
    exact inner (b.length + 1) 0 (by omega) x 0 h
theorem RMul_ev (a b : Nat) (la : (dig a).length < 1099511627775) (lb : (dig b).length < 1099511627775) : Ev (fun k => chattelref01_Mul.f k (dig a) (dig b)) (dig (a * b)) := by
  unfold chattelref01_Mul.f
  have e1 : wrap64 (wrap64 (((dig a).length : Int) + ((dig b).length : Int)) + 1) = (((dig a).length + (dig b).length + 1 : Nat) : Int) := by
    rw [wrap_id (x := ((dig a).length : Int) + ((dig b).length : Int)) (by omega), wrap_id (by omega)]; omega
  simp only [e1, Int.toNat_natCast]
  refine Ev.pos (by omega) (Ev.pos (by omega) ?_)
  have := RMul_loops (dig a) (dig b) (dig_wf a) (dig_wf b) (by omega) _ 0 (Nat.zero_add _) (List.replicate ((dig a).length + (dig b).length + 1) 0) ⟨wf_replicate D_pos _, List.length_replicate, by omega, by
    show vl _ _ + 0 * _ = vl _ ((dig a).take 0) * _ + _ * vl _ ((dig b).take 0)
    rw [vl_replicate, List.take_zero, List.take_zero, Int.zero_mul, show vl ((10000 : Nat) : Int) ([] : List Int) = 0 from rfl, Int.zero_mul, Int.mul_zero]⟩
  rw [dig_v, dig_v, show ((a : Int) * (b : Int)).toNat = a * b by rw [← Int.natCast_mul, Int.toNat_natCast]] at this
  exact this
theorem part_eq (x p : Nat) (hx : x < 18446744073709551616) (hp : p ≤ 3) : wrap64 (Go.bits .and .u64 (shr .u64 (x : Int) (wrap64 (16 * (p : Int)))) 65535) = ((x / 65536 ^ p % 65536 : Nat) : Int) := by
  have e1 : wrap64 (16 * (p : Int)) = ((16 * p : Nat) : Int) := by rw [wrap_id (by omega)]; omega
  have e2 : shr .u64 (x : Int) ((16 * p : Nat) : Int) = ((x / 65536 ^ p : Nat) : Int) := by
    unfold shr
    rw [Int.toNat_natCast, show min (16 * p) IntKind.u64.bits = 16 * p from Nat.min_eq_left (by show 16 * p ≤ 64; omega)]
    rw [show (2 : Int) ^ (16 * p) = ((65536 ^ p : Nat) : Int) by rw [Int.natCast_pow, Int.pow_mul]; rfl]
    rfl
  have h3 : x / 65536 ^ p < 18446744073709551616 := Nat.lt_of_le_of_lt (Nat.div_le_self _ _) hx
  rw [e1, e2, show (65535 : Int) = ((65535 : Nat) : Int) from rfl, bits_and_u64_nat _ 65535 h3 (by decide)]
  rw [show x / 65536 ^ p &&& 65535 = x / 65536 ^ p % 65536 from Nat.and_two_pow_sub_one_eq_mod _ 16]
  rw [wrap_id (by omega)]
theorem ROf_l1 (l : List Int) (hl : wfW l) (hm : l.length < 10737418240) (i : Nat) (hi : i < l.length) (V : Nat) (hlen : (dig V).length + 40 < 549755813888) (r : List Int)
    (fin : Ev (fun k => chattelref01_Of.l0 k l (dig (V * W + (l.getD i 0).toNat)) (dig 65536) ((i : Int) - 1)) r) :
    ∀ q : Nat, q ≤ 4 → Ev (fun k => chattelref01_Of.l1 k l (dig (V * 65536 ^ (4 - q) + (l.getD i 0).toNat / 65536 ^ q)) (dig 65536) (i : Int) ((q : Int) - 1)) r := by
  intro q
  have wl := wf_getD W_pos hl i
  rw [W_int] at wl
  obtain ⟨x, hx⟩ := Int.eq_ofNat_of_zero_le wl.1
  rw [hx] at wl fin ⊢
  rw [Int.toNat_natCast] at fin ⊢
  induction q with
  | zero =>
    intro _
    refine Ev.unroll ?_
    simp only [chattelref01_Of.l1]
    refine Ev.neg (by omega) ?_
    rw [wrap_id (by omega), Nat.pow_zero, Nat.div_one, show 65536 ^ (4 - 0) = W from rfl]
    exact fin
  | succ q ih =>
    intro hq
    have e0 : ((q + 1 : Nat) : Int) - 1 = (q : Int) := by omega
    have e1 : wrap64 ((q : Int) - 1) = (q : Int) - 1 := wrap_id (by omega)
    have e2 : wrap64 (16 * (q : Int)) = ((16 * q : Nat) : Int) := by rw [wrap_id (by omega)]; omega
    refine Ev.unroll ?_
    simp only [chattelref01_Of.l1, e0, e1, rd_nat, hx, part_eq x q (by omega) (show q ≤ 3 by omega)]
    refine Ev.pos (by omega) (Ev.pos (by omega) (Ev.pos (by omega) (Ev.pos (by rw [e2]; omega) ?_)))
    have hd : x / 65536 ^ q % 65536 < 65536 := Nat.mod_lt _ (by decide)
    refine Ev.bind (Small_ev _ (by omega)) ?_
    have b1 : (dig (V * 65536 ^ (4 - (q + 1)) + x / 65536 ^ (q + 1))).length ≤ (dig V).length + 21 := by
      have a1 := dlen_add (V * 65536 ^ (4 - (q + 1))) (x / 65536 ^ (q + 1))
      have a2 := dlen_mul V (65536 ^ (4 - (q + 1)))
      have a3 : (dig (65536 ^ (4 - (q + 1)))).length ≤ 8 := dig_len_le (Nat.lt_of_le_of_lt (Nat.pow_le_pow_right (by decide) (show 4 - (q + 1) ≤ 3 by omega)) (by decide))
      have a4 : (dig (x / 65536 ^ (q + 1))).length ≤ 5 := dig_len_le (Nat.lt_of_le_of_lt (Nat.div_le_self _ _) (by omega))
      omega
    have b2 : (dig 65536).length ≤ 2 := dig_len_le (by decide)
    refine Ev.bind (RMul_ev _ _ (by omega) (by omega)) ?_
    have b3 := dlen_mul (V * 65536 ^ (4 - (q + 1)) + x / 65536 ^ (q + 1)) 65536
    have b4 : (dig (x / 65536 ^ q % 65536)).length ≤ 2 := dig_len_le (by omega)
    refine Ev.bind (RAdd_ev _ _ (by omega) (by omega)) ?_
    have e3 : (V * 65536 ^ (4 - (q + 1)) + x / 65536 ^ (q + 1)) * 65536 + x / 65536 ^ q % 65536 = V * 65536 ^ (4 - q) + x / 65536 ^ q := by
      rw [Nat.pow_succ 65536 q, ← Nat.div_div_eq_div_mul, show 4 - q = 4 - (q + 1) + 1 by omega, Nat.pow_succ, Nat.add_mul, Nat.mul_assoc]
      have := Nat.div_add_mod (x / 65536 ^ q) 65536
      omega
    rw [e3]
    exact ih (by omega)
theorem drop_val (l : List Int) (hl : wfW l) (i : Nat) (hi : i < l.length) : (vW (l.drop i)).toNat = (vW (l.drop (i + 1))).toNat * W + (l.getD i 0).toNat := by
  have h1 := vl_nonneg W_pos (wf_drop hl (i + 1))
  have h2 := wf_getD W_pos hl i
  rw [List.drop_eq_getElem_cons hi]
  have h3 : l[i] = l.getD i 0 := by rw [List.getD_eq_getElem?_getD, List.getElem?_eq_getElem hi]; rfl
  rw [h3]
  simp only [vW, vl]
  generalize vl ((W : Nat) : Int) (l.drop (i + 1)) = v at *
  rw [W_int]
  rw [W_int] at h2
  show _ = _ * 18446744073709551616 + _
  omega
theorem ROf_l0 (l : List Int) (hl : wfW l) (hm : l.length < 10737418240) : ∀ i : Nat, i ≤ l.length → Ev (fun k => chattelref01_Of.l0 k l (dig (vW (l.drop i)).toNat) (dig 65536) ((i : Int) - 1)) (dig (vW l).toNat) := by
  intro i
  induction i with
  | zero =>
    intro _
    refine Ev.unroll ?_
    simp only [chattelref01_Of.l0]
    exact Ev.neg (by omega) (Ev.now _)
  | succ i ih =>
    intro hi
    have e0 : ((i + 1 : Nat) : Int) - 1 = (i : Int) := by omega
    refine Ev.unroll ?_
    simp only [chattelref01_Of.l0, e0]
    refine Ev.pos (by omega) ?_
    have b0 : (dig (vW (l.drop (i + 1))).toNat).length + 40 < 549755813888 := by
      have h1 := vl_nonneg W_pos (wf_drop hl (i + 1))
      have h2 := vl_lt W_pos (wf_drop hl (i + 1))
      obtain ⟨v, hv⟩ := Int.eq_ofNat_of_zero_le h1
      rw [hv, ← Int.natCast_pow] at h2
      have h3 : v < W ^ (l.drop (i + 1)).length := Int.ofNat_lt.1 h2
      have h4 := lim_len_le h3
      have h5 := dlen_lim v
      simp only [vW]
      rw [hv, Int.toNat_natCast]
      rw [List.length_drop] at h4
      omega
    have := ROf_l1 l hl hm i (by omega) (vW (l.drop (i + 1))).toNat b0 (dig (vW l).toNat) (by rw [← drop_val l hl i (by omega)]; exact ih (by omega)) 4 (by omega)
    have e2 : (l.getD i 0).toNat / 65536 ^ 4 = 0 := by
      have h2 := wf_getD W_pos hl i
      rw [W_int] at h2
      exact Nat.div_eq_of_lt (by omega)
    rw [e2, Nat.sub_self, Nat.pow_zero, Nat.mul_one, Nat.add_zero] at this
    exact this
theorem ROf_ev (l : List Int) (hl : wfW l) (hm : l.length < 10737418240) : Ev (fun k => chattelref01_Of.f k l) (dig (vW l).toNat) := by
  unfold chattelref01_Of.f
  refine Ev.bind (Small_ev 65536 (by decide)) ?_
  rw [wrap_id (by omega)]
  have := ROf_l0 l hl hm l.length (Nat.le_refl _)
  rw [List.drop_length, show (vW ([] : List Int)).toNat = 0 from rfl, dig_zero] at this
  exact this
theorem ROf_lim (n : Nat) (hm : (lim n).length < 10737418240) : Ev (fun k => chattelref01_Of.f k (lim n)) (dig n) := by
  have := ROf_ev (lim n) (lim_wf n) hm
  rw [lim_v, Int.toNat_natCast] at this
  exact this
theorem eqI_l0 (a b : List Int) (hl : a.length = b.length) (hm : a.length < 4611686018427387904) : ∀ d i : Nat, i + d = a.length → a.take i = b.take i → ∀ k, d < k →
    slices_Equal_int_int.l0 k a b (a.length : Int) (i : Int) = some (decide (a = b)) := by
  intro d
  induction d with
  | zero =>
    intro i hi he k hk
    obtain ⟨k, rfl⟩ : ∃ m, k = m + 1 := ⟨k - 1, by omega⟩
    simp only [slices_Equal_int_int.l0]
    rw [if_neg (by omega)]
    rw [List.take_of_length_le (by omega), List.take_of_length_le (by omega)] at he
    simp [he]
  | succ d ih =>
    intro i hi he k hk
    obtain ⟨k, rfl⟩ : ∃ m, k = m + 1 := ⟨k - 1, by omega⟩
    have e1 : wrap64 ((i : Int) + 1) = ((i + 1 : Nat) : Int) := by rw [wrap_id (by omega)]; omega
    simp only [slices_Equal_int_int.l0, e1, rd_nat]
    rw [if_pos (by omega), if_pos (by omega), if_pos (by omega), if_pos (by omega)]
    by_cases h : a.getD i 0 = b.getD i 0
    · rw [if_pos h]
      refine ih (i + 1) (by omega) ?_ k (by omega)
      rw [List.take_succ_eq_append_getElem (by omega), List.take_succ_eq_append_getElem (by omega), he]
      rw [List.getD_eq_getElem?_getD, List.getD_eq_getElem?_getD, List.getElem?_eq_getElem (by omega), List.getElem?_eq_getElem (by omega)] at h
      simp only [Option.getD_some] at h
      rw [h]
    · rw [if_neg h]
      have : a ≠ b := fun e => h (by rw [e])
      simp [this]
theorem eqI_ev (a b : List Int) (hm : a.length < 4611686018427387904) : Ev (fun k => slices_Equal_int_int.f k a b) (decide (a = b)) := by
  unfold slices_Equal_int_int.f
  by_cases hl : a.length = b.length
  · refine Ev.pos (by omega) (Ev.lt a.length (fun k hk => ?_))
    exact eqI_l0 a b hl hm a.length 0 (Nat.zero_add _) rfl k hk
  · refine Ev.neg (by omega) (Ev.const ?_)
    have : a ≠ b := fun e => hl (by rw [e])
    simp [this]
theorem dby_num {H d x r : Nat} (hd : 0 < d) (hr : r = H % d) : (H * 10000 + x) / d = H / d * 10000 + (r * 10000 + x) / d ∧ (H * 10000 + x) % d = (r * 10000 + x) % d := by
  have h := Nat.div_add_mod H d
  rw [← hr] at h
  have e : H * 10000 + x = d * (H / d * 10000) + (r * 10000 + x) := by
    have : d * (H / d * 10000) = d * (H / d) * 10000 := by rw [Nat.mul_assoc]
    omega
  rw [e, Nat.mul_add_div hd, Nat.mul_add_mod]
  exact ⟨rfl, rfl⟩
theorem dm_l1 (A q : List Int) (b r i : Nat) (hb : 0 < b) (lb : (dig b).length < 1099511627700) (lr : (dig r).length < 1099511627700) {R : List Int × List Int} (hi : i < q.length) (hm : i < 4611686018427387904)
    (fin : Ev (fun k => chattelref01_DivMod.l0 k A (dig b) (q.set i ((r / b : Nat) : Int)) (dig (r % b)) ((i : Int) - 1)) R) (n : Nat) :
    ∀ low high : Nat, high - low ≤ n → low ≤ high → high ≤ 9999 → b * low ≤ r → r < b * (high + 1) → Ev (fun k => chattelref01_DivMod.l1 k A (dig b) q (dig r) (i : Int) (low : Int) (high : Int)) R := by
  induction n with
  | zero =>
    intro low high hn hlh hh h1 h2
    have he : high = low := by omega
    subst he
    have hq : r / b = high := Nat.div_eq_of_lt_le (by rw [Nat.mul_comm]; exact h1) (by rw [Nat.mul_comm]; exact h2)
    have hdm := Nat.div_add_mod r b
    rw [hq] at hdm
    have ls : (dig high).length ≤ 1 := dig_len_le (by omega)
    have l2 := dlen_mul b high
    have hsub : r - b * high = r % b := by omega
    have f1 : (i : Int) < (q.length : Int) := Int.ofNat_lt.2 hi
    have i1 : wrap64 ((i : Int) - 1) = (i : Int) - 1 := wrap_id (by omega)
    refine Ev.unroll ?_
    simp only [chattelref01_DivMod.l1, Int.toNat_natCast, i1]
    refine Ev.neg (Int.lt_irrefl _) (Ev.pos (Int.natCast_nonneg _) (Ev.pos f1 ?_))
    refine Ev.bind (Small_ev high (by omega)) ?_
    refine Ev.bind (RMul_ev b high (by omega) (by omega)) ?_
    refine Ev.bind (RSub_ev r (b * high) h1 (by omega)) ?_
    rw [hsub, ← hq]
    exact fin
  | succ n ih =>
    intro low high hn hlh hh h1 h2
    by_cases he : low = high
    · exact ih low high (by omega) hlh hh h1 h2
    · have hmid : wrap64 (Int.tdiv (wrap64 (wrap64 ((low : Int) + (high : Int)) + 1)) 2) = (((low + high + 1) / 2 : Nat) : Int) := by
        rw [wrap_id (x := (low : Int) + (high : Int)) (by omega), wrap_id (x := (low : Int) + (high : Int) + 1) (by omega), tdiv_pos (by omega), wrap_id (by omega)]
        omega
      obtain ⟨m, hm2⟩ : ∃ m, m = (low + high + 1) / 2 := ⟨_, rfl⟩
      have m1 : low < m := by omega
      have m2 : m ≤ high := by omega
      have f1 : (low : Int) < (high : Int) := by omega
      have ls : (dig m).length ≤ 1 := dig_len_le (by omega)
      have l2 := dlen_mul b m
      have hm1 : wrap64 ((m : Int) - 1) = ((m - 1 : Nat) : Int) := by rw [wrap_id (by omega)]; omega
      have g1 : high - m ≤ n := by omega
      have g2 : m - 1 - low ≤ n := by omega
      have g3 : low ≤ m - 1 := by omega
      have g4 : m - 1 ≤ 9999 := by omega
      have g5 : m - 1 + 1 = m := by omega
      have g6 : m < 9223372036854775808 := by omega
      rw [← hm2] at hmid
      refine Ev.unroll ?_
      simp only [chattelref01_DivMod.l1, hmid, hm1]
      clear hmid hm1 hm2
      refine Ev.pos f1 ?_
      refine Ev.bind (Small_ev m g6) ?_
      refine Ev.bind (RMul_ev b m (by omega) (by omega)) ?_
      refine Ev.bind (RCmp_ev (b * m) r (by omega) (by omega)) ?_
      by_cases hc : b * m ≤ r
      · refine Ev.pos (by unfold sg; split <;> (try split) <;> omega) ?_
        exact ih m high g1 m2 hh hc h2
      · refine Ev.neg (by unfold sg; rw [if_neg (by omega), if_neg (by omega)]; decide) ?_
        exact ih low (m - 1) g2 g3 g4 h1 (by rw [g5]; omega)
theorem dig_len_gen (h x T : Nat) (h3 : (dig T).length ≤ 2) (h4 : (dig x).length ≤ 1) : (dig (h * T + x)).length ≤ (dig h).length + 3 := by
  have a1 := dlen_add (h * T) x
  have a2 := dlen_mul h T
  omega
theorem dig_len_step (h x : Nat) (hx : x < 10000) : (dig (h * 10000 + x)).length ≤ (dig h).length + 3 := dig_len_gen h x 10000 (dig_len_le (by decide)) (dig_len_le (by omega))
theorem dm_l0 (A : List Int) (hA : wfD A) (hm : A.length < 1099511627000) (b : Nat) (hb : 0 < b) (lb : (dig b).length < 1099511627000) : ∀ i : Nat, i ≤ A.length → ∀ q : List Int, wfD q → q.length = A.length → ∀ H : Nat, vD (A.drop i) = H → vD (q.drop i) = ((H / b : Nat) : Int) →
    Ev (fun k => chattelref01_DivMod.l0 k A (dig b) q (dig (H % b)) ((i : Int) - 1)) (dig ((vD A).toNat / b), dig ((vD A).toNat % b)) := by
  intro i
  induction i with
  | zero =>
    intro _ q hq hql H hH hv
    rw [List.drop_zero] at hH hv
    refine Ev.unroll ?_
    simp only [chattelref01_DivMod.l0]
    refine Ev.neg (by omega) ?_
    have := Trim_ev q hq (by omega)
    rw [hv, Int.toNat_natCast] at this
    refine Ev.bind this (Ev.const ?_)
    rw [hH, Int.toNat_natCast]
  | succ i ih =>
    intro hi q hq hql H hH hv
    have wl := wf_getD D_pos hA i
    rw [D_int] at wl
    obtain ⟨x, hx⟩ := Int.eq_ofNat_of_zero_le wl.1
    rw [hx] at wl
    have hr := Nat.mod_lt H hb
    obtain ⟨n1, n2⟩ := dby_num (H := H) (x := x) hb rfl
    have hlt : (H % b * 10000 + x) / b < 10000 := by
      refine (Nat.div_lt_iff_lt_mul hb).2 ?_
      have : (H % b + 1) * 10000 ≤ b * 10000 := Nat.mul_le_mul_right _ hr
      omega
    have hH' : vD (A.drop i) = ((H * 10000 + x : Nat) : Int) := by
      show vl _ _ = _
      rw [vl_drop _ _ _ (by omega), hx]
      simp only [vD] at hH
      rw [hH, D_int]
      omega
    have hv' : vD ((q.set i ((H % b * 10000 + x) / b : Nat)).drop i) = (((H * 10000 + x) / b : Nat) : Int) := by
      show vl _ _ = _
      rw [vl_drop _ _ _ (by rw [List.length_set]; omega), getD_set_self _ _ _ _ (by omega), drop_set_self]
      simp only [vD] at hv
      rw [hv, n1, D_int]
      omega
    have hnext := ih (by omega) (q.set i ((H % b * 10000 + x) / b : Nat)) (wf_set hq _ ⟨Int.natCast_nonneg _, Int.ofNat_lt.2 hlt⟩) (by rw [List.length_set, hql]) (H * 10000 + x) hH' hv'
    rw [n2] at hnext
    have e0 : ((i + 1 : Nat) : Int) - 1 = (i : Int) := by omega
    have l1 : (dig (H % b)).length ≤ (dig b).length := dlen_mono (Nat.le_of_lt hr)
    have wr : wfD ([(x : Int)] ++ dig (H % b)) := wf_append (fun y hy => by rw [List.mem_singleton.1 hy]; exact ⟨Int.natCast_nonneg _, by rw [D_int]; exact wl.2⟩) (dig_wf _)
    have ht := Trim_ev ([(x : Int)] ++ dig (H % b)) wr (by simp; omega)
    have hvt : (vD ([(x : Int)] ++ dig (H % b))).toNat = H % b * 10000 + x := by
      have h1 := dig_v (H % b)
      show (vl _ _).toNat = _
      rw [vl_append]
      simp only [vD] at h1
      rw [h1, show vl ((10000 : Nat) : Int) [(x : Int)] = (x : Int) from by rw [vl, vl, Int.mul_zero, Int.add_zero], show ([(x : Int)] : List Int).length = 1 from rfl, Int.pow_one, D_int]
      clear h1 ht wr
      omega
    rw [hvt] at ht
    have l3 : (dig (H % b * 10000 + x)).length ≤ (dig b).length + 3 := Nat.le_trans (dig_len_step (H % b) x (by omega)) (Nat.add_le_add_right l1 3)
    have hub : H % b * 10000 + x < b * (9999 + 1) := by
      have : (H % b + 1) * 10000 ≤ b * 10000 := Nat.mul_le_mul_right _ hr
      omega
    have f1 : (i : Int) < (A.length : Int) := by omega
    have f2 : ([(x : Int)] : List Int).length + (dig (H % b)).length < 17592186044416 := by simp; omega
    refine Ev.unroll ?_
    simp only [chattelref01_DivMod.l0, e0, rd_nat, hx]
    refine Ev.pos (Int.natCast_nonneg _) (Ev.pos (Int.natCast_nonneg _) (Ev.pos f1 ?_))
    refine Ev.bindc rfl (Ev.pos f2 ?_)
    refine Ev.bind ht ?_
    exact dm_l1 A q b (H % b * 10000 + x) i hb (by omega) (by omega) (by omega) (by omega) hnext 9999 0 9999 (by omega) (by omega) (by omega) (by omega) hub
theorem divmod_ev (a b : Nat) (hb : 0 < b) (la : (dig a).length < 1099511627000) (lb : (dig b).length < 1099511627000) : Ev (fun k => chattelref01_DivMod.f k (dig a) (dig b)) (dig (a / b), dig (a % b)) := by
  have h0 : vD ((dig a).drop (dig a).length) = ((0 : Nat) : Int) := by rw [List.drop_length]; rfl
  have h1 : vD ((List.replicate (dig a).length (0 : Int)).drop (dig a).length) = ((0 / b : Nat) : Int) := by
    rw [List.drop_of_length_le (by simp), Nat.zero_div]
    rfl
  have := dm_l0 (dig a) (dig_wf a) la b hb lb (dig a).length (Nat.le_refl _) (List.replicate (dig a).length 0) (wf_replicate D_pos _) List.length_replicate 0 h0 h1
  rw [dig_v, Int.toNat_natCast, Nat.zero_mod, dig_zero] at this
  unfold chattelref01_DivMod.f
  rw [Int.toNat_natCast, wrap_id (x := ((dig a).length : Int) - 1) (by omega)]
  exact Ev.pos (Int.natCast_nonneg _) (Ev.pos (by omega) this)
theorem val10 {l : List Int} {a n : Nat} (h1 : vW l = a) (h2 : wfW l) (h3 : l.length ≤ n) (hn : n < 10737418240) : Ev (fun k => chattelref01_Of.f k l) (dig a) := by
  have := ROf_ev l h2 (by omega)
  rw [h1, Int.toNat_natCast] at this
  exact this
theorem same02 (n m : Nat) (hn : (lim n).length < 10737418240) (hd : (dig n).length < 4611686018427387904) : Ev (fun k => chattellaw02_same.f k (lim n) (dig m)) (decide (n = m)) := by
  unfold chattellaw02_same.f
  refine Ev.bindc (limbs_eq _ (by omega)) ?_
  refine Ev.bind (ROf_lim n hn) ?_
  refine Ev.bind (eqI_ev (dig n) (dig m) hd) (Ev.const ?_)
  congr 1
  rw [decide_eq_decide]
  exact ⟨fun h => dig_inj h, fun h => by rw [h]⟩
theorem dgcd_ev (b : Nat) : ∀ a : Nat, (dig a).length < 1099511627000 → (dig b).length < 1099511627000 → Ev (fun k => chattelref02_Gcd.f k (dig a) (dig b)) (dig (Nat.gcd a b)) := by
  unfold chattelref02_Gcd.f
  induction b using Nat.strongRecOn with
  | _ b ih =>
    intro a la lb
    refine Ev.unroll ?_
    simp only [chattelref02_Gcd.l0]
    by_cases h : b = 0
    · subst h
      rw [dig_zero]
      refine Ev.neg (by simp) (Ev.const ?_)
      rw [Nat.gcd_zero_right]
    · have hl : (dig b).length ≠ 0 := fun h2 => h (dig_nil.1 h2)
      refine Ev.pos (by omega) ?_
      refine Ev.bind (divmod_ev a b (Nat.pos_of_ne_zero h) la lb) ?_
      have hm := Nat.mod_lt a (Nat.pos_of_ne_zero h)
      have := ih (a % b) hm b lb (Nat.lt_of_le_of_lt (dlen_mono (Nat.le_of_lt hm)) lb)
      rw [show Nat.gcd a b = Nat.gcd b (a % b) by rw [Nat.gcd_comm a b, Nat.gcd_rec b a, Nat.gcd_comm]]
      exact this
end Go.Proofs.YtebjbmgfbejapaaM
end
