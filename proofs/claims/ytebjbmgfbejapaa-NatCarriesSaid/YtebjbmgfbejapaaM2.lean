/- Layer 1 (nat), on: order, differences, products, bits. -/
import Derived.Test.YtebjbmgfbejapaaF10
import Derived.Test.YtebjbmgfbejapaaF11
import Derived.Test.YtebjbmgfbejapaaF12
import Derived.Test.YtebjbmgfbejapaaF13
import Derived.Test.YtebjbmgfbejapaaF14
import Derived.Test.YtebjbmgfbejapaaF26
import Derived.Test.YtebjbmgfbejapaaF30
import Derived.Test.YtebjbmgfbejapaaM1
import Derived.Laws.Bits64b
namespace Go.Proofs.YtebjbmgfbejapaaM
open Go.RowKit Go.Proofs.YtebjbmgfbejapaaW.PrintWords Go.Proofs.YtebjbmgfbejapaaW.PrintLast Go.Proofs.YtebjbmgfbejapaaW.PrintMore Go.Proofs.YtebjbmgfbejapaaX Go.Proofs.Ytebjbmgfbejapaa.F
set_option linter.unusedVariables false
set_option linter.unusedSimpArgs false

/-- -1, 0 or 1. -/
def sg (a b : Nat) : Int := if a < b then -1 else if a = b then 0 else 1
theorem cmpI (a b : Int) : cmp_Compare_int.f a b = some (if a < b then -1 else if a = b then 0 else 1) := by
  unfold cmp_Compare_int.f cmp_isNaN_int.f
  simp only [Option.bind_some, bne_self_eq_false, Bool.false_eq_true, if_false]
  by_cases h : a < b
  · simp [h]
  · by_cases h2 : a > b
    · rw [if_neg h, if_pos h2, if_neg h, if_neg (by omega)]
    · rw [if_neg h, if_neg h2, if_neg h, if_pos (by omega)]
theorem cmpU (a b : Int) : cmp_Compare_uint64.f a b = some (if a < b then -1 else if a = b then 0 else 1) := by
  unfold cmp_Compare_uint64.f cmp_isNaN_uint64.f
  simp only [Option.bind_some, bne_self_eq_false, Bool.false_eq_true, if_false]
  by_cases h : a < b
  · simp [h]
  · by_cases h2 : a > b
    · rw [if_neg h, if_pos h2, if_neg h, if_neg (by omega)]
    · rw [if_neg h, if_neg h2, if_neg h, if_pos (by omega)]
/-- The same order by highest digits first. -/
theorem sg_step {B : Int} (hB : 0 < B) {a b : List Int} (ha : wf B a) (hb : wf B b) (i : Nat) (heq : vl B (a.take (i + 1)) < vl B (b.take (i + 1)) ↔ vl B a < vl B b)
    (heq2 : vl B (a.take (i + 1)) = vl B (b.take (i + 1)) ↔ vl B a = vl B b) (hla : i < a.length) (hlb : i < b.length) :
    (a.getD i 0 < b.getD i 0 → vl B a < vl B b) ∧ (b.getD i 0 < a.getD i 0 → vl B b < vl B a) ∧
    (a.getD i 0 = b.getD i 0 → (vl B (a.take i) < vl B (b.take i) ↔ vl B a < vl B b) ∧ (vl B (a.take i) = vl B (b.take i) ↔ vl B a = vl B b)) := by
  have h1 := vl_lt hB (wf_take ha i)
  have h2 := vl_lt hB (wf_take hb i)
  have h3 := vl_nonneg hB (wf_take ha i)
  have h4 := vl_nonneg hB (wf_take hb i)
  rw [List.length_take, Nat.min_eq_left (Nat.le_of_lt hla)] at h1
  rw [List.length_take, Nat.min_eq_left (Nat.le_of_lt hlb)] at h2
  rw [vl_take_succ, vl_take_succ] at heq heq2
  generalize vl B (a.take i) = p at *
  generalize vl B (b.take i) = q at *
  generalize hx : a.getD i 0 = x at *
  generalize hy : b.getD i 0 = y at *
  generalize B ^ i = m at *
  have hm : 0 < m := by omega
  have key : ∀ s t : Int, s < t → m * s + m ≤ m * t := fun s t hst => by
    have := Int.mul_le_mul_of_nonneg_left (show s + 1 ≤ t by omega) (Int.le_of_lt hm)
    rwa [Int.mul_add, Int.mul_one] at this
  refine ⟨fun h => ?_, fun h => ?_, fun h => ?_⟩
  · have := key x y h; exact heq.1 (by omega)
  · have := key y x h
    have h5 : ¬ vl B a < vl B b := fun h => by have := heq.2 h; omega
    have h6 : ¬ vl B a = vl B b := fun h => by have := heq2.2 h; omega
    omega
  · subst h
    exact ⟨⟨fun h => heq.1 (by omega), fun h => by have := heq.2 h; omega⟩, ⟨fun h => heq2.1 (by omega), fun h => by have := heq2.2 h; omega⟩⟩
theorem cmp_l0 (a b : List Int) (ha : wfW a) (hb : wfW b) (hl : a.length = b.length) (hm : a.length < 4611686018427387904) : ∀ n : Nat, n ≤ a.length →
    (vW (a.take n) < vW (b.take n) ↔ vW a < vW b) → (vW (a.take n) = vW (b.take n) ↔ vW a = vW b) → ∀ k, n < k → nat_Nat_Cmp.l0 k ((n : Int) - 1) a b = some (if vW a < vW b then -1 else if vW a = vW b then 0 else 1) := by
  intro n
  induction n with
  | zero =>
    intro hn h1 h2 k hk
    obtain ⟨k, rfl⟩ : ∃ m, k = m + 1 := ⟨k - 1, by omega⟩
    simp only [nat_Nat_Cmp.l0]
    rw [if_neg (by omega)]
    have h3 : vW a = vW b := h2.1 rfl
    rw [if_neg (by omega), if_pos h3]
  | succ n ih =>
    intro hn h1 h2 k hk
    obtain ⟨k, rfl⟩ : ∃ m, k = m + 1 := ⟨k - 1, by omega⟩
    have e1 : ((n + 1 : Nat) : Int) - 1 = (n : Int) := by omega
    have e2 : wrap64 ((n : Int) - 1) = (n : Int) - 1 := wrap_id (by omega)
    simp only [nat_Nat_Cmp.l0, e1, e2, rd_nat, cmpU, Option.bind_some]
    rw [if_pos (by omega), if_pos (by omega), if_pos (by omega), if_pos (by omega)]
    obtain ⟨s1, s2, s3⟩ := sg_step W_pos ha hb n h1 h2 (by omega) (by omega)
    by_cases c1 : a.getD n 0 < b.getD n 0
    · have := s1 c1
      rw [if_pos c1, if_neg (by decide), if_pos this]
    · by_cases c2 : a.getD n 0 = b.getD n 0
      · rw [if_neg c1, if_pos c2, if_pos rfl]
        exact ih (by omega) (s3 c2).1 (s3 c2).2 k (by omega)
      · have := s2 (by omega)
        simp only [vW]
        rw [if_neg c1, if_neg c2, if_neg (by decide), if_neg (by omega), if_neg (by omega)]
theorem lim_len_lt {a b : Nat} (h : (lim a).length < (lim b).length) : a < b := by
  have h1 := dg_lt W2 a
  have h2 : b ≠ 0 := fun h0 => by subst h0; unfold lim at h; rw [dg_zero] at h; simp at h
  have h3 := dg_le W2 h2
  have h4 : W ^ (dg W a).length ≤ W ^ ((dg W b).length - 1) := Nat.pow_le_pow_right (by decide) (by unfold lim at h; omega)
  omega
theorem cmp_ev (a b : Nat) (ha : (lim a).length < 4611686018427387904) (hb : (lim b).length < 4611686018427387904) : Ev (fun k => nat_Nat_Cmp.f k (lim a) (lim b)) (sg a b) := by
  unfold nat_Nat_Cmp.f
  simp only [cmpI, Option.bind_some]
  rcases Nat.lt_trichotomy (lim a).length (lim b).length with h | h | h
  · have := lim_len_lt h
    rw [if_pos (by omega)]
    refine Ev.neg (by decide) (Ev.const ?_)
    unfold sg; rw [if_pos this]
  · rw [if_neg (by omega), if_pos (by omega)]
    refine Ev.pos rfl (Ev.lt (lim a).length (fun k hk => ?_))
    rw [wrap_id (by omega)]
    rw [cmp_l0 (lim a) (lim b) (lim_wf a) (lim_wf b) h ha (lim a).length (Nat.le_refl _) (by rw [List.take_of_length_le (Nat.le_refl _), List.take_of_length_le (by omega)]) (by rw [List.take_of_length_le (Nat.le_refl _), List.take_of_length_le (by omega)]) k hk]
    rw [lim_v, lim_v]
    unfold sg
    congr 1
    by_cases h1 : a < b
    · rw [if_pos h1, if_pos (by omega)]
    · rw [if_neg h1, if_neg (by omega)]
      by_cases h2 : a = b
      · rw [if_pos h2, if_pos (by omega)]
      · rw [if_neg h2, if_neg (by omega)]
  · have := lim_len_lt h
    rw [if_neg (by omega), if_neg (by omega)]
    refine Ev.neg (by decide) (Ev.const ?_)
    unfold sg; rw [if_neg (by omega), if_neg (by omega)]

/-- What stands in x behind i rounds of Sub. -/
structure SubInv (a b x : List Int) (c : Int) (n i : Nat) : Prop where
  w : wfW x
  len : x.length = n
  c0 : 0 ≤ c ∧ c ≤ 1
  z : ∀ j, i ≤ j → x.getD j 0 = 0
  v : vW x - c * ((W : Nat) : Int) ^ i = vW (a.take i) - vW (b.take i)
theorem sub_l0 (a b : List Int) (ha : wfW a) (hb : wfW b) (hn : a.length < 4611686018427387904) (hn2 : b.length ≤ a.length) (hle : vW b ≤ vW a) :
    ∀ d i : Nat, i + d = a.length → ∀ x c, SubInv a b x c a.length i → Ev (fun k => nat_Nat_Sub.l0 k x c (a.length : Int) (i : Int) a b) (lim (vW a - vW b).toNat, true) := by
  intro d
  induction d with
  | zero =>
    intro i hi x c h
    have hi' : i = a.length := by omega
    subst hi'
    refine Ev.unroll ?_
    simp only [nat_Nat_Sub.l0]
    refine Ev.neg (by omega) ?_
    have hv := h.v
    rw [show vW (a.take a.length) = vW a from vl_take_ge _ _ _ (by omega), show vW (b.take a.length) = vW b from vl_take_ge _ _ _ (by omega)] at hv
    have hc : c = 0 := by
      have h1 := vl_lt W_pos h.w
      rw [h.len] at h1
      rcases Int.le_iff_lt_or_eq.1 h.c0.1 with h8 | h8
      · have h9 : c = 1 := by have := h.c0.2; omega
        rw [h9] at hv
        simp only [vW] at hv hle
        omega
      · exact h8.symm
    rw [hc, Int.zero_mul, Int.sub_zero] at hv
    rw [← hv]
    exact Ev.bind (f := fun _ t => some (t, true)) (trimmed_ev x h.w (by rw [h.len]; exact hn)) (Ev.now _)
  | succ d ih =>
    intro i hi x c h
    refine Ev.unroll ?_
    simp only [nat_Nat_Sub.l0]
    refine Ev.pos (by omega) (Ev.pos (by omega) (Ev.pos (by omega) ?_))
    have e1 : wrap64 ((i : Int) + 1) = ((i + 1 : Nat) : Int) := by rw [wrap_id (by omega)]; omega
    simp only [limb_eq, Option.bind_some, e1, Int.toNat_natCast, rd_nat]
    refine Ev.pos h.c0.2 (Ev.pos (by rw [h.len]; omega) ?_)
    have wa := wf_getD W_pos ha i
    have wb := wf_getD W_pos hb i
    obtain ⟨s1, s2, s3⟩ := sub64_b wa wb h.c0
    refine ih (i + 1) (by omega) _ _ ⟨wf_set h.w i s1, by rw [List.length_set, h.len], s2, fun j hj => by rw [getD_set_ne _ _ _ _ _ (by omega)]; exact h.z j (by omega), ?_⟩
    have hv := h.v
    show vl _ _ - _ = vl _ _ - vl _ _
    rw [vl_set _ _ _ _ (by rw [h.len]; omega), h.z i (Nat.le_refl i), vl_take_succ, vl_take_succ, Int.pow_succ, Int.sub_zero]
    simp only [vW] at hv
    generalize ((W : Nat) : Int) ^ i = p at *
    generalize sub64d (a.getD i 0) (b.getD i 0) c = s at *
    generalize sub64b (a.getD i 0) (b.getD i 0) c = q at *
    have e2 : p * (s - 18446744073709551616 * q) = p * (a.getD i 0 - b.getD i 0 - c) := by rw [s3]
    simp only [W_int] at *
    grind
theorem sub_ev (a b : Nat) (la : (lim a).length ≤ 1099511627776) (lb : (lim b).length ≤ 1099511627776) : Ev (fun k => nat_Nat_Sub.f k (lim a) (lim b)) (if a < b then ([], false) else (lim (a - b), true)) := by
  unfold nat_Nat_Sub.f
  refine Ev.bind (f := fun k t378 => if t378 < 0 then some (([] : List Int), false) else _) (cmp_ev a b (by omega) (by omega)) ?_
  unfold sg
  by_cases h : a < b
  · rw [if_pos h, if_pos h]
    exact Ev.pos (by decide) (Ev.now _)
  · rw [if_neg h, if_neg h]
    refine Ev.neg (by split <;> decide) (Ev.pos (by omega) (Ev.pos (by omega) ?_))
    simp only [Option.bind_some, List.length_replicate, Int.toNat_natCast]
    have hlen : (lim b).length ≤ (lim a).length := by
      rcases Nat.lt_or_ge (lim a).length (lim b).length with h1 | h1
      · exact absurd (lim_len_lt h1) h
      · exact h1
    have := sub_l0 (lim a) (lim b) (lim_wf a) (lim_wf b) (by omega) hlen (by rw [lim_v, lim_v]; omega) _ 0 (Nat.zero_add _) _ _ (⟨wf_replicate W_pos _, List.length_replicate, by omega, fun j _ => by rw [List.getD_eq_getElem?_getD, List.getElem?_replicate]; split <;> rfl, by show vl _ _ - _ = vl _ _ - vl _ _; rw [vl_replicate]; rfl⟩ : SubInv (lim a) (lim b) (List.replicate (lim a).length 0) 0 (lim a).length 0)
    rw [lim_v, lim_v, show ((a : Int) - (b : Int)).toNat = a - b by omega] at this
    exact this

/-! products -/
theorem mask32 (a : Nat) (ha : a < 18446744073709551616) : bits .and .u64 (a : Int) 4294967295 = ((a % 4294967296 : Nat) : Int) := by
  rw [show (4294967295 : Int) = ((4294967295 : Nat) : Int) from rfl, bits_and_u64_nat a 4294967295 ha (by decide)]
  congr 1
  exact Nat.and_two_pow_sub_one_eq_mod a 32
theorem wrapN (a : Nat) (ha : a < 18446744073709551616) : IntKind.u64.wrap (a : Int) = (a : Int) := u64_id (by omega)
theorem mul64_eq (x y : Nat) (hx : x < 18446744073709551616) (hy : y < 18446744073709551616) : bits_Mul64.f (x : Int) (y : Int) = some (((x * y / 18446744073709551616 : Nat) : Int), ((x * y % 18446744073709551616 : Nat) : Int)) := by
  unfold bits_Mul64.f
  have d32 : ∀ a : Nat, (a : Int) / 4294967296 = ((a / 4294967296 : Nat) : Int) := fun a => by omega
  generalize hx1 : x / 4294967296 = x1
  generalize hx0 : x % 4294967296 = x0
  generalize hy1 : y / 4294967296 = y1
  generalize hy0 : y % 4294967296 = y0
  have bx1 : x1 ≤ 4294967295 := by omega
  have bx0 : x0 ≤ 4294967295 := by omega
  have by1 : y1 ≤ 4294967295 := by omega
  have by0 : y0 ≤ 4294967295 := by omega
  have bd : ∀ {a b : Nat}, a ≤ 4294967295 → b ≤ 4294967295 → a * b ≤ 18446744065119617025 := fun ha hb => Nat.mul_le_mul ha hb
  have p11 := bd bx1 by1
  have p10 := bd bx1 by0
  have p01 := bd bx0 by1
  have p00 := bd bx0 by0
  have ex : x = x1 * 4294967296 + x0 := by omega
  have ey : y = y1 * 4294967296 + y0 := by omega
  have emul : x * y = x1 * y1 * 18446744073709551616 + (x1 * y0 + x0 * y1) * 4294967296 + x0 * y0 := by
    rw [ex, ey]; grind
  simp only [d32, mask32 x hx, mask32 y hy, hx1, hx0, hy1, hy0, ← Int.natCast_mul]
  rw [wrapN (x1 * y1) (by omega), wrapN (x1 * y0) (by omega), wrapN (x0 * y0) (by omega), wrapN (x0 * y1) (by omega)]
  simp only [d32, ← Int.natCast_add]
  rw [wrapN (x1 * y0 + x0 * y0 / 4294967296) (by omega), mask32 _ (by omega)]
  simp only [d32, ← Int.natCast_add]
  rw [wrapN (x1 * y1 + (x1 * y0 + x0 * y0 / 4294967296) / 4294967296) (by omega), wrapN ((x1 * y0 + x0 * y0 / 4294967296) % 4294967296 + x0 * y1) (by omega)]
  simp only [d32, ← Int.natCast_add]
  rw [wrapN _ (by omega), u64_wrap, emul]
  congr 2
  · congr 1
    generalize x1 * y1 = a at *
    generalize x1 * y0 = b at *
    generalize x0 * y1 = c at *
    generalize x0 * y0 = d at *
    omega
end Go.Proofs.YtebjbmgfbejapaaM
