/- Layer 1 (nat) as plain functions: what each comes to, told of the numbers that limbs stand for. -/
import Derived.Test.YtebjbmgfbejapaaF1
import Derived.Test.YtebjbmgfbejapaaF15
import Derived.Test.YtebjbmgfbejapaaF16
import Derived.Test.YtebjbmgfbejapaaF2
import Derived.Test.YtebjbmgfbejapaaF3
import Derived.Test.YtebjbmgfbejapaaF4
import Derived.Test.YtebjbmgfbejapaaF5
import Derived.Test.YtebjbmgfbejapaaF7
import Derived.Test.YtebjbmgfbejapaaM0
import Derived.Laws.Bits64b
namespace Go.Proofs.YtebjbmgfbejapaaM
open Go.RowKit Go.Proofs.YtebjbmgfbejapaaW.PrintWords Go.Proofs.YtebjbmgfbejapaaW.PrintLast Go.Proofs.YtebjbmgfbejapaaW.PrintMore Go.Proofs.YtebjbmgfbejapaaX Go.Proofs.Ytebjbmgfbejapaa.F
set_option linter.unusedVariables false
set_option linter.unusedSimpArgs false

/-! rounds -/
theorem Ev.unroll {α : Type} {g : Nat → Option α} {r : α} (h : Ev (fun k => g (k + 1)) r) : Ev g r := Ev.step (fun _ => rfl) h
theorem Ev.pos {α : Type} {a b : Nat → Option α} {r : α} {c : Prop} [Decidable c] (h : c) (e : Ev a r) : Ev (fun k => if c then a k else b k) r := by
  simp only [if_pos h]; exact e
theorem Ev.neg {α : Type} {a b : Nat → Option α} {r : α} {c : Prop} [Decidable c] (h : ¬ c) (e : Ev b r) : Ev (fun k => if c then a k else b k) r := by
  simp only [if_neg h]; exact e
theorem Ev.const {α : Type} {a : Option α} {r : α} (h : a = some r) : Ev (fun _ => a) r := ⟨0, fun _ _ => h⟩
theorem Ev.bindc {α β : Type} {a : Option α} {x : α} {f : Nat → α → Option β} {r : β} (h : a = some x) (e : Ev (fun k => f k x) r) : Ev (fun k => a.bind (f k)) r := by
  subst h; exact e
theorem Ev.lt {α : Type} {g : Nat → Option α} {r : α} (n : Nat) (h : ∀ k, n < k → g k = some r) : Ev g r := ⟨n + 1, fun k hk => h k hk⟩

theorem cut12 (l : List Int) : chattellaw01_cut.f l = some (l.take 12) := by
  unfold chattellaw01_cut.f
  rw [mn_eq, if_pos (by omega), if_pos (by omega)]
  congr 1
  rcases Nat.lt_or_ge l.length 12 with h | h
  · rw [List.take_of_length_le (by omega), List.take_of_length_le (by omega)]
  · rw [show (min (l.length : Int) 12).toNat = 12 by omega]
theorem clone_eq (l : List Int) (h : l.length < 17592186044416) : slices_Clone_uint64_uint64.f l = some l := by
  unfold slices_Clone_uint64_uint64.f
  simp [h]
theorem limbs_eq (l : List Int) (h : l.length < 17592186044416) : nat_Nat_Limbs.f l = some l := by
  unfold nat_Nat_Limbs.f
  rw [clone_eq l h]
  rfl

abbrev W : Nat := 18446744073709551616
theorem W2 : 2 ≤ W := by decide
/-- A number's limbs. -/
def lim (n : Nat) : List Int := dg W n
abbrev wfW (l : List Int) : Prop := wf ((W : Nat) : Int) l
abbrev vW (l : List Int) : Int := vl ((W : Nat) : Int) l
theorem W_pos : (0 : Int) < ((W : Nat) : Int) := by decide
theorem W_int : ((W : Nat) : Int) = 18446744073709551616 := rfl

theorem trimmed_l0 (x : List Int) (hx : wfW x) (hl : x.length < 4611686018427387904) : ∀ n : Nat, n ≤ x.length → vW (x.take n) = vW x → ∀ k, n < k → nat_trimmed.l0 k x (n : Int) = some (lim (vW x).toNat) := by
  intro n
  induction n with
  | zero =>
    intro hn hv k hk
    obtain ⟨k, rfl⟩ : ∃ m, k = m + 1 := ⟨k - 1, by omega⟩
    simp only [nat_trimmed.l0]
    rw [if_neg (by omega), if_pos (by omega), if_pos (by omega)]
    have : vW x = 0 := by rw [← hv]; rfl
    rw [this]
    show some (x.take 0) = some (dg W 0)
    rw [dg_zero]
    rfl
  | succ n ih =>
    intro hn hv k hk
    obtain ⟨k, rfl⟩ : ∃ m, k = m + 1 := ⟨k - 1, by omega⟩
    have e1 : wrap64 (((n + 1 : Nat) : Int) - 1) = (n : Int) := by rw [wrap_id (by omega)]; omega
    simp only [nat_trimmed.l0]
    rw [if_pos (by omega), e1, if_pos (by omega), if_pos (by omega), rd_nat]
    by_cases h0 : x.getD n 0 = 0
    · rw [if_pos h0]
      refine ih (by omega) ?_ k (by omega)
      rw [← hv]
      show vl _ _ = vl _ _
      rw [vl_take_succ, h0, Int.mul_zero, Int.add_zero]
    · rw [if_neg h0, if_pos (by omega), if_pos (by omega), Int.toNat_natCast]
      have h1 := dg_of W2 (wf_take hx (n + 1)) (fun hne => by
        have h2 : (x.take (n + 1)).getLast hne = x.getD n 0 := by
          have h3 : (x.take (n + 1)).length = n + 1 := by rw [List.length_take]; omega
          rw [List.getLast_eq_getElem, List.getElem_take, List.getD_eq_getElem?_getD, List.getElem?_eq_getElem (by omega)]
          simp [h3]
        rw [h2]; exact h0)
      rw [← h1]
      show some (lim _) = _
      rw [show vl ((W : Nat) : Int) (x.take (n + 1)) = vW x from hv]
theorem trimmed_ev (x : List Int) (hx : wfW x) (hl : x.length < 4611686018427387904) : Ev (fun k => nat_trimmed.f k x) (lim (vW x).toNat) := by
  refine Ev.lt x.length (fun k hk => ?_)
  unfold nat_trimmed.f
  exact trimmed_l0 x hx hl x.length (Nat.le_refl _) (vl_take_ge _ _ _ (Nat.le_refl _)) k hk
theorem of_ev (l : List Int) (hx : wfW l) (h : l.length < 17592186044416) : Ev (fun k => nat_Of.f k l) (lim (vW l).toNat) := by
  unfold nat_Of.f
  rw [clone_eq l h]
  exact Ev.bind (f := fun _ t => some t) (trimmed_ev l hx (by omega)) (Ev.now _)
theorem lim_wf (n : Nat) : wfW (lim n) := dg_wf W2 n
theorem lim_v (n : Nat) : vW (lim n) = n := dg_vl W2 n
theorem zero_eq (n : Nat) : nat_Nat_Zero.f (lim n) = some (decide (n = 0)) := by
  unfold nat_Nat_Zero.f
  congr 1
  by_cases h : n = 0
  · subst h; unfold lim; rw [dg_zero]; rfl
  · unfold lim; rw [dg_pos W2 h]; simp [h]; omega

theorem limb_eq (l : List Int) (i : Nat) : nat_Nat_limb.f l (i : Int) = some (l.getD i 0) := by
  unfold nat_Nat_limb.f
  by_cases h : l.length ≤ i
  · rw [if_pos (by omega), List.getD_eq_getElem?_getD, List.getElem?_eq_none h]; rfl
  · rw [if_neg (by omega), if_pos (by omega), if_pos (by omega), rd_nat]

theorem add64 {x y c : Int} (hx : 0 ≤ x) (hy : 0 ≤ y) (hc : 0 ≤ c) : add64s x y c = (x + y + c) % 18446744073709551616 ∧ add64c x y c = (x + y + c) / 18446744073709551616 := by
  unfold add64s add64c
  omega
theorem add64_b {x y c : Int} (hx : 0 ≤ x ∧ x < 18446744073709551616) (hy : 0 ≤ y ∧ y < 18446744073709551616) (hc : 0 ≤ c ∧ c ≤ 1) :
    (0 ≤ add64s x y c ∧ add64s x y c < 18446744073709551616) ∧ (0 ≤ add64c x y c ∧ add64c x y c ≤ 1) ∧ add64s x y c + 18446744073709551616 * add64c x y c = x + y + c := by
  obtain ⟨h1, h2⟩ := add64 hx.1 hy.1 hc.1
  rw [h1, h2]
  omega
theorem sub64_b {x y c : Int} (hx : 0 ≤ x ∧ x < 18446744073709551616) (hy : 0 ≤ y ∧ y < 18446744073709551616) (hc : 0 ≤ c ∧ c ≤ 1) :
    (0 ≤ sub64d x y c ∧ sub64d x y c < 18446744073709551616) ∧ (0 ≤ sub64b x y c ∧ sub64b x y c ≤ 1) ∧ sub64d x y c - 18446744073709551616 * sub64b x y c = x - y - c := by
  unfold sub64d sub64b
  split <;> omega

/-- What stands in x5 behind i rounds of Add. -/
structure AddInv (a b x : List Int) (c : Int) (n i : Nat) : Prop where
  w : wfW x
  len : x.length = n
  c0 : 0 ≤ c ∧ c ≤ 1
  z : ∀ j, i ≤ j → x.getD j 0 = 0
  v : vW x + c * ((W : Nat) : Int) ^ i = vW (a.take i) + vW (b.take i)
theorem add_l0 (a b : List Int) (ha : wfW a) (hb : wfW b) (n : Nat) (hn : n < 4611686018427387904) (hn2 : a.length + 1 ≤ n ∧ b.length + 1 ≤ n) :
    ∀ d i : Nat, i + d = n → ∀ x c, AddInv a b x c n i → Ev (fun k => nat_Nat_Add.l0 k x c (n : Int) (i : Int) a b) (lim (vW a + vW b).toNat) := by
  intro d
  induction d with
  | zero =>
    intro i hi x c h
    have hi' : i = n := by omega
    subst hi'
    refine Ev.unroll ?_
    simp only [nat_Nat_Add.l0]
    refine Ev.neg (by omega) ?_
    have hv := h.v
    rw [show vW (a.take i) = vW a from vl_take_ge _ _ _ (by omega), show vW (b.take i) = vW b from vl_take_ge _ _ _ (by omega)] at hv
    have hc : c = 0 := by
      have h1 := vl_lt W_pos ha
      have h2 := vl_lt W_pos hb
      have h3 := vl_nonneg W_pos h.w
      have h4 : ((W : Nat) : Int) ^ a.length ≤ ((W : Nat) : Int) ^ (i - 1) := by
        rw [← Int.natCast_pow, ← Int.natCast_pow]; exact Int.ofNat_le.2 (Nat.pow_le_pow_right (by decide) (by omega))
      have h5 : ((W : Nat) : Int) ^ b.length ≤ ((W : Nat) : Int) ^ (i - 1) := by
        rw [← Int.natCast_pow, ← Int.natCast_pow]; exact Int.ofNat_le.2 (Nat.pow_le_pow_right (by decide) (by omega))
      have h6 : ((W : Nat) : Int) ^ i = ((W : Nat) : Int) ^ (i - 1) * 18446744073709551616 := by
        rw [show i = (i - 1) + 1 by omega, Int.pow_succ]; rfl
      have h7 : 0 ≤ ((W : Nat) : Int) ^ (i - 1) := Int.pow_nonneg (by decide)
      rcases Int.le_iff_lt_or_eq.1 h.c0.1 with h8 | h8
      · have h9 : c = 1 := by have := h.c0.2; omega
        rw [h9, h6] at hv
        simp only [vW] at hv
        omega
      · exact h8.symm
    rw [hc, Int.zero_mul, Int.add_zero] at hv
    rw [← hv]
    exact Ev.bind (f := fun _ t => some t) (trimmed_ev x h.w (by rw [h.len]; exact hn)) (Ev.now _)
  | succ d ih =>
    intro i hi x c h
    refine Ev.unroll ?_
    simp only [nat_Nat_Add.l0]
    refine Ev.pos (by omega) ?_
    have e1 : wrap64 ((i : Int) + 1) = ((i + 1 : Nat) : Int) := by rw [wrap_id (by omega)]; omega
    simp only [limb_eq, Option.bind_some, e1, Int.toNat_natCast]
    refine Ev.pos h.c0.2 (Ev.pos (by omega) (Ev.pos (by rw [h.len]; omega) ?_))
    have wa := wf_getD W_pos ha i
    have wb := wf_getD W_pos hb i
    obtain ⟨s1, s2, s3⟩ := add64_b wa wb h.c0
    refine ih (i + 1) (by omega) _ _ ⟨wf_set h.w i s1, by rw [List.length_set, h.len], s2, fun j hj => by rw [getD_set_ne _ _ _ _ _ (by omega)]; exact h.z j (by omega), ?_⟩
    have hv := h.v
    show vl _ _ + _ = vl _ _ + vl _ _
    rw [vl_set _ _ _ _ (by rw [h.len]; omega), h.z i (Nat.le_refl i), vl_take_succ, vl_take_succ, Int.pow_succ, Int.sub_zero]
    simp only [vW] at hv
    generalize ((W : Nat) : Int) ^ i = p at *
    generalize add64s (a.getD i 0) (b.getD i 0) c = s at *
    generalize add64c (a.getD i 0) (b.getD i 0) c = q at *
    have e2 : p * (s + 18446744073709551616 * q) = p * (a.getD i 0 + b.getD i 0 + c) := by rw [s3]
    simp only [W_int] at *
    grind
theorem add_ev (a b : List Int) (ha : wfW a) (hb : wfW b) (la : a.length ≤ 1099511627776) (lb : b.length ≤ 1099511627776) : Ev (fun k => nat_Nat_Add.f k a b) (lim (vW a + vW b).toNat) := by
  unfold nat_Nat_Add.f
  have e1 : wrap64 (mx (a.length : Int) (b.length : Int) + 1) = ((max a.length b.length + 1 : Nat) : Int) := by rw [mx_eq, wrap_id (by omega)]; omega
  simp only [e1, Int.toNat_natCast, Option.bind_some, List.length_replicate]
  refine Ev.pos (by omega) (Ev.pos (by omega) ?_)
  refine add_l0 a b ha hb (max a.length b.length + 1) (by omega) (by omega) _ 0 (Nat.zero_add _) _ _ ⟨wf_replicate W_pos _, List.length_replicate, by omega, fun j _ => ?_, ?_⟩
  · rw [List.getD_eq_getElem?_getD, List.getElem?_replicate]; split <;> rfl
  · show vl _ _ + _ = vl _ _ + vl _ _
    rw [vl_replicate]
    rfl
end Go.Proofs.YtebjbmgfbejapaaM
