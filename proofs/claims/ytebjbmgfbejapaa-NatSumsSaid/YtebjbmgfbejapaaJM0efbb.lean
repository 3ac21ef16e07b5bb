-- Joined of: M0 M1 M2 M3 M4 R1 R2 PureNatSums
import Derived.Test.YtebjbmgfbejapaaJF0efbb
import Derived.Test.YtebjbmgfbejapaaWMore
import Derived.Test.YtebjbmgfbejapaaF1
import Derived.Test.YtebjbmgfbejapaaF15
import Derived.Test.YtebjbmgfbejapaaF16
import Derived.Test.YtebjbmgfbejapaaF2
import Derived.Test.YtebjbmgfbejapaaF3
import Derived.Test.YtebjbmgfbejapaaF4
import Derived.Test.YtebjbmgfbejapaaF5
import Derived.Test.YtebjbmgfbejapaaF7
import Derived.Laws.Bits64b
import Derived.Test.YtebjbmgfbejapaaF10
import Derived.Test.YtebjbmgfbejapaaF11
import Derived.Test.YtebjbmgfbejapaaF12
import Derived.Test.YtebjbmgfbejapaaF13
import Derived.Test.YtebjbmgfbejapaaF14
import Derived.Test.YtebjbmgfbejapaaF26
import Derived.Test.YtebjbmgfbejapaaF30
import Derived.Test.YtebjbmgfbejapaaF27
import Derived.Test.YtebjbmgfbejapaaF28
import Derived.Test.YtebjbmgfbejapaaF17
import Derived.Test.YtebjbmgfbejapaaF6
import Derived.Test.YtebjbmgfbejapaaF8
import Derived.Test.YtebjbmgfbejapaaF9
import Derived.Test.YtebjbmgfbejapaaF18
import Derived.Test.YtebjbmgfbejapaaF19
import Derived.Test.YtebjbmgfbejapaaF20
import Derived.Test.YtebjbmgfbejapaaF21
import Derived.Test.YtebjbmgfbejapaaF23
import Derived.Test.YtebjbmgfbejapaaF31
import Derived.Test.YtebjbmgfbejapaaF22
import Derived.Test.YtebjbmgfbejapaaF24
section
/- Plain numbers: digits to a base, their values; loops with rounds. No program is in sight. -/
namespace Go.Proofs.YtebjbmgfbejapaaM
open Go.RowKit Go.Proofs.YtebjbmgfbejapaaW.PrintWords Go.Proofs.YtebjbmgfbejapaaW.PrintLast Go.Proofs.YtebjbmgfbejapaaW.PrintMore
set_option linter.unusedVariables false
set_option linter.unusedSimpArgs false

/-- All digits are digits. -/
def wf (B : Int) (l : List Int) : Prop := ∀ x ∈ l, 0 ≤ x ∧ x < B
/-- The value of digits, the least first. -/
def vl (B : Int) : List Int → Int
  | [] => 0
  | x :: xs => x + B * vl B xs
theorem wf_nil (B : Int) : wf B [] := fun x h => by cases h
theorem wf_cons {B x : Int} {l : List Int} : wf B (x :: l) ↔ (0 ≤ x ∧ x < B) ∧ wf B l := by
  unfold wf
  simp only [List.mem_cons, forall_eq_or_imp]
theorem wf_append {B : Int} {a b : List Int} (ha : wf B a) (hb : wf B b) : wf B (a ++ b) := by
  intro x hx
  rcases List.mem_append.1 hx with h | h
  · exact ha x h
  · exact hb x h
theorem wf_take {B : Int} {l : List Int} (h : wf B l) (n : Nat) : wf B (l.take n) := fun x hx => h x (List.mem_of_mem_take hx)
theorem wf_drop {B : Int} {l : List Int} (h : wf B l) (n : Nat) : wf B (l.drop n) := fun x hx => h x (List.mem_of_mem_drop hx)
theorem wf_set {B : Int} {l : List Int} (h : wf B l) (n : Nat) {x : Int} (hx : 0 ≤ x ∧ x < B) : wf B (l.set n x) := by
  intro y hy
  rcases List.mem_or_eq_of_mem_set hy with h1 | h1
  · exact h y h1
  · rw [h1]; exact hx
theorem wf_replicate {B : Int} (hB : 0 < B) (n : Nat) : wf B (List.replicate n 0) := by
  intro x hx
  rw [List.eq_of_mem_replicate hx]
  omega
theorem wf_getD {B : Int} {l : List Int} (hB : 0 < B) (h : wf B l) (i : Nat) : 0 ≤ l.getD i 0 ∧ l.getD i 0 < B := by
  rw [List.getD_eq_getElem?_getD]
  rcases Nat.lt_or_ge i l.length with hi | hi
  · rw [List.getElem?_eq_getElem hi]
    exact h _ (List.getElem_mem hi)
  · rw [List.getElem?_eq_none hi]
    exact ⟨Int.le_refl 0, hB⟩
theorem vl_append (B : Int) (a b : List Int) : vl B (a ++ b) = vl B a + B ^ a.length * vl B b := by
  induction a with
  | nil => simp [vl]
  | cons x a ih =>
    simp only [List.cons_append, vl, ih, List.length_cons, Int.pow_succ]
    grind
theorem vl_nonneg {B : Int} (hB : 0 < B) {l : List Int} (h : wf B l) : 0 ≤ vl B l := by
  induction l with
  | nil => exact Int.le_refl 0
  | cons x l ih =>
    obtain ⟨h1, h2⟩ := wf_cons.1 h
    have := Int.mul_nonneg (Int.le_of_lt hB) (ih h2)
    simp only [vl]
    omega
theorem vl_lt {B : Int} (hB : 0 < B) {l : List Int} (h : wf B l) : vl B l < B ^ l.length := by
  induction l with
  | nil => simp [vl]
  | cons x l ih =>
    obtain ⟨h1, h2⟩ := wf_cons.1 h
    have h3 := ih h2
    have h4 : B * (vl B l + 1) ≤ B * B ^ l.length := Int.mul_le_mul_of_nonneg_left (by omega) (Int.le_of_lt hB)
    simp only [vl, List.length_cons, Int.pow_succ]
    rw [Int.mul_comm (B ^ l.length) B]
    rw [Int.mul_add, Int.mul_one] at h4
    omega
theorem vl_replicate (B : Int) (n : Nat) : vl B (List.replicate n 0) = 0 := by
  induction n with
  | zero => rfl
  | succ n ih => simp [List.replicate_succ, vl, ih]
theorem vl_take_succ (B : Int) (l : List Int) (i : Nat) : vl B (l.take (i + 1)) = vl B (l.take i) + B ^ i * l.getD i 0 := by
  rcases Nat.lt_or_ge i l.length with hi | hi
  · rw [List.take_succ_eq_append_getElem hi, vl_append, List.length_take, Nat.min_eq_left (Nat.le_of_lt hi), List.getD_eq_getElem?_getD, List.getElem?_eq_getElem hi]
    simp [vl]
  · rw [List.take_of_length_le hi, List.take_of_length_le (by omega), List.getD_eq_getElem?_getD, List.getElem?_eq_none hi]
    simp
theorem vl_take_ge (B : Int) (l : List Int) (i : Nat) (h : l.length ≤ i) : vl B (l.take i) = vl B l := by rw [List.take_of_length_le h]
theorem getD_set_self (l : List Int) (i : Nat) (x d : Int) (h : i < l.length) : (l.set i x).getD i d = x := by
  rw [List.getD_eq_getElem?_getD, List.getElem?_set_self h]
  rfl
theorem getD_set_ne (l : List Int) (i j : Nat) (x d : Int) (h : i ≠ j) : (l.set i x).getD j d = l.getD j d := by
  rw [List.getD_eq_getElem?_getD, List.getElem?_set_ne h, List.getD_eq_getElem?_getD]
theorem vl_set (B : Int) (l : List Int) (i : Nat) (x : Int) (h : i < l.length) : vl B (l.set i x) = vl B l + B ^ i * (x - l.getD i 0) := by
  induction l generalizing i with
  | nil => simp at h
  | cons y l ih =>
    cases i with
    | zero =>
      simp only [List.set_cons_zero, vl, List.getD_cons_zero, Int.pow_zero]
      omega
    | succ i =>
      simp only [List.set_cons_succ, vl, List.getD_cons_succ, Int.pow_succ]
      rw [ih i (by simpa using h)]
      grind

/-- The digits of a number, the least first. -/
def dg (B n : Nat) : List Int := if h : n = 0 ∨ B < 2 then [] else ((n % B : Nat) : Int) :: dg B (n / B)
termination_by n
decreasing_by exact Nat.div_lt_self (by omega) (by omega)
theorem dg_zero (B : Nat) : dg B 0 = [] := by rw [dg]; simp
theorem dg_pos {B n : Nat} (hB : 2 ≤ B) (hn : n ≠ 0) : dg B n = ((n % B : Nat) : Int) :: dg B (n / B) := by
  rw [dg, dif_neg (by omega)]
theorem dg_wf {B : Nat} (hB : 2 ≤ B) (n : Nat) : wf (B : Int) (dg B n) := by
  induction n using Nat.strongRecOn with
  | _ n ih =>
    by_cases h : n = 0
    · subst h; rw [dg_zero]; exact wf_nil _
    · rw [dg_pos hB h]
      have := Nat.mod_lt n (show 0 < B by omega)
      exact wf_cons.2 ⟨by omega, ih _ (Nat.div_lt_self (by omega) (by omega))⟩
theorem dg_vl {B : Nat} (hB : 2 ≤ B) (n : Nat) : vl (B : Int) (dg B n) = n := by
  induction n using Nat.strongRecOn with
  | _ n ih =>
    by_cases h : n = 0
    · subst h; rw [dg_zero]; rfl
    · rw [dg_pos hB h]
      simp only [vl]
      rw [ih _ (Nat.div_lt_self (by omega) (by omega)), ← Int.natCast_mul, ← Int.natCast_add]
      congr 1
      exact Nat.mod_add_div n B
/-- Digits without a 0 at the end are the number's own. -/
theorem dg_of {B : Nat} (hB : 2 ≤ B) {l : List Int} (h : wf (B : Int) l) (hl : ∀ (hne : l ≠ []), l.getLast hne ≠ 0) : dg B (vl (B : Int) l).toNat = l := by
  induction l with
  | nil => simp [vl, dg_zero]
  | cons x l ih =>
    obtain ⟨h1, h2⟩ := wf_cons.1 h
    have hv := vl_nonneg (B := (B : Int)) (by omega) h2
    have ih' := ih h2 (fun hne => by
      have := hl (List.cons_ne_nil x l)
      rwa [List.getLast_cons hne] at this)
    obtain ⟨X, rfl⟩ := Int.eq_ofNat_of_zero_le h1.1
    obtain ⟨V, hV⟩ := Int.eq_ofNat_of_zero_le hv
    rw [hV] at ih'
    simp only [Int.toNat_natCast] at ih'
    have e1 : (vl (B : Int) ((X : Int) :: l)).toNat = X + B * V := by
      simp only [vl, hV]
      omega
    have hX : X < B := by omega
    have hne : X + B * V ≠ 0 := by
      intro h0
      have hX0 : X = 0 := by omega
      have hV0 : V = 0 := by
        have h3 : B * V = 0 := by omega
        rcases Nat.mul_eq_zero.1 h3 with h4 | h4
        · omega
        · exact h4
      subst hV0
      rw [dg_zero] at ih'
      subst ih'
      have := hl (List.cons_ne_nil _ _)
      simp at this
      omega
    rw [e1, dg_pos hB hne, Nat.add_mul_mod_self_left, Nat.mod_eq_of_lt hX, Nat.add_mul_div_left _ _ (by omega), Nat.div_eq_of_lt hX, Nat.zero_add, ih']
theorem dg_last {B : Nat} (hB : 2 ≤ B) (n : Nat) : ∀ (hne : dg B n ≠ []), (dg B n).getLast hne ≠ 0 := by
  induction n using Nat.strongRecOn with
  | _ n ih =>
    by_cases h : n = 0
    · subst h; intro hne; exact absurd (dg_zero B) hne
    · intro hne
      have ih' := ih (n / B) (Nat.div_lt_self (by omega) (by omega))
      by_cases h2 : dg B (n / B) = []
      · have h3 : n / B = 0 := by
          have := dg_vl hB (n / B)
          rw [h2] at this
          simp [vl] at this
          omega
        have e1 : dg B n = [((n % B : Nat) : Int)] := by rw [dg_pos hB h, h2]
        simp only [e1, List.getLast_singleton]
        have := Nat.mod_add_div n B
        rw [h3, Nat.mul_zero] at this
        omega
      · have e1 : (dg B n).getLast hne = (dg B (n / B)).getLast h2 := by
          simp only [dg_pos hB h]
          exact List.getLast_cons h2
        rw [e1]
        exact ih' h2
theorem dg_inj {B : Nat} (hB : 2 ≤ B) {a b : Nat} (h : dg B a = dg B b) : a = b := by
  have h1 := dg_vl hB a
  rw [h, dg_vl hB b] at h1
  omega
theorem dg_len_le {B : Nat} (hB : 2 ≤ B) {n m : Nat} (h : n < B ^ m) : (dg B n).length ≤ m := by
  induction m generalizing n with
  | zero =>
    have : n = 0 := by simpa using h
    subst this
    rw [dg_zero]
    exact Nat.le_refl 0
  | succ m ih =>
    by_cases h0 : n = 0
    · subst h0; rw [dg_zero]; exact Nat.zero_le _
    · rw [dg_pos hB h0, List.length_cons]
      have : n / B < B ^ m := by
        rw [Nat.div_lt_iff_lt_mul (by omega)]
        rwa [Nat.pow_succ] at h
      have := ih this
      omega
theorem dg_lt {B : Nat} (hB : 2 ≤ B) (n : Nat) : n < B ^ (dg B n).length := by
  have h := vl_lt (B := (B : Int)) (by omega) (dg_wf hB n)
  rw [dg_vl hB n, ← Int.natCast_pow] at h
  exact Int.ofNat_lt.1 h
theorem dg_le {B : Nat} (hB : 2 ≤ B) {n : Nat} (h : n ≠ 0) : B ^ ((dg B n).length - 1) ≤ n := by
  rcases Nat.lt_or_ge n (B ^ ((dg B n).length - 1)) with h1 | h1
  · have h2 := dg_len_le hB h1
    have h3 : (dg B n).length ≠ 0 := by rw [dg_pos hB h]; simp
    omega
  · exact h1
/-- The i-th digit. -/
theorem dg_getD {B : Nat} (hB : 2 ≤ B) (n i : Nat) : (dg B n).getD i 0 = ((n / B ^ i % B : Nat) : Int) := by
  induction i generalizing n with
  | zero =>
    by_cases h : n = 0
    · subst h; simp [dg_zero]
    · rw [dg_pos hB h, List.getD_cons_zero, Nat.pow_zero, Nat.div_one]
  | succ i ih =>
    by_cases h : n = 0
    · subst h; simp [dg_zero]
    · rw [dg_pos hB h, List.getD_cons_succ, ih, Nat.div_div_eq_div_mul, Nat.pow_succ, Nat.mul_comm B]

/-! wraps -/
theorem wrap_id {x : Int} (h : -9223372036854775808 ≤ x ∧ x ≤ 9223372036854775807) : wrap64 x = x := by unfold wrap64; omega
theorem u64_wrap (x : Int) : IntKind.u64.wrap x = x % 18446744073709551616 := by
  first | rfl | simp [IntKind.wrap, IntKind.bits]
theorem u64_id {x : Int} (h : 0 ≤ x ∧ x < 18446744073709551616) : IntKind.u64.wrap x = x := by rw [u64_wrap]; omega
theorem mn_eq (a b : Int) : mn a b = min a b := by unfold mn; split <;> omega
theorem mx_eq (a b : Int) : mx a b = max a b := by unfold mx; split <;> omega
theorem rd_nat (l : List Int) (i : Nat) : rd l (i : Int) = l.getD i 0 := by unfold rd; rw [Int.toNat_natCast]
theorem rd_int (l : List Int) {i : Int} (_ : 0 ≤ i) : rd l i = l.getD i.toNat 0 := rfl
end Go.Proofs.YtebjbmgfbejapaaM
end

section
/- Layer 1 (nat) as plain functions: what each comes to, told of the numbers that limbs stand for. -/
namespace Go.Proofs.YtebjbmgfbejapaaM
open Go.RowKit Go.Proofs.YtebjbmgfbejapaaW.PrintWords Go.Proofs.YtebjbmgfbejapaaW.PrintLast Go.Proofs.YtebjbmgfbejapaaW.PrintMore Go.Proofs.YtebjbmgfbejapaaX Go.Proofs.Ytebjbmgfbejapaa.F
set_option linter.unusedVariables false
set_option linter.unusedSimpArgs false

/-! rounds -/
theorem Ev.unroll {α : Type} {g : Nat → Option α} {r : α} (h : Ev (fun k => g (k + 1)) r) : Ev g r := Ev.step (fun _ => rfl) h
theorem Ev.pos {α : Type} {a b : Nat → Option α} {r : α} {c : Prop} [Decidable c] (h : c) (e : Ev a r) : Ev (fun k => if c then a k else b k) r := by
  simp only [if_pos h]; exact e
theorem Ev.neg {α : Type} {a b : Nat → Option α} {r : α} {c : Prop} [Decidable c] (h : ¬ c) (e : Ev b r) : Ev (fun k => if c then a k else b k) r := by
  simp only [if_neg h]; exact e
theorem Ev.const {α : Type} {a : Option α} {r : α} (h : a = some r) : Ev (fun _ => a) r := ⟨0, fun _ _ => h⟩
theorem Ev.bindc {α β : Type} {a : Option α} {x : α} {f : Nat → α → Option β} {r : β} (h : a = some x) (e : Ev (fun k => f k x) r) : Ev (fun k => a.bind (f k)) r := by
  subst h; exact e
theorem Ev.lt {α : Type} {g : Nat → Option α} {r : α} (n : Nat) (h : ∀ k, n < k → g k = some r) : Ev g r := ⟨n + 1, fun k hk => h k hk⟩

theorem cut12 (l : List Int) : chattellaw01_cut.f l = some (l.take 12) := by
  unfold chattellaw01_cut.f
  rw [mn_eq, if_pos (by omega), if_pos (by omega)]
  congr 1
  rcases Nat.lt_or_ge l.length 12 with h | h
  · rw [List.take_of_length_le (by omega), List.take_of_length_le (by omega)]
  · rw [show (min (l.length : Int) 12).toNat = 12 by omega]
theorem clone_eq (l : List Int) (h : l.length < 17592186044416) : slices_Clone_uint64_uint64.f l = some l := by
  unfold slices_Clone_uint64_uint64.f
  simp [h]
theorem limbs_eq (l : List Int) (h : l.length < 17592186044416) : nat_Nat_Limbs.f l = some l := by
  unfold nat_Nat_Limbs.f
  rw [clone_eq l h]
  rfl

abbrev W : Nat := 18446744073709551616
theorem W2 : 2 ≤ W := by decide
/-- A number's limbs. -/
def lim (n : Nat) : List Int := dg W n
abbrev wfW (l : List Int) : Prop := wf ((W : Nat) : Int) l
abbrev vW (l : List Int) : Int := vl ((W : Nat) : Int) l
theorem W_pos : (0 : Int) < ((W : Nat) : Int) := by decide
theorem W_int : ((W : Nat) : Int) = 18446744073709551616 := rfl

theorem trimmed_l0 (x : List Int) (hx : wfW x) (hl : x.length < 4611686018427387904) : ∀ n : Nat, n ≤ x.length → vW (x.take n) = vW x → ∀ k, n < k → nat_trimmed.l0 k x (n : Int) = some (lim (vW x).toNat) := by
  intro n
  induction n with
  | zero =>
    intro hn hv k hk
    obtain ⟨k, rfl⟩ : ∃ m, k = m + 1 := ⟨k - 1, by omega⟩
    simp only [nat_trimmed.l0]
    rw [if_neg (by omega), if_pos (by omega), if_pos (by omega)]
    have : vW x = 0 := by rw [← hv]; rfl
    rw [this]
    show some (x.take 0) = some (dg W 0)
    rw [dg_zero]
    rfl
  | succ n ih =>
    intro hn hv k hk
    obtain ⟨k, rfl⟩ : ∃ m, k = m + 1 := ⟨k - 1, by omega⟩
    have e1 : wrap64 (((n + 1 : Nat) : Int) - 1) = (n : Int) := by rw [wrap_id (by omega)]; omega
    simp only [nat_trimmed.l0]
    rw [if_pos (by omega), e1, if_pos (by omega), if_pos (by omega), rd_nat]
    by_cases h0 : x.getD n 0 = 0
    · rw [if_pos h0]
      refine ih (by omega) ?_ k (by omega)
      rw [← hv]
      show vl _ _ = vl _ _
      rw [vl_take_succ, h0, Int.mul_zero, Int.add_zero]
    · rw [if_neg h0, if_pos (by omega), if_pos (by omega), Int.toNat_natCast]
      have h1 := dg_of W2 (wf_take hx (n + 1)) (fun hne => by
        have h2 : (x.take (n + 1)).getLast hne = x.getD n 0 := by
          have h3 : (x.take (n + 1)).length = n + 1 := by rw [List.length_take]; omega
          rw [List.getLast_eq_getElem, List.getElem_take, List.getD_eq_getElem?_getD, List.getElem?_eq_getElem (by omega)]
          simp [h3]
        rw [h2]; exact h0)
      rw [← h1]
      show some (lim _) = _
      rw [show vl ((W : Nat) : Int) (x.take (n + 1)) = vW x from hv]
theorem trimmed_ev (x : List Int) (hx : wfW x) (hl : x.length < 4611686018427387904) : Ev (fun k => nat_trimmed.f k x) (lim (vW x).toNat) := by
  refine Ev.lt x.length (fun k hk => ?_)
  unfold nat_trimmed.f
  exact trimmed_l0 x hx hl x.length (Nat.le_refl _) (vl_take_ge _ _ _ (Nat.le_refl _)) k hk
theorem of_ev (l : List Int) (hx : wfW l) (h : l.length < 17592186044416) : Ev (fun k => nat_Of.f k l) (lim (vW l).toNat) := by
  unfold nat_Of.f
  rw [clone_eq l h]
  exact Ev.bind (f := fun _ t => some t) (trimmed_ev l hx (by omega)) (Ev.now _)
theorem lim_wf (n : Nat) : wfW (lim n) := dg_wf W2 n
theorem lim_v (n : Nat) : vW (lim n) = n := dg_vl W2 n
theorem zero_eq (n : Nat) : nat_Nat_Zero.f (lim n) = some (decide (n = 0)) := by
  unfold nat_Nat_Zero.f
  congr 1
  by_cases h : n = 0
  · subst h; unfold lim; rw [dg_zero]; rfl
  · unfold lim; rw [dg_pos W2 h]; simp [h]; omega

theorem limb_eq (l : List Int) (i : Nat) : nat_Nat_limb.f l (i : Int) = some (l.getD i 0) := by
  unfold nat_Nat_limb.f
  by_cases h : l.length ≤ i
  · rw [if_pos (by omega), List.getD_eq_getElem?_getD, List.getElem?_eq_none h]; rfl
  · rw [if_neg (by omega), if_pos (by omega), if_pos (by omega), rd_nat]

theorem add64 {x y c : Int} (hx : 0 ≤ x) (hy : 0 ≤ y) (hc : 0 ≤ c) : add64s x y c = (x + y + c) % 18446744073709551616 ∧ add64c x y c = (x + y + c) / 18446744073709551616 := by
  unfold add64s add64c
  omega
theorem add64_b {x y c : Int} (hx : 0 ≤ x ∧ x < 18446744073709551616) (hy : 0 ≤ y ∧ y < 18446744073709551616) (hc : 0 ≤ c ∧ c ≤ 1) :
    (0 ≤ add64s x y c ∧ add64s x y c < 18446744073709551616) ∧ (0 ≤ add64c x y c ∧ add64c x y c ≤ 1) ∧ add64s x y c + 18446744073709551616 * add64c x y c = x + y + c := by
  obtain ⟨h1, h2⟩ := add64 hx.1 hy.1 hc.1
  rw [h1, h2]
  omega
theorem sub64_b {x y c : Int} (hx : 0 ≤ x ∧ x < 18446744073709551616) (hy : 0 ≤ y ∧ y < 18446744073709551616) (hc : 0 ≤ c ∧ c ≤ 1) :
    (0 ≤ sub64d x y c ∧ sub64d x y c < 18446744073709551616) ∧ (0 ≤ sub64b x y c ∧ sub64b x y c ≤ 1) ∧ sub64d x y c - 18446744073709551616 * sub64b x y c = x - y - c := by
  unfold sub64d sub64b
  split <;> omega

/-- What stands in x5 behind i rounds of Add. -/
structure AddInv (a b x : List Int) (c : Int) (n i : Nat) : Prop where
  w : wfW x
  len : x.length = n
  c0 : 0 ≤ c ∧ c ≤ 1
  z : ∀ j, i ≤ j → x.getD j 0 = 0
  v : vW x + c * ((W : Nat) : Int) ^ i = vW (a.take i) + vW (b.take i)
theorem add_l0 (a b : List Int) (ha : wfW a) (hb : wfW b) (n : Nat) (hn : n < 4611686018427387904) (hn2 : a.length + 1 ≤ n ∧ b.length + 1 ≤ n) :
    ∀ d i : Nat, i + d = n → ∀ x c, AddInv a b x c n i → Ev (fun k => nat_Nat_Add.l0 k x c (n : Int) (i : Int) a b) (lim (vW a + vW b).toNat) := by
  intro d
  induction d with
  | zero =>
    intro i hi x c h
    have hi' : i = n := by omega
    subst hi'
    refine Ev.unroll ?_
    simp only [nat_Nat_Add.l0]
    refine Ev.neg (by omega) ?_
    have hv := h.v
    rw [show vW (a.take i) = vW a from vl_take_ge _ _ _ (by omega), show vW (b.take i) = vW b from vl_take_ge _ _ _ (by omega)] at hv
    have hc : c = 0 := by
      have h1 := vl_lt W_pos ha
      have h2 := vl_lt W_pos hb
      have h3 := vl_nonneg W_pos h.w
      have h4 : ((W : Nat) : Int) ^ a.length ≤ ((W : Nat) : Int) ^ (i - 1) := by
        rw [← Int.natCast_pow, ← Int.natCast_pow]; exact Int.ofNat_le.2 (Nat.pow_le_pow_right (by decide) (by omega))
      have h5 : ((W : Nat) : Int) ^ b.length ≤ ((W : Nat) : Int) ^ (i - 1) := by
        rw [← Int.natCast_pow, ← Int.natCast_pow]; exact Int.ofNat_le.2 (Nat.pow_le_pow_right (by decide) (by omega))
      have h6 : ((W : Nat) : Int) ^ i = ((W : Nat) : Int) ^ (i - 1) * 18446744073709551616 := by
        rw [show i = (i - 1) + 1 by omega, Int.pow_succ]; rfl
      have h7 : 0 ≤ ((W : Nat) : Int) ^ (i - 1) := Int.pow_nonneg (by decide)
      rcases Int.le_iff_lt_or_eq.1 h.c0.1 with h8 | h8
      · have h9 : c = 1 := by have := h.c0.2; omega
        rw [h9, h6] at hv
        simp only [vW] at hv
        omega
      · exact h8.symm
    rw [hc, Int.zero_mul, Int.add_zero] at hv
    rw [← hv]
    exact Ev.bind (f := fun _ t => some t) (trimmed_ev x h.w (by rw [h.len]; exact hn)) (Ev.now _)
  | succ d ih =>
    intro i hi x c h
    refine Ev.unroll ?_
    simp only [nat_Nat_Add.l0]
    refine Ev.pos (by omega) ?_
    have e1 : wrap64 ((i : Int) + 1) = ((i + 1 : Nat) : Int) := by rw [wrap_id (by omega)]; omega
    simp only [limb_eq, Option.bind_some, e1, Int.toNat_natCast]
    refine Ev.pos h.c0.2 (Ev.pos (by omega) (Ev.pos (by rw [h.len]; omega) ?_))
    have wa := wf_getD W_pos ha i
    have wb := wf_getD W_pos hb i
    obtain ⟨s1, s2, s3⟩ := add64_b wa wb h.c0
    refine ih (i + 1) (by omega) _ _ ⟨wf_set h.w i s1, by rw [List.length_set, h.len], s2, fun j hj => by rw [getD_set_ne _ _ _ _ _ (by omega)]; exact h.z j (by omega), ?_⟩
    have hv := h.v
    show vl _ _ + _ = vl _ _ + vl _ _
    rw [vl_set _ _ _ _ (by rw [h.len]; omega), h.z i (Nat.le_refl i), vl_take_succ, vl_take_succ, Int.pow_succ, Int.sub_zero]
    simp only [vW] at hv
    generalize ((W : Nat) : Int) ^ i = p at *
    generalize add64s (a.getD i 0) (b.getD i 0) c = s at *
    generalize add64c (a.getD i 0) (b.getD i 0) c = q at *
    have e2 : p * (s + 18446744073709551616 * q) = p * (a.getD i 0 + b.getD i 0 + c) := by rw [s3]
    simp only [W_int] at *
    grind
theorem add_ev (a b : List Int) (ha : wfW a) (hb : wfW b) (la : a.length ≤ 1099511627776) (lb : b.length ≤ 1099511627776) : Ev (fun k => nat_Nat_Add.f k a b) (lim (vW a + vW b).toNat) := by
  unfold nat_Nat_Add.f
  have e1 : wrap64 (mx (a.length : Int) (b.length : Int) + 1) = ((max a.length b.length + 1 : Nat) : Int) := by rw [mx_eq, wrap_id (by omega)]; omega
  simp only [e1, Int.toNat_natCast, Option.bind_some, List.length_replicate]
  refine Ev.pos (by omega) (Ev.pos (by omega) ?_)
  refine add_l0 a b ha hb (max a.length b.length + 1) (by omega) (by omega) _ 0 (Nat.zero_add _) _ _ ⟨wf_replicate W_pos _, List.length_replicate, by omega, fun j _ => ?_, ?_⟩
  · rw [List.getD_eq_getElem?_getD, List.getElem?_replicate]; split <;> rfl
  · show vl _ _ + _ = vl _ _ + vl _ _
    rw [vl_replicate]
    rfl
end Go.Proofs.YtebjbmgfbejapaaM
end

section
/- Layer 1 (nat), on: order, differences, products, bits. -/
namespace Go.Proofs.YtebjbmgfbejapaaM
open Go.RowKit Go.Proofs.YtebjbmgfbejapaaW.PrintWords Go.Proofs.YtebjbmgfbejapaaW.PrintLast Go.Proofs.YtebjbmgfbejapaaW.PrintMore Go.Proofs.YtebjbmgfbejapaaX Go.Proofs.Ytebjbmgfbejapaa.F
set_option linter.unusedVariables false
set_option linter.unusedSimpArgs false

/-- -1, 0 or 1. -/
def sg (a b : Nat) : Int := if a < b then -1 else if a = b then 0 else 1
theorem cmpI (a b : Int) : cmp_Compare_int.f a b = some (if a < b then -1 else if a = b then 0 else 1) := by
  unfold cmp_Compare_int.f cmp_isNaN_int.f
  simp only [Option.bind_some, bne_self_eq_false, Bool.false_eq_true, if_false]
  by_cases h : a < b
  · simp [h]
  · by_cases h2 : a > b
    · rw [if_neg h, if_pos h2, if_neg h, if_neg (by omega)]
    · rw [if_neg h, if_neg h2, if_neg h, if_pos (by omega)]
theorem cmpU (a b : Int) : cmp_Compare_uint64.f a b = some (if a < b then -1 else if a = b then 0 else 1) := by
  unfold cmp_Compare_uint64.f cmp_isNaN_uint64.f
  simp only [Option.bind_some, bne_self_eq_false, Bool.false_eq_true, if_false]
  by_cases h : a < b
  · simp [h]
  · by_cases h2 : a > b
    · rw [if_neg h, if_pos h2, if_neg h, if_neg (by omega)]
    · rw [if_neg h, if_neg h2, if_neg h, if_pos (by omega)]
/-- The same order by highest digits first. -/
theorem sg_step {B : Int} (hB : 0 < B) {a b : List Int} (ha : wf B a) (hb : wf B b) (i : Nat) (heq : vl B (a.take (i + 1)) < vl B (b.take (i + 1)) ↔ vl B a < vl B b)
    (heq2 : vl B (a.take (i + 1)) = vl B (b.take (i + 1)) ↔ vl B a = vl B b) (hla : i < a.length) (hlb : i < b.length) :
    (a.getD i 0 < b.getD i 0 → vl B a < vl B b) ∧ (b.getD i 0 < a.getD i 0 → vl B b < vl B a) ∧
    (a.getD i 0 = b.getD i 0 → (vl B (a.take i) < vl B (b.take i) ↔ vl B a < vl B b) ∧ (vl B (a.take i) = vl B (b.take i) ↔ vl B a = vl B b)) := by
  have h1 := vl_lt hB (wf_take ha i)
  have h2 := vl_lt hB (wf_take hb i)
  have h3 := vl_nonneg hB (wf_take ha i)
  have h4 := vl_nonneg hB (wf_take hb i)
  rw [List.length_take, Nat.min_eq_left (Nat.le_of_lt hla)] at h1
  rw [List.length_take, Nat.min_eq_left (Nat.le_of_lt hlb)] at h2
  rw [vl_take_succ, vl_take_succ] at heq heq2
  generalize vl B (a.take i) = p at *
  generalize vl B (b.take i) = q at *
  generalize hx : a.getD i 0 = x at *
  generalize hy : b.getD i 0 = y at *
  generalize B ^ i = m at *
  have hm : 0 < m := by omega
  have key : ∀ s t : Int, s < t → m * s + m ≤ m * t := fun s t hst => by
    have := Int.mul_le_mul_of_nonneg_left (show s + 1 ≤ t by omega) (Int.le_of_lt hm)
    rwa [Int.mul_add, Int.mul_one] at this
  refine ⟨fun h => ?_, fun h => ?_, fun h => ?_⟩
  · have := key x y h; exact heq.1 (by omega)
  · have := key y x h
    have h5 : ¬ vl B a < vl B b := fun h => by have := heq.2 h; omega
    have h6 : ¬ vl B a = vl B b := fun h => by have := heq2.2 h; omega
    omega
  · subst h
    exact ⟨⟨fun h => heq.1 (by omega), fun h => by have := heq.2 h; omega⟩, ⟨fun h => heq2.1 (by omega), fun h => by have := heq2.2 h; omega⟩⟩
theorem cmp_l0 (a b : List Int) (ha : wfW a) (hb : wfW b) (hl : a.length = b.length) (hm : a.length < 4611686018427387904) : ∀ n : Nat, n ≤ a.length →
    (vW (a.take n) < vW (b.take n) ↔ vW a < vW b) → (vW (a.take n) = vW (b.take n) ↔ vW a = vW b) → ∀ k, n < k → nat_Nat_Cmp.l0 k ((n : Int) - 1) a b = some (if vW a < vW b then -1 else if vW a = vW b then 0 else 1) := by
  intro n
  induction n with
  | zero =>
    intro hn h1 h2 k hk
    obtain ⟨k, rfl⟩ : ∃ m, k = m + 1 := ⟨k - 1, by omega⟩
    simp only [nat_Nat_Cmp.l0]
    rw [if_neg (by omega)]
    have h3 : vW a = vW b := h2.1 rfl
    rw [if_neg (by omega), if_pos h3]
  | succ n ih =>
    intro hn h1 h2 k hk
    obtain ⟨k, rfl⟩ : ∃ m, k = m + 1 := ⟨k - 1, by omega⟩
    have e1 : ((n + 1 : Nat) : Int) - 1 = (n : Int) := by omega
    have e2 : wrap64 ((n : Int) - 1) = (n : Int) - 1 := wrap_id (by omega)
    simp only [nat_Nat_Cmp.l0, e1, e2, rd_nat, cmpU, Option.bind_some]
    rw [if_pos (by omega), if_pos (by omega), if_pos (by omega), if_pos (by omega)]
    obtain ⟨s1, s2, s3⟩ := sg_step W_pos ha hb n h1 h2 (by omega) (by omega)
    by_cases c1 : a.getD n 0 < b.getD n 0
    · have := s1 c1
      rw [if_pos c1, if_neg (by decide), if_pos this]
    · by_cases c2 : a.getD n 0 = b.getD n 0
      · rw [if_neg c1, if_pos c2, if_pos rfl]
        exact ih (by omega) (s3 c2).1 (s3 c2).2 k (by omega)
      · have := s2 (by omega)
        simp only [vW]
        rw [if_neg c1, if_neg c2, if_neg (by decide), if_neg (by omega), if_neg (by omega)]
theorem lim_len_lt {a b : Nat} (h : (lim a).length < (lim b).length) : a < b := by
  have h1 := dg_lt W2 a
  have h2 : b ≠ 0 := fun h0 => by subst h0; unfold lim at h; rw [dg_zero] at h; simp at h
  have h3 := dg_le W2 h2
  have h4 : W ^ (dg W a).length ≤ W ^ ((dg W b).length - 1) := Nat.pow_le_pow_right (by decide) (by unfold lim at h; omega)
  omega
theorem cmp_ev (a b : Nat) (ha : (lim a).length < 4611686018427387904) (hb : (lim b).length < 4611686018427387904) : Ev (fun k => nat_Nat_Cmp.f k (lim a) (lim b)) (sg a b) := by
  unfold nat_Nat_Cmp.f
  simp only [cmpI, Option.bind_some]
  rcases Nat.lt_trichotomy (lim a).length (lim b).length with h | h | h
  · have := lim_len_lt h
    rw [if_pos (by omega)]
    refine Ev.neg (by decide) (Ev.const ?_)
    unfold sg; rw [if_pos this]
  · rw [if_neg (by omega), if_pos (by omega)]
    refine Ev.pos rfl (Ev.lt (lim a).length (fun k hk => ?_))
    rw [wrap_id (by omega)]
    rw [cmp_l0 (lim a) (lim b) (lim_wf a) (lim_wf b) h ha (lim a).length (Nat.le_refl _) (by rw [List.take_of_length_le (Nat.le_refl _), List.take_of_length_le (by omega)]) (by rw [List.take_of_length_le (Nat.le_refl _), List.take_of_length_le (by omega)]) k hk]
    rw [lim_v, lim_v]
    unfold sg
    congr 1
    by_cases h1 : a < b
    · rw [if_pos h1, if_pos (by omega)]
    · rw [if_neg h1, if_neg (by omega)]
      by_cases h2 : a = b
      · rw [if_pos h2, if_pos (by omega)]
      · rw [if_neg h2, if_neg (by omega)]
  · have := lim_len_lt h
    rw [if_neg (by omega), if_neg (by omega)]
    refine Ev.neg (by decide) (Ev.const ?_)
    unfold sg; rw [if_neg (by omega), if_neg (by omega)]

/-- What stands in x behind i rounds of Sub. -/
structure SubInv (a b x : List Int) (c : Int) (n i : Nat) : Prop where
  w : wfW x
  len : x.length = n
  c0 : 0 ≤ c ∧ c ≤ 1
  z : ∀ j, i ≤ j → x.getD j 0 = 0
  v : vW x - c * ((W : Nat) : Int) ^ i = vW (a.take i) - vW (b.take i)
theorem sub_l0 (a b : List Int) (ha : wfW a) (hb : wfW b) (hn : a.length < 4611686018427387904) (hn2 : b.length ≤ a.length) (hle : vW b ≤ vW a) :
    ∀ d i : Nat, i + d = a.length → ∀ x c, SubInv a b x c a.length i → Ev (fun k => nat_Nat_Sub.l0 k x c (a.length : Int) (i : Int) a b) (lim (vW a - vW b).toNat, true) := by
  intro d
  induction d with
  | zero =>
    intro i hi x c h
    have hi' : i = a.length := by omega
    subst hi'
    refine Ev.unroll ?_
    simp only [nat_Nat_Sub.l0]
    refine Ev.neg (by omega) ?_
    have hv := h.v
    rw [show vW (a.take a.length) = vW a from vl_take_ge _ _ _ (by omega), show vW (b.take a.length) = vW b from vl_take_ge _ _ _ (by omega)] at hv
    have hc : c = 0 := by
      have h1 := vl_lt W_pos h.w
      rw [h.len] at h1
      rcases Int.le_iff_lt_or_eq.1 h.c0.1 with h8 | h8
      · have h9 : c = 1 := by have := h.c0.2; omega
        rw [h9] at hv
        simp only [vW] at hv hle
        omega
      · exact h8.symm
    rw [hc, Int.zero_mul, Int.sub_zero] at hv
    rw [← hv]
    exact Ev.bind (f := fun _ t => some (t, true)) (trimmed_ev x h.w (by rw [h.len]; exact hn)) (Ev.now _)
  | succ d ih =>
    intro i hi x c h
    refine Ev.unroll ?_
    simp only [nat_Nat_Sub.l0]
    refine Ev.pos (by omega) (Ev.pos (by omega) (Ev.pos (by omega) ?_))
    have e1 : wrap64 ((i : Int) + 1) = ((i + 1 : Nat) : Int) := by rw [wrap_id (by omega)]; omega
    simp only [limb_eq, Option.bind_some, e1, Int.toNat_natCast, rd_nat]
    refine Ev.pos h.c0.2 (Ev.pos (by rw [h.len]; omega) ?_)
    have wa := wf_getD W_pos ha i
    have wb := wf_getD W_pos hb i
    obtain ⟨s1, s2, s3⟩ := sub64_b wa wb h.c0
    refine ih (i + 1) (by omega) _ _ ⟨wf_set h.w i s1, by rw [List.length_set, h.len], s2, fun j hj => by rw [getD_set_ne _ _ _ _ _ (by omega)]; exact h.z j (by omega), ?_⟩
    have hv := h.v
    show vl _ _ - _ = vl _ _ - vl _ _
    rw [vl_set _ _ _ _ (by rw [h.len]; omega), h.z i (Nat.le_refl i), vl_take_succ, vl_take_succ, Int.pow_succ, Int.sub_zero]
    simp only [vW] at hv
    generalize ((W : Nat) : Int) ^ i = p at *
    generalize sub64d (a.getD i 0) (b.getD i 0) c = s at *
    generalize sub64b (a.getD i 0) (b.getD i 0) c = q at *
    have e2 : p * (s - 18446744073709551616 * q) = p * (a.getD i 0 - b.getD i 0 - c) := by rw [s3]
    simp only [W_int] at *
    grind
theorem sub_ev (a b : Nat) (la : (lim a).length ≤ 1099511627776) (lb : (lim b).length ≤ 1099511627776) : Ev (fun k => nat_Nat_Sub.f k (lim a) (lim b)) (if a < b then ([], false) else (lim (a - b), true)) := by
  unfold nat_Nat_Sub.f
  refine Ev.bind (f := fun k t378 => if t378 < 0 then some (([] : List Int), false) else _) (cmp_ev a b (by omega) (by omega)) ?_
  unfold sg
  by_cases h : a < b
  · rw [if_pos h, if_pos h]
    exact Ev.pos (by decide) (Ev.now _)
  · rw [if_neg h, if_neg h]
    refine Ev.neg (by split <;> decide) (Ev.pos (by omega) (Ev.pos (by omega) ?_))
    simp only [Option.bind_some, List.length_replicate, Int.toNat_natCast]
    have hlen : (lim b).length ≤ (lim a).length := by
      rcases Nat.lt_or_ge (lim a).length (lim b).length with h1 | h1
      · exact absurd (lim_len_lt h1) h
      · exact h1
    have := sub_l0 (lim a) (lim b) (lim_wf a) (lim_wf b) (by omega) hlen (by rw [lim_v, lim_v]; omega) _ 0 (Nat.zero_add _) _ _ (⟨wf_replicate W_pos _, List.length_replicate, by omega, fun j _ => by rw [List.getD_eq_getElem?_getD, List.getElem?_replicate]; split <;> rfl, by show vl _ _ - _ = vl _ _ - vl _ _; rw [vl_replicate]; rfl⟩ : SubInv (lim a) (lim b) (List.replicate (lim a).length 0) 0 (lim a).length 0)
    rw [lim_v, lim_v, show ((a : Int) - (b : Int)).toNat = a - b by omega] at this
    exact this

/-! products -/
theorem mask32 (a : Nat) (ha : a < 18446744073709551616) : bits .and .u64 (a : Int) 4294967295 = ((a % 4294967296 : Nat) : Int) := by
  rw [show (4294967295 : Int) = ((4294967295 : Nat) : Int) from rfl, bits_and_u64_nat a 4294967295 ha (by decide)]
  congr 1
  exact Nat.and_two_pow_sub_one_eq_mod a 32
theorem wrapN (a : Nat) (ha : a < 18446744073709551616) : IntKind.u64.wrap (a : Int) = (a : Int) := u64_id (by omega)
theorem mul64_eq (x y : Nat) (hx : x < 18446744073709551616) (hy : y < 18446744073709551616) : bits_Mul64.f (x : Int) (y : Int) = some (((x * y / 18446744073709551616 : Nat) : Int), ((x * y % 18446744073709551616 : Nat) : Int)) := by
  unfold bits_Mul64.f
  have d32 : ∀ a : Nat, (a : Int) / 4294967296 = ((a / 4294967296 : Nat) : Int) := fun a => by omega
  generalize hx1 : x / 4294967296 = x1
  generalize hx0 : x % 4294967296 = x0
  generalize hy1 : y / 4294967296 = y1
  generalize hy0 : y % 4294967296 = y0
  have bx1 : x1 ≤ 4294967295 := by omega
  have bx0 : x0 ≤ 4294967295 := by omega
  have by1 : y1 ≤ 4294967295 := by omega
  have by0 : y0 ≤ 4294967295 := by omega
  have bd : ∀ {a b : Nat}, a ≤ 4294967295 → b ≤ 4294967295 → a * b ≤ 18446744065119617025 := fun ha hb => Nat.mul_le_mul ha hb
  have p11 := bd bx1 by1
  have p10 := bd bx1 by0
  have p01 := bd bx0 by1
  have p00 := bd bx0 by0
  have ex : x = x1 * 4294967296 + x0 := by omega
  have ey : y = y1 * 4294967296 + y0 := by omega
  have emul : x * y = x1 * y1 * 18446744073709551616 + (x1 * y0 + x0 * y1) * 4294967296 + x0 * y0 := by
    rw [ex, ey]; grind
  simp only [d32, mask32 x hx, mask32 y hy, hx1, hx0, hy1, hy0, ← Int.natCast_mul]
  rw [wrapN (x1 * y1) (by omega), wrapN (x1 * y0) (by omega), wrapN (x0 * y0) (by omega), wrapN (x0 * y1) (by omega)]
  simp only [d32, ← Int.natCast_add]
  rw [wrapN (x1 * y0 + x0 * y0 / 4294967296) (by omega), mask32 _ (by omega)]
  simp only [d32, ← Int.natCast_add]
  rw [wrapN (x1 * y1 + (x1 * y0 + x0 * y0 / 4294967296) / 4294967296) (by omega), wrapN ((x1 * y0 + x0 * y0 / 4294967296) % 4294967296 + x0 * y1) (by omega)]
  simp only [d32, ← Int.natCast_add]
  rw [wrapN _ (by omega), u64_wrap, emul]
  congr 2
  · congr 1
    generalize x1 * y1 = a at *
    generalize x1 * y0 = b at *
    generalize x0 * y1 = c at *
    generalize x0 * y0 = d at *
    omega
end Go.Proofs.YtebjbmgfbejapaaM
end

section
/- Layer 1 (nat), on: a row of a product, products, bits, equal lists. -/
namespace Go.Proofs.YtebjbmgfbejapaaM
open Go.RowKit Go.Proofs.YtebjbmgfbejapaaW.PrintWords Go.Proofs.YtebjbmgfbejapaaW.PrintLast Go.Proofs.YtebjbmgfbejapaaW.PrintMore Go.Proofs.YtebjbmgfbejapaaX Go.Proofs.Ytebjbmgfbejapaa.F
set_option linter.unusedVariables false
set_option linter.unusedSimpArgs false

/-- What stands in the limbs behind i limbs of a row: x times what was gone through is added. -/
structure RowInv (y l x2 : List Int) (x c : Int) (i : Nat) : Prop where
  w : wfW x2
  len : x2.length = l.length
  c0 : 0 ≤ c ∧ c < 18446744073709551616
  z : ∀ j, i ≤ j → x2.getD j 0 = l.getD j 0
  v : vW x2 + c * ((W : Nat) : Int) ^ i = vW l + x * vW (y.take i)
/-- One limb: two numbers of two limbs, carried. -/
theorem row_step (x y c l : Nat) (hx : x < 18446744073709551616) (hy : y < 18446744073709551616) (hc : c < 18446744073709551616) (hl : l < 18446744073709551616) :
    x * y / 18446744073709551616 < 18446744073709551616 ∧ x * y / 18446744073709551616 + (x * y % 18446744073709551616 + c) / 18446744073709551616 < 18446744073709551616 ∧ x * y / 18446744073709551616 + (x * y % 18446744073709551616 + c) / 18446744073709551616 + (l + (x * y % 18446744073709551616 + c) % 18446744073709551616) / 18446744073709551616 < 18446744073709551616 ∧
    (l + (x * y % 18446744073709551616 + c) % 18446744073709551616) % 18446744073709551616 + (x * y / 18446744073709551616 + (x * y % 18446744073709551616 + c) / 18446744073709551616 + (l + (x * y % 18446744073709551616 + c) % 18446744073709551616) / 18446744073709551616) * 18446744073709551616 = l + x * y + c := by
  have h1 : x * y ≤ 18446744073709551615 * 18446744073709551615 := Nat.mul_le_mul (by omega) (by omega)
  generalize x * y = p at *
  omega
theorem row_l0 (y l : List Int) (x : Int) (hy : wfW y) (hl : wfW l) (hx : 0 ≤ x ∧ x < 18446744073709551616) (hlen : y.length < l.length) (hm : l.length < 4611686018427387904) (hz : l.getD y.length 0 = 0) :
    ∀ d i : Nat, i + d = y.length → ∀ x2 c, RowInv y l x2 x c i → ∀ k, d < k → ∃ r, nat_Nat_row.l0 k x x2 c y (y.length : Int) (i : Int) y = some r ∧ wfW r ∧ r.length = l.length ∧ vW r = vW l + x * vW y ∧ ∀ j, y.length < j → r.getD j 0 = l.getD j 0 := by
  intro d
  induction d with
  | zero =>
    intro i hi x2 c h k hk
    obtain ⟨k, rfl⟩ : ∃ m, k = m + 1 := ⟨k - 1, by omega⟩
    have hi' : i = y.length := by omega
    subst hi'
    simp only [nat_Nat_row.l0, Int.toNat_natCast, rd_nat]
    rw [if_neg (by omega), if_pos (by omega), if_pos (by rw [h.len]; omega), h.z _ (Nat.le_refl _), hz, Int.zero_add, u64_id h.c0]
    have hv := h.v
    rw [show vW (y.take y.length) = vW y from vl_take_ge _ _ _ (by omega)] at hv
    refine ⟨_, rfl, wf_set h.w _ h.c0, by rw [List.length_set, h.len], ?_, fun j hj => ?_⟩
    · show vl _ _ = _
      rw [vl_set _ _ _ _ (by rw [h.len]; omega), h.z _ (Nat.le_refl _), hz, Int.sub_zero]
      simp only [vW] at hv ⊢
      rw [← hv, Int.mul_comm c]
    · rw [getD_set_ne _ _ _ _ _ (by omega)]
      exact h.z j (by omega)
  | succ d ih =>
    intro i hi x2 c h k hk
    obtain ⟨k, rfl⟩ : ∃ m, k = m + 1 := ⟨k - 1, by omega⟩
    have wy := wf_getD W_pos hy i
    have wl := wf_getD W_pos hl i
    have e1 : wrap64 ((i : Int) + 1) = ((i + 1 : Nat) : Int) := by rw [wrap_id (by omega)]; omega
    have hzi := h.z i (Nat.le_refl i)
    have hv := h.v
    have hc := h.c0
    obtain ⟨X, rfl⟩ := Int.eq_ofNat_of_zero_le hx.1
    obtain ⟨Y, hY⟩ := Int.eq_ofNat_of_zero_le wy.1
    obtain ⟨L, hL⟩ := Int.eq_ofNat_of_zero_le wl.1
    obtain ⟨C, rfl⟩ := Int.eq_ofNat_of_zero_le hc.1
    rw [hY, W_int] at wy
    rw [hL, W_int] at wl
    simp only [nat_Nat_row.l0, Int.toNat_natCast, rd_nat, e1, hzi, hY, hL]
    rw [if_pos (by omega), if_pos (by omega), if_pos (by omega), mul64_eq X Y (by omega) (by omega)]
    simp only [Option.bind_some]
    rw [if_pos (by rw [h.len]; omega)]
    obtain ⟨q0, q00, q1, q2⟩ := row_step X Y C L (by omega) (by omega) (by omega) (by omega)
    have p2 : X * Y % 18446744073709551616 < 18446744073709551616 := Nat.mod_lt _ (by decide)
    have f1 : add64s ((X * Y % 18446744073709551616 : Nat) : Int) (C : Int) 0 = (((X * Y % 18446744073709551616 + C) % 18446744073709551616 : Nat) : Int) := by unfold add64s; omega
    have f2 : add64c ((X * Y % 18446744073709551616 : Nat) : Int) (C : Int) 0 = (((X * Y % 18446744073709551616 + C) / 18446744073709551616 : Nat) : Int) := by unfold add64c; omega
    have f3 : ∀ s : Nat, add64s (L : Int) (s : Int) 0 = (((L + s) % 18446744073709551616 : Nat) : Int) := fun s => by unfold add64s; omega
    have f4 : ∀ s : Nat, add64c (L : Int) (s : Int) 0 = (((L + s) / 18446744073709551616 : Nat) : Int) := fun s => by unfold add64c; omega
    rw [f1, f2, f3, f4]
    simp only [← Int.natCast_add]
    rw [wrapN _ q00, ← Int.natCast_add, wrapN _ q1]
    refine ih (i + 1) (by omega) _ _ ⟨wf_set h.w i ?_, by rw [List.length_set, h.len], by omega, fun j hj => by rw [getD_set_ne _ _ _ _ _ (by omega)]; exact h.z j (by omega), ?_⟩ k (by omega)
    · have := Nat.mod_lt (L + (X * Y % 18446744073709551616 + C) % 18446744073709551616) (show 0 < 18446744073709551616 by decide)
      rw [W_int]
      omega
    · show vl _ _ + _ = vl _ _ + _ * vl _ _
      rw [vl_set _ _ _ _ (by rw [h.len]; omega), hzi, hL, vl_take_succ, hY, Int.pow_succ]
      simp only [vW] at hv
      generalize hp : ((W : Nat) : Int) ^ i = p at *
      have q3 : (((L + (X * Y % 18446744073709551616 + C) % 18446744073709551616) % 18446744073709551616 : Nat) : Int) + ((X * Y / 18446744073709551616 + (X * Y % 18446744073709551616 + C) / 18446744073709551616 + (L + (X * Y % 18446744073709551616 + C) % 18446744073709551616) / 18446744073709551616 : Nat) : Int) * ((W : Nat) : Int) = (L : Int) + (X : Int) * (Y : Int) + (C : Int) := by
        rw [← Int.natCast_mul, ← Int.natCast_add]
        show ((_ + _ * 18446744073709551616 : Nat) : Int) = _
        rw [q2, Int.natCast_add, Int.natCast_add, Int.natCast_mul]
      generalize (((L + (X * Y % 18446744073709551616 + C) % 18446744073709551616) % 18446744073709551616 : Nat) : Int) = s at *
      generalize ((X * Y / 18446744073709551616 + (X * Y % 18446744073709551616 + C) / 18446744073709551616 + (L + (X * Y % 18446744073709551616 + C) % 18446744073709551616) / 18446744073709551616 : Nat) : Int) = t at *
      generalize ((W : Nat) : Int) = w at *
      have e2 : p * (s + t * w) = p * ((L : Int) + (X : Int) * (Y : Int) + (C : Int)) := by rw [q3]
      grind
theorem row_eq (y l : List Int) (x : Int) (hy : wfW y) (hl : wfW l) (hx : 0 ≤ x ∧ x < 18446744073709551616) (hlen : y.length < l.length) (hm : l.length < 4611686018427387904) (hz : l.getD y.length 0 = 0) (k : Nat) (hk : y.length < k) :
    ∃ r, nat_Nat_row.f k y x l = some r ∧ wfW r ∧ r.length = l.length ∧ vW r = vW l + x * vW y ∧ ∀ j, y.length < j → r.getD j 0 = l.getD j 0 := by
  unfold nat_Nat_row.f
  exact row_l0 y l x hy hl hx hlen hm hz y.length 0 (Nat.zero_add _) l 0 ⟨hl, rfl, by omega, fun _ _ => rfl, by show vl _ l + 0 * _ = vl _ l + x * vl _ (y.take 0); rw [List.take_zero, show vl ((W : Nat) : Int) ([] : List Int) = 0 from rfl, Int.zero_mul, Int.mul_zero]⟩ k hk

/-- What stands in the limbs of a product behind i rows. -/
structure MulInv (a b x : List Int) (i : Nat) : Prop where
  w : wfW x
  len : x.length = a.length + b.length + 1
  z : ∀ j, i + a.length ≤ j → x.getD j 0 = 0
  v : vW x = vW a * vW (b.take i)
theorem mul_l0 (a b : List Int) (ha : wfW a) (hb : wfW b) (hm : a.length + b.length < 2199023255552) :
    ∀ d i : Nat, i + d = b.length → ∀ x, MulInv a b x i → Ev (fun k => nat_Nat_Mul.l0 k x b (b.length : Int) (i : Int) a) (lim (vW a * vW b).toNat) := by
  intro d
  induction d with
  | zero =>
    intro i hi x h
    have hi' : i = b.length := by omega
    subst hi'
    refine Ev.unroll ?_
    simp only [nat_Nat_Mul.l0]
    refine Ev.neg (by omega) ?_
    have hv := h.v
    rw [show vW (b.take b.length) = vW b from vl_take_ge _ _ _ (by omega)] at hv
    rw [← hv]
    exact Ev.bind (f := fun _ t => some t) (trimmed_ev x h.w (by rw [h.len]; omega)) (Ev.now _)
  | succ d ih =>
    intro i hi x h
    refine Ev.unroll ?_
    have e1 : wrap64 ((i : Int) + 1) = ((i + 1 : Nat) : Int) := by rw [wrap_id (by omega)]; omega
    simp only [nat_Nat_Mul.l0, e1, rd_nat]
    refine Ev.pos (by omega) (Ev.pos (by omega) (Ev.pos (by omega) (Ev.pos (by rw [h.len]; omega) ?_)))
    have wb := wf_getD W_pos hb i
    have hd : ((x.take ((x.length : Int)).toNat).drop ((i : Int)).toNat) = x.drop i := by rw [Int.toNat_natCast, Int.toNat_natCast, List.take_of_length_le (Nat.le_refl _)]
    have hdl : (x.drop i).length = a.length + b.length + 1 - i := by rw [List.length_drop, h.len]
    have hget : ∀ j, (x.drop i).getD j 0 = x.getD (i + j) 0 := fun j => by rw [List.getD_eq_getElem?_getD, List.getElem?_drop, List.getD_eq_getElem?_getD]
    have hr : ∃ r, (∀ k, a.length < k → nat_Nat_row.f k a (b.getD i 0) (x.drop i) = some r) ∧ wfW r ∧ r.length = (x.drop i).length ∧ vW r = vW (x.drop i) + b.getD i 0 * vW a ∧ ∀ j, a.length < j → r.getD j 0 = (x.drop i).getD j 0 := by
      have key := fun k hk => row_eq a (x.drop i) (b.getD i 0) ha (wf_drop h.w i) (by rw [W_int] at wb; exact wb) (by omega) (by omega) (by rw [hget]; exact h.z _ (Nat.le_refl _)) k hk
      obtain ⟨r, h1, h2⟩ := key (a.length + 1) (by omega)
      refine ⟨r, fun k hk => ?_, h2⟩
      exact at_rounds (nat_Nat_row.mono a (b.getD i 0) (x.drop i)) hk h1
    obtain ⟨r, r1, r2, r3, r4, r5⟩ := hr
    have hrow : Ev (fun k => nat_Nat_rowW.f k a (b.getD i 0) x (i : Int) (x.length : Int)) (x.take i ++ r) := by
      refine Ev.lt a.length (fun k hk => ?_)
      unfold nat_Nat_rowW.f
      rw [if_pos ⟨by omega, by rw [h.len]; omega, Int.le_refl _⟩, hd, r1 k hk]
      simp
    refine Ev.bind (f := fun k t => nat_Nat_Mul.l0 k t b (b.length : Int) ((i + 1 : Nat) : Int) a) hrow (ih (i + 1) (by omega) _ ?_)
    have htl : (x.take i).length = i := by rw [List.length_take, h.len]; omega
    refine ⟨wf_append (wf_take h.w i) r2, by rw [List.length_append, htl, r3, hdl]; omega, fun j hj => ?_, ?_⟩
    · rw [List.getD_eq_getElem?_getD, List.getElem?_append_right (by omega), ← List.getD_eq_getElem?_getD, htl, r5 _ (by omega), hget]
      exact h.z _ (by omega)
    · have hv := h.v
      have hsplit : vW x = vW (x.take i) + ((W : Nat) : Int) ^ i * vW (x.drop i) := by
        have := vl_append ((W : Nat) : Int) (x.take i) (x.drop i)
        rw [List.take_append_drop, htl] at this
        exact this
      show vl _ _ = _ * vl _ _
      rw [vl_append, htl, vl_take_succ]
      simp only [vW] at hv hsplit r4 ⊢
      rw [r4]
      rw [hsplit] at hv
      generalize ((W : Nat) : Int) ^ i = p at *
      generalize vl ((W : Nat) : Int) (x.take i) = s at *
      generalize vl ((W : Nat) : Int) (x.drop i) = t at *
      generalize vl ((W : Nat) : Int) a = u at *
      generalize vl ((W : Nat) : Int) (b.take i) = q at *
      grind
theorem mul_ev (a b : List Int) (ha : wfW a) (hb : wfW b) (la : a.length ≤ 1099511627775) (lb : b.length ≤ 1099511627775) : Ev (fun k => nat_Nat_Mul.f k a b) (lim (vW a * vW b).toNat) := by
  unfold nat_Nat_Mul.f
  have e1 : wrap64 (wrap64 ((a.length : Int) + (b.length : Int)) + 1) = ((a.length + b.length + 1 : Nat) : Int) := by
    rw [wrap_id (x := (a.length : Int) + (b.length : Int)) (by omega), wrap_id (by omega)]; omega
  simp only [e1, Int.toNat_natCast]
  refine Ev.pos (by omega) (Ev.pos (by omega) ?_)
  refine mul_l0 a b ha hb (by omega) _ 0 (Nat.zero_add _) _ ⟨wf_replicate W_pos _, List.length_replicate, fun j _ => ?_, ?_⟩
  · rw [List.getD_eq_getElem?_getD, List.getElem?_replicate]; split <;> rfl
  · show vl _ _ = _ * vl _ _
    rw [vl_replicate]
    simp [vl]

/-! bits -/
/-- How many binary digits. -/
def sz (n : Nat) : Nat := if n = 0 then 0 else n.log2 + 1
theorem sz_zero : sz 0 = 0 := rfl
theorem sz_lt (n : Nat) : n < 2 ^ sz n := by
  unfold sz
  split
  · next h => subst h; decide
  · exact Nat.lt_log2_self
theorem sz_le {n : Nat} (h : n ≠ 0) : 2 ^ (sz n - 1) ≤ n := by
  unfold sz
  rw [if_neg h, Nat.add_sub_cancel]
  exact Nat.log2_self_le h
theorem sz_unique {n m : Nat} (hm : 0 < m) (h1 : 2 ^ (m - 1) ≤ n) (h2 : n < 2 ^ m) : sz n = m := by
  have hn : n ≠ 0 := by have : 0 < 2 ^ (m - 1) := Nat.pow_pos (by decide); omega
  have h3 := sz_le hn
  have h4 := sz_lt n
  have h5 : 0 < sz n := by unfold sz; rw [if_neg hn]; omega
  have h6 : sz n - 1 < m := by
    rcases Nat.lt_or_ge (sz n - 1) m with h | h
    · exact h
    · have := Nat.pow_le_pow_right (n := 2) (by decide) h; omega
  have h7 : m - 1 < sz n := by
    rcases Nat.lt_or_ge (m - 1) (sz n) with h | h
    · exact h
    · have := Nat.pow_le_pow_right (n := 2) (by decide) h; omega
  omega
theorem sz_mul_pow {n : Nat} (hn : n ≠ 0) (m : Nat) : sz (n * 2 ^ m) = sz n + m := by
  have h5 : 0 < sz n := by unfold sz; rw [if_neg hn]; omega
  refine sz_unique (by omega) ?_ ?_
  · rw [show sz n + m - 1 = (sz n - 1) + m by omega, Nat.pow_add]
    exact Nat.mul_le_mul_right _ (sz_le hn)
  · rw [Nat.pow_add]
    exact Nat.mul_lt_mul_of_pos_right (sz_lt n) (Nat.pow_pos (by decide))
theorem sz_div (n m : Nat) (h : 2 ^ m ≤ n) : sz n = sz (n / 2 ^ m) + m := by
  have h0 : 0 < 2 ^ m := Nat.pow_pos (by decide)
  have hd : n / 2 ^ m ≠ 0 := by have := Nat.div_pos h h0; omega
  have h5 : 0 < sz (n / 2 ^ m) := by unfold sz; rw [if_neg hd]; omega
  refine sz_unique (by omega) ?_ ?_
  · rw [show sz (n / 2 ^ m) + m - 1 = (sz (n / 2 ^ m) - 1) + m by omega, Nat.pow_add]
    have := sz_le hd
    calc 2 ^ (sz (n / 2 ^ m) - 1) * 2 ^ m ≤ n / 2 ^ m * 2 ^ m := Nat.mul_le_mul_right _ this
      _ ≤ n := Nat.div_mul_le_self _ _
  · have h1 := sz_lt (n / 2 ^ m)
    rw [Nat.pow_add]
    exact (Nat.div_lt_iff_lt_mul h0).1 h1
theorem sz_mono {a b : Nat} (h : a ≤ b) : sz a ≤ sz b := by
  by_cases ha : a = 0
  · subst ha; exact Nat.zero_le _
  · have h1 := sz_le ha
    have h2 := sz_lt b
    rcases Nat.lt_or_ge (sz a - 1) (sz b) with h3 | h3
    · omega
    · have := Nat.pow_le_pow_right (n := 2) (by decide) h3; omega
end Go.Proofs.YtebjbmgfbejapaaM
end

section
/- Layer 1 (nat), on: bits, equal lists, and all of it told of numbers. -/
namespace Go.Proofs.YtebjbmgfbejapaaM
open Go.RowKit Go.Proofs.YtebjbmgfbejapaaW.PrintWords Go.Proofs.YtebjbmgfbejapaaW.PrintLast Go.Proofs.YtebjbmgfbejapaaW.PrintMore Go.Proofs.YtebjbmgfbejapaaX Go.Proofs.Ytebjbmgfbejapaa.F
set_option linter.unusedVariables false
set_option linter.unusedSimpArgs false
def len8tab : ByteArray := ⟨#[0, 1, 2, 2, 3, 3, 3, 3, 4, 4, 4, 4, 4, 4, 4, 4, 5, 5, 5, 5, 5, 5, 5, 5, 5, 5, 5, 5, 5, 5, 5, 5, 6, 6, 6, 6, 6, 6, 6, 6, 6, 6, 6, 6, 6, 6, 6, 6, 6, 6, 6, 6, 6, 6, 6, 6, 6, 6, 6, 6, 6, 6, 6, 6, 7, 7, 7, 7, 7, 7, 7, 7, 7, 7, 7, 7, 7, 7, 7, 7, 7, 7, 7, 7, 7, 7, 7, 7, 7, 7, 7, 7, 7, 7, 7, 7, 7, 7, 7, 7, 7, 7, 7, 7, 7, 7, 7, 7, 7, 7, 7, 7, 7, 7, 7, 7, 7, 7, 7, 7, 7, 7, 7, 7, 7, 7, 7, 7, 8, 8, 8, 8, 8, 8, 8, 8, 8, 8, 8, 8, 8, 8, 8, 8, 8, 8, 8, 8, 8, 8, 8, 8, 8, 8, 8, 8, 8, 8, 8, 8, 8, 8, 8, 8, 8, 8, 8, 8, 8, 8, 8, 8, 8, 8, 8, 8, 8, 8, 8, 8, 8, 8, 8, 8, 8, 8, 8, 8, 8, 8, 8, 8, 8, 8, 8, 8, 8, 8, 8, 8, 8, 8, 8, 8, 8, 8, 8, 8, 8, 8, 8, 8, 8, 8, 8, 8, 8, 8, 8, 8, 8, 8, 8, 8, 8, 8, 8, 8, 8, 8, 8, 8, 8, 8, 8, 8, 8, 8, 8, 8, 8, 8, 8, 8, 8, 8, 8, 8, 8, 8, 8, 8, 8, 8, 8, 8]⟩
theorem len8 : ∀ n : Fin 256, bt len8tab ((n.val : Nat) : Int) = ((sz n.val : Nat) : Int) := by decide +kernel
theorem len8n (n : Nat) (h : n < 256) : bt len8tab (n : Int) = ((sz n : Nat) : Int) := len8 ⟨n, h⟩
theorem sz_256 (n : Nat) (h : n < 256) : sz n ≤ 8 := by
  have := sz_mono (show n ≤ 255 by omega)
  have h2 : sz 255 = 8 := by decide
  omega
set_option maxRecDepth 100000 in
theorem len64_eq (n : Nat) (hn : n < 18446744073709551616) (k : Nat) (hk : 0 < k) : bits_Len64.f k (n : Int) = some ((sz n : Nat) : Int) := by
  obtain ⟨k, rfl⟩ : ∃ m, k = m + 1 := ⟨k - 1, by omega⟩
  have d1 : ∀ a : Nat, (a : Int) / 4294967296 = ((a / 4294967296 : Nat) : Int) := fun a => by omega
  have d2 : ∀ a : Nat, (a : Int) / 65536 = ((a / 65536 : Nat) : Int) := fun a => by omega
  have d3 : ∀ a : Nat, (a : Int) / 256 = ((a / 256 : Nat) : Int) := fun a => by omega
  have d4 : ∀ a : Nat, a < 256 → (a : Int) % 256 = (a : Int) := fun a h => by omega
  have leaf : ∀ (a m s : Nat), a < 256 → n = m → s ≤ 56 → sz n = sz a + s → wrap64 ((s : Int) + wrap64 ((sz a : Nat) : Int)) = ((sz n : Nat) : Int) := fun a m s ha _ hs he => by
    have := sz_256 a ha
    rw [wrap_id (x := ((sz a : Nat) : Int)) (by omega), wrap_id (by omega), he]; omega
  have key : ∀ (m s : Nat), m < 4294967296 → s ≤ 32 → sz n = sz m + s → bits_Len64.j0 (k + 1) (m : Int) (s : Int) = some ((sz n : Nat) : Int) := by
    intro m s hm hs he
    have w1 : wrap64 ((s : Int) + 16) = ((s + 16 : Nat) : Int) := by rw [wrap_id (by omega)]; omega
    have w2 : wrap64 (((s + 16 : Nat) : Int) + 8) = ((s + 24 : Nat) : Int) := by rw [wrap_id (by omega)]; omega
    have w3 : wrap64 ((s : Int) + 8) = ((s + 8 : Nat) : Int) := by rw [wrap_id (by omega)]; omega
    rw [bits_Len64.j0]
    simp only [d2, d3, w1, w2, w3]
    by_cases h1 : m < 65536
    · rw [if_neg (by omega)]
      by_cases h2 : m < 256
      · rw [if_neg (by omega), d4 m h2, if_pos (by omega), if_pos (by omega)]
        have := leaf m n s h2 rfl (by omega) he
        rw [← len8n m h2] at this
        exact congrArg some this
      · have hd : m / 256 < 256 := by omega
        rw [if_pos (by omega), d4 _ hd, if_pos (by omega), if_pos (by omega)]
        have := leaf (m / 256) n (s + 8) hd rfl (by omega) (by rw [he, sz_div m 8 (by omega), show (2 : Nat) ^ 8 = 256 from rfl]; omega)
        rw [← len8n _ hd] at this
        exact congrArg some this
    · rw [if_pos (by omega)]
      by_cases h2 : m / 65536 < 256
      · rw [if_neg (by omega), d4 _ h2, if_pos (by omega), if_pos (by omega)]
        have := leaf (m / 65536) n (s + 16) h2 rfl (by omega) (by rw [he, sz_div m 16 (by omega), show (2 : Nat) ^ 16 = 65536 from rfl]; omega)
        rw [← len8n _ h2] at this
        exact congrArg some this
      · have hd : m / 65536 / 256 < 256 := by omega
        rw [if_pos (by omega), d4 _ hd, if_pos (by omega), if_pos (by omega)]
        have := leaf (m / 65536 / 256) n (s + 24) hd rfl (by omega) (by rw [he, sz_div m 24 (by omega), show (2 : Nat) ^ 24 = 65536 * 256 from rfl, Nat.div_div_eq_div_mul]; omega)
        rw [← len8n _ hd] at this
        exact congrArg some this
  unfold bits_Len64.f
  by_cases h : n < 4294967296
  · rw [if_neg (by omega)]
    exact key n 0 h (by omega) rfl
  · rw [if_pos (by omega), d1]
    exact key (n / 4294967296) 32 (by omega) (by omega) (sz_div n 32 (by omega))
theorem lim_zero : lim 0 = [] := dg_zero W
theorem lim_pos {n : Nat} (h : n ≠ 0) : 0 < (lim n).length := by unfold lim; rw [dg_pos W2 h]; simp
theorem lim_len_le {n m : Nat} (h : n < W ^ m) : (lim n).length ≤ m := dg_len_le W2 h
theorem lim_lt (n : Nat) : n < W ^ (lim n).length := dg_lt W2 n
theorem lim_le {n : Nat} (h : n ≠ 0) : W ^ ((lim n).length - 1) ≤ n := dg_le W2 h
theorem W_pow (m : Nat) : W ^ m = 2 ^ (64 * m) := by rw [Nat.pow_mul]
theorem sz_limbs {n : Nat} (h : n ≠ 0) : sz n = sz (n / W ^ ((lim n).length - 1)) + 64 * ((lim n).length - 1) := by
  have := lim_le h
  rw [W_pow] at this ⊢
  exact sz_div n _ this
theorem top_lt {n : Nat} (h : n ≠ 0) : n / W ^ ((lim n).length - 1) < 18446744073709551616 := by
  rw [Nat.div_lt_iff_lt_mul (Nat.pow_pos (by decide))]
  have h1 := lim_lt n
  have h2 := lim_pos h
  rw [show (lim n).length = ((lim n).length - 1) + 1 by omega, Nat.pow_succ, Nat.mul_comm] at h1
  exact h1
theorem top_pos {n : Nat} (h : n ≠ 0) : n / W ^ ((lim n).length - 1) ≠ 0 := by
  have := Nat.div_pos (lim_le h) (Nat.pow_pos (n := (lim n).length - 1) (show 0 < W by decide))
  omega
theorem lim_top {n : Nat} (h : n ≠ 0) : (lim n).getD ((lim n).length - 1) 0 = ((n / W ^ ((lim n).length - 1) : Nat) : Int) := by
  unfold lim
  rw [dg_getD W2, Nat.mod_eq_of_lt]
  exact top_lt h
theorem sz_64 (n : Nat) (h : n < 18446744073709551616) : sz n ≤ 64 := by
  have := sz_mono (show n ≤ 18446744073709551615 by omega)
  have h2 : sz 18446744073709551615 = 64 := by decide +kernel
  omega
theorem bits_ev (n : Nat) (hl : (lim n).length ≤ 1099511627776) : Ev (fun k => nat_Nat_Bits.f k (lim n)) ((sz n : Nat) : Int) := by
  refine Ev.lt 0 (fun k hk => ?_)
  unfold nat_Nat_Bits.f
  rw [zero_eq, Option.bind_some]
  by_cases h : n = 0
  · subst h
    rfl
  · have hp := lim_pos h
    have ht := top_lt h
    have e1 : wrap64 (((lim n).length : Int) - 1) = (((lim n).length - 1 : Nat) : Int) := by rw [wrap_id (by omega)]; omega
    have e2 : wrap64 (64 * (((lim n).length - 1 : Nat) : Int)) = 64 * (((lim n).length - 1 : Nat) : Int) := wrap_id (by omega)
    rw [if_neg (by simpa using h), e1, if_pos (by omega), if_pos (by omega), rd_nat, lim_top h, len64_eq _ ht k hk, Option.bind_some, e2]
    have := sz_64 _ ht
    rw [wrap_id (by omega), sz_limbs h]
    congr 1
    omega

/-! equal lists -/
theorem eqU_l0 (a b : List Int) (hl : a.length = b.length) (hm : a.length < 4611686018427387904) : ∀ d i : Nat, i + d = a.length → a.take i = b.take i → ∀ k, d < k →
    slices_Equal_uint64_uint64.l0 k a b (a.length : Int) (i : Int) = some (decide (a = b)) := by
  intro d
  induction d with
  | zero =>
    intro i hi he k hk
    obtain ⟨k, rfl⟩ : ∃ m, k = m + 1 := ⟨k - 1, by omega⟩
    simp only [slices_Equal_uint64_uint64.l0]
    rw [if_neg (by omega)]
    rw [List.take_of_length_le (by omega), List.take_of_length_le (by omega)] at he
    simp [he]
  | succ d ih =>
    intro i hi he k hk
    obtain ⟨k, rfl⟩ : ∃ m, k = m + 1 := ⟨k - 1, by omega⟩
    have e1 : wrap64 ((i : Int) + 1) = ((i + 1 : Nat) : Int) := by rw [wrap_id (by omega)]; omega
    simp only [slices_Equal_uint64_uint64.l0, e1, rd_nat]
    rw [if_pos (by omega), if_pos (by omega), if_pos (by omega), if_pos (by omega)]
    by_cases h : a.getD i 0 = b.getD i 0
    · rw [if_pos h]
      refine ih (i + 1) (by omega) ?_ k (by omega)
      rw [List.take_succ_eq_append_getElem (by omega), List.take_succ_eq_append_getElem (by omega), he]
      rw [List.getD_eq_getElem?_getD, List.getD_eq_getElem?_getD, List.getElem?_eq_getElem (by omega), List.getElem?_eq_getElem (by omega)] at h
      simp only [Option.getD_some] at h
      rw [h]
    · rw [if_neg h]
      have : a ≠ b := fun e => h (by rw [e])
      simp [this]
theorem eqU_ev (a b : List Int) (hm : a.length < 4611686018427387904) : Ev (fun k => slices_Equal_uint64_uint64.f k a b) (decide (a = b)) := by
  unfold slices_Equal_uint64_uint64.f
  by_cases hl : a.length = b.length
  · refine Ev.pos (by omega) (Ev.lt a.length (fun k hk => ?_))
    exact eqU_l0 a b hl hm a.length 0 (Nat.zero_add _) rfl k hk
  · refine Ev.neg (by omega) (Ev.const ?_)
    have : a ≠ b := fun e => hl (by rw [e])
    simp [this]

/-! told of numbers -/
theorem len_add (a b : Nat) : (lim (a + b)).length ≤ max (lim a).length (lim b).length + 1 := by
  refine lim_len_le ?_
  have h1 := lim_lt a
  have h2 := lim_lt b
  have h3 : W ^ (lim a).length ≤ W ^ (max (lim a).length (lim b).length) := Nat.pow_le_pow_right (by decide) (by omega)
  have h4 : W ^ (lim b).length ≤ W ^ (max (lim a).length (lim b).length) := Nat.pow_le_pow_right (by decide) (by omega)
  rw [Nat.pow_succ]
  generalize W ^ (max (lim a).length (lim b).length) = p at *
  show a + b < p * 18446744073709551616
  omega
theorem len_mul (a b : Nat) : (lim (a * b)).length ≤ (lim a).length + (lim b).length := by
  refine lim_len_le ?_
  rw [Nat.pow_add]
  exact Nat.mul_lt_mul_of_lt_of_lt (lim_lt a) (lim_lt b)
theorem len_mono {a b : Nat} (h : a ≤ b) : (lim a).length ≤ (lim b).length := by
  rcases Nat.lt_or_ge (lim b).length (lim a).length with h1 | h1
  · have := lim_len_lt h1; omega
  · exact h1
theorem add_lim (a b : Nat) (la : (lim a).length ≤ 1099511627776) (lb : (lim b).length ≤ 1099511627776) : Ev (fun k => nat_Nat_Add.f k (lim a) (lim b)) (lim (a + b)) := by
  have := add_ev (lim a) (lim b) (lim_wf a) (lim_wf b) la lb
  rw [lim_v, lim_v, show ((a : Int) + (b : Int)).toNat = a + b by omega] at this
  exact this
theorem mul_lim (a b : Nat) (la : (lim a).length ≤ 1099511627775) (lb : (lim b).length ≤ 1099511627775) : Ev (fun k => nat_Nat_Mul.f k (lim a) (lim b)) (lim (a * b)) := by
  have := mul_ev (lim a) (lim b) (lim_wf a) (lim_wf b) la lb
  rw [lim_v, lim_v, show ((a : Int) * (b : Int)).toNat = a * b by rw [← Int.natCast_mul, Int.toNat_natCast]] at this
  exact this
theorem sg_self (a : Nat) : sg a a = 0 := by unfold sg; rw [if_neg (Nat.lt_irrefl a), if_pos rfl]
theorem sg_eq {a b : Nat} (h : a = b) : sg a b = 0 := by subst h; exact sg_self a
theorem sg_neg (a b : Nat) : sg b a = - sg a b := by unfold sg; split <;> split <;> (try split) <;> omega
theorem sg_bd (a b : Nat) : -1 ≤ sg a b ∧ sg a b ≤ 1 := by unfold sg; split <;> (try split) <;> omega
theorem wakes1 : Ev (fun k => chattellaw01_wakes.f k) true := Ev.of (fun k => chattellaw01_wakes.mono k) (k := 8) (by decide +kernel)
/-- What a law is handed, as it is told of limbs: they are limbs. -/
theorem wf_of {l : List Int} (h : ∀ x ∈ l, (Lit.int .u64 x).wf = true) : wfW l := by
  intro x hx
  have := h x hx
  simp only [Lit.wf, Bool.and_eq_true, decide_eq_true_eq] at this
  have e1 : IntKind.u64.max = 18446744073709551615 := rfl
  have e2 : IntKind.u64.min = 0 := rfl
  rw [e1, e2] at this
  rw [W_int]
  exact ⟨this.1, by have := this.2; omega⟩
/-- The number that some limbs, at most n, are made to. -/
theorem cut_num {l : List Int} (h : ∀ x ∈ l, (Lit.int .u64 x).wf = true) (n : Nat) : ∃ a : Nat, vW (l.take n) = a ∧ (lim a).length ≤ n ∧ wfW (l.take n) ∧ (l.take n).length ≤ n := by
  have h1 := wf_take (wf_of h) n
  have h2 := vl_nonneg W_pos h1
  obtain ⟨a, ha⟩ := Int.eq_ofNat_of_zero_le h2
  refine ⟨a, ha, ?_, h1, List.length_take_le _ _⟩
  have h3 := vl_lt W_pos h1
  rw [ha, ← Int.natCast_pow] at h3
  have h4 : a < W ^ (l.take n).length := Int.ofNat_lt.1 h3
  have := lim_len_le h4
  have := List.length_take_le n l
  omega
theorem of_lim {l : List Int} {a n : Nat} (h1 : vW l = a) (h2 : wfW l) (h3 : l.length ≤ n) (hn : n < 17592186044416) : Ev (fun k => nat_Of.f k l) (lim a) := by
  have := of_ev l h2 (by omega)
  rw [h1, Int.toNat_natCast] at this
  exact this
end Go.Proofs.YtebjbmgfbejapaaM
end

section
/- The reference of layer 1 as plain functions, told of the numbers that its digits stand for. -/
namespace Go.Proofs.YtebjbmgfbejapaaM
open Go.RowKit Go.Proofs.YtebjbmgfbejapaaW.PrintWords Go.Proofs.YtebjbmgfbejapaaW.PrintLast Go.Proofs.YtebjbmgfbejapaaW.PrintMore Go.Proofs.YtebjbmgfbejapaaX Go.Proofs.Ytebjbmgfbejapaa.F
set_option linter.unusedVariables false
set_option linter.unusedSimpArgs false
theorem D2 : 2 ≤ 10000 := by decide
/-- A number's digits to the base 10000. -/
def dig (n : Nat) : List Int := dg 10000 n
abbrev wfD (l : List Int) : Prop := wf ((10000 : Nat) : Int) l
abbrev vD (l : List Int) : Int := vl ((10000 : Nat) : Int) l
theorem D_pos : (0 : Int) < ((10000 : Nat) : Int) := by decide
theorem D_int : ((10000 : Nat) : Int) = 10000 := rfl
theorem dig_wf (n : Nat) : wfD (dig n) := dg_wf D2 n
theorem dig_v (n : Nat) : vD (dig n) = n := dg_vl D2 n
theorem dig_zero : dig 0 = [] := dg_zero 10000
theorem dig_nil {n : Nat} : (dig n).length = 0 ↔ n = 0 := by
  constructor
  · intro h
    by_cases h0 : n = 0
    · exact h0
    · unfold dig at h; rw [dg_pos D2 h0] at h; simp at h
  · intro h; subst h; rw [dig_zero]; rfl
theorem dig_len_le {n m : Nat} (h : n < 10000 ^ m) : (dig n).length ≤ m := dg_len_le D2 h
theorem dig_lt (n : Nat) : n < 10000 ^ (dig n).length := dg_lt D2 n
theorem dig_le {n : Nat} (h : n ≠ 0) : 10000 ^ ((dig n).length - 1) ≤ n := dg_le D2 h
theorem dig_inj {a b : Nat} (h : dig a = dig b) : a = b := dg_inj D2 h
theorem dlen_lt {a b : Nat} (h : (dig a).length < (dig b).length) : a < b := by
  have h1 := dig_lt a
  have h2 : b ≠ 0 := fun h0 => by subst h0; rw [dig_zero] at h; simp at h
  have h3 := dig_le h2
  have h4 : 10000 ^ (dig a).length ≤ 10000 ^ ((dig b).length - 1) := Nat.pow_le_pow_right (by decide) (by omega)
  omega
theorem dlen_mono {a b : Nat} (h : a ≤ b) : (dig a).length ≤ (dig b).length := by
  rcases Nat.lt_or_ge (dig b).length (dig a).length with h1 | h1
  · have := dlen_lt h1; omega
  · exact h1
theorem dlen_add (a b : Nat) : (dig (a + b)).length ≤ max (dig a).length (dig b).length + 1 := by
  refine dig_len_le ?_
  have h1 := dig_lt a
  have h2 := dig_lt b
  have h3 : 10000 ^ (dig a).length ≤ 10000 ^ (max (dig a).length (dig b).length) := Nat.pow_le_pow_right (by decide) (by omega)
  have h4 : 10000 ^ (dig b).length ≤ 10000 ^ (max (dig a).length (dig b).length) := Nat.pow_le_pow_right (by decide) (by omega)
  rw [Nat.pow_succ]
  generalize 10000 ^ (max (dig a).length (dig b).length) = p at *
  omega
theorem dlen_mul (a b : Nat) : (dig (a * b)).length ≤ (dig a).length + (dig b).length := by
  refine dig_len_le ?_
  rw [Nat.pow_add]
  exact Nat.mul_lt_mul_of_lt_of_lt (dig_lt a) (dig_lt b)
/-- 4999 digits are at most 40 limbs' .. : digits out of limbs. -/
theorem dlen_lim (n : Nat) : (dig n).length ≤ 5 * (lim n).length := by
  refine dig_len_le ?_
  have h1 := lim_lt n
  rw [Nat.pow_mul]
  exact Nat.lt_of_lt_of_le h1 (Nat.pow_le_pow_left (by decide) _)

theorem Trim_l0 (x : List Int) (hx : wfD x) (hl : x.length < 4611686018427387904) : ∀ n : Nat, n ≤ x.length → vD (x.take n) = vD x → ∀ k, n < k → chattelref01_Trim.l0 k x (n : Int) = some (dig (vD x).toNat) := by
  intro n
  induction n with
  | zero =>
    intro hn hv k hk
    obtain ⟨k, rfl⟩ : ∃ m, k = m + 1 := ⟨k - 1, by omega⟩
    simp only [chattelref01_Trim.l0]
    rw [if_neg (by omega), if_pos (by omega), if_pos (by omega)]
    have : vD x = 0 := by rw [← hv]; rfl
    rw [this]
    show some (x.take 0) = some (dg 10000 0)
    rw [dg_zero]
    rfl
  | succ n ih =>
    intro hn hv k hk
    obtain ⟨k, rfl⟩ : ∃ m, k = m + 1 := ⟨k - 1, by omega⟩
    have e1 : wrap64 (((n + 1 : Nat) : Int) - 1) = (n : Int) := by rw [wrap_id (by omega)]; omega
    simp only [chattelref01_Trim.l0]
    rw [if_pos (by omega), e1, if_pos (by omega), if_pos (by omega), rd_nat]
    by_cases h0 : x.getD n 0 = 0
    · rw [if_pos h0]
      refine ih (by omega) ?_ k (by omega)
      rw [← hv]
      show vl _ _ = vl _ _
      rw [vl_take_succ, h0, Int.mul_zero, Int.add_zero]
    · rw [if_neg h0, if_pos (by omega), if_pos (by omega), Int.toNat_natCast]
      have h1 := dg_of D2 (wf_take hx (n + 1)) (fun hne => by
        have h2 : (x.take (n + 1)).getLast hne = x.getD n 0 := by
          have h3 : (x.take (n + 1)).length = n + 1 := by rw [List.length_take]; omega
          rw [List.getLast_eq_getElem, List.getElem_take, List.getD_eq_getElem?_getD, List.getElem?_eq_getElem (by omega)]
          simp [h3]
        rw [h2]; exact h0)
      rw [← h1]
      show some (dig _) = _
      rw [show vl ((10000 : Nat) : Int) (x.take (n + 1)) = vD x from hv]
theorem Trim_ev (x : List Int) (hx : wfD x) (hl : x.length < 4611686018427387904) : Ev (fun k => chattelref01_Trim.f k x) (dig (vD x).toNat) := by
  refine Ev.lt x.length (fun k hk => ?_)
  unfold chattelref01_Trim.f
  exact Trim_l0 x hx hl x.length (Nat.le_refl _) (vl_take_ge _ _ _ (Nat.le_refl _)) k hk
theorem at_eq (l : List Int) (i : Nat) : chattelref01_at.f l (i : Int) = some (l.getD i 0) := by
  unfold chattelref01_at.f
  by_cases h : l.length ≤ i
  · rw [if_pos (by omega), List.getD_eq_getElem?_getD, List.getElem?_eq_none h]; rfl
  · rw [if_neg (by omega), if_pos (by omega), if_pos (by omega), rd_nat]
theorem tdiv_pos {a b : Int} (h : 0 ≤ a) : Int.tdiv a b = a / b := Int.tdiv_eq_ediv_of_nonneg h
theorem tmod_pos {a b : Int} (h : 0 ≤ a) : Int.tmod a b = a % b := Int.tmod_eq_emod_of_nonneg h

/-! sums -/
structure RAddInv (a b x : List Int) (c : Int) (i : Nat) : Prop where
  w : wfD x
  len : x.length = i
  c0 : 0 ≤ c ∧ c ≤ 1
  v : vD x + c * ((10000 : Nat) : Int) ^ i = vD (a.take i) + vD (b.take i)
theorem RAdd_l0 (a b : List Int) (ha : wfD a) (hb : wfD b) (m : Nat) (hm : m < 17592186044415) (hma : a.length ≤ m ∧ b.length ≤ m) :
    ∀ d i : Nat, i + d = m + 1 → ∀ x c, RAddInv a b x c i → Ev (fun k => chattelref01_Add.l0 k a b x c (i : Int)) (dig (vD a + vD b).toNat) := by
  intro d
  have fin : ∀ i : Nat, a.length ≤ i → b.length ≤ i → i ≤ m + 1 → ∀ x c, RAddInv a b x c i → c = 0 → Ev (fun k => chattelref01_Add.j1 k a b x c (i : Int) false) (dig (vD a + vD b).toNat) := by
    intro i h1 h2 h3 x c h hc
    refine Ev.unroll ?_
    simp only [chattelref01_Add.j1]
    refine Ev.neg (by decide) ?_
    have hv := h.v
    rw [show vD (a.take i) = vD a from vl_take_ge _ _ _ h1, show vD (b.take i) = vD b from vl_take_ge _ _ _ h2, hc, Int.zero_mul, Int.add_zero] at hv
    rw [← hv]
    exact Ev.bind (f := fun _ t => some t) (Trim_ev x h.w (by rw [h.len]; omega)) (Ev.now _)
  induction d with
  | zero =>
    intro i hi x c h
    have hi' : i = m + 1 := by omega
    subst hi'
    have hc : c = 0 := by
      have hv := h.v
      rw [show vD (a.take (m + 1)) = vD a from vl_take_ge _ _ _ (by omega), show vD (b.take (m + 1)) = vD b from vl_take_ge _ _ _ (by omega)] at hv
      have h1 := vl_lt D_pos ha
      have h2 := vl_lt D_pos hb
      have h3 := vl_nonneg D_pos h.w
      have h4 : ((10000 : Nat) : Int) ^ a.length ≤ ((10000 : Nat) : Int) ^ m := by
        rw [← Int.natCast_pow, ← Int.natCast_pow]; exact Int.ofNat_le.2 (Nat.pow_le_pow_right (by decide) (by omega))
      have h5 : ((10000 : Nat) : Int) ^ b.length ≤ ((10000 : Nat) : Int) ^ m := by
        rw [← Int.natCast_pow, ← Int.natCast_pow]; exact Int.ofNat_le.2 (Nat.pow_le_pow_right (by decide) (by omega))
      have h6 : ((10000 : Nat) : Int) ^ (m + 1) = ((10000 : Nat) : Int) ^ m * 10000 := Int.pow_succ _ _
      have h7 : 0 ≤ ((10000 : Nat) : Int) ^ m := Int.pow_nonneg (by decide)
      rcases Int.le_iff_lt_or_eq.1 h.c0.1 with h8 | h8
      · have h9 : c = 1 := by have := h.c0.2; omega
        rw [h9, h6] at hv
        simp only [vD] at hv
        omega
      · exact h8.symm
    refine Ev.unroll ?_
    simp only [chattelref01_Add.l0]
    refine Ev.neg (by omega) (Ev.neg (by omega) ?_)
    rw [decide_eq_false (by omega)]
    exact fin (m + 1) (by omega) (by omega) (Nat.le_refl _) x c h hc
  | succ d ih =>
    intro i hi x c h
    have go : Ev (fun k => chattelref01_Add.j1 k a b x c (i : Int) true) (dig (vD a + vD b).toNat) := by
      refine Ev.unroll ?_
      simp only [chattelref01_Add.j1]
      refine Ev.pos (by decide) ?_
      have wa := wf_getD D_pos ha i
      have wb := wf_getD D_pos hb i
      rw [D_int] at wa wb
      have hc := h.c0
      have e1 : wrap64 ((i : Int) + 1) = ((i + 1 : Nat) : Int) := by rw [wrap_id (by omega)]; omega
      have e2 : wrap64 (wrap64 (a.getD i 0 + b.getD i 0) + c) = a.getD i 0 + b.getD i 0 + c := by rw [wrap_id (x := a.getD i 0 + b.getD i 0) (by omega), wrap_id (by omega)]
      simp only [at_eq, Option.bind_some, e1, e2]
      rw [tdiv_pos (by omega), tmod_pos (by omega), wrap_id (x := (a.getD i 0 + b.getD i 0 + c) / 10000) (by omega)]
      refine Ev.pos (by rw [h.len]; omega) ?_
      refine ih (i + 1) (by omega) _ _ ⟨wf_append h.w (wf_cons.2 ⟨by rw [D_int]; omega, wf_nil _⟩), by rw [List.length_append, h.len]; rfl, by omega, ?_⟩
      have hv := h.v
      show vl _ _ + _ = vl _ _ + vl _ _
      rw [vl_append, h.len, vl_take_succ, vl_take_succ, Int.pow_succ]
      simp only [vD, vl] at hv ⊢
      have e3 : (a.getD i 0 + b.getD i 0 + c) % 10000 + 10000 * ((a.getD i 0 + b.getD i 0 + c) / 10000) = a.getD i 0 + b.getD i 0 + c := Int.emod_add_mul_ediv _ _
      generalize (a.getD i 0 + b.getD i 0 + c) % 10000 = s at *
      generalize (a.getD i 0 + b.getD i 0 + c) / 10000 = q at *
      rw [D_int] at *
      generalize (10000 : Int) ^ i = p at *
      have e4 : p * (s + 10000 * q) = p * (a.getD i 0 + b.getD i 0 + c) := by rw [e3]
      grind
    refine Ev.unroll ?_
    simp only [chattelref01_Add.l0]
    by_cases h1 : i < a.length
    · exact Ev.pos (by omega) go
    · refine Ev.neg (by omega) ?_
      by_cases h2 : i < b.length
      · exact Ev.pos (by omega) go
      · refine Ev.neg (by omega) ?_
        by_cases h3 : c > 0
        · rw [decide_eq_true h3]; exact go
        · rw [decide_eq_false h3]
          exact fin i (by omega) (by omega) (by omega) x c h (by have := h.c0; omega)
theorem RAdd_ev (a b : Nat) (la : (dig a).length < 17592186044415) (lb : (dig b).length < 17592186044415) : Ev (fun k => chattelref01_Add.f k (dig a) (dig b)) (dig (a + b)) := by
  unfold chattelref01_Add.f
  have := RAdd_l0 (dig a) (dig b) (dig_wf a) (dig_wf b) (max (dig a).length (dig b).length) (by omega) (by omega) _ 0 (Nat.zero_add _) [] 0 ⟨wf_nil _, rfl, by omega, rfl⟩
  rw [dig_v, dig_v, show ((a : Int) + (b : Int)).toNat = a + b by omega] at this
  exact this

/-! differences -/
structure RSubInv (a b x : List Int) (c : Int) (i : Nat) : Prop where
  w : wfD x
  len : x.length = i
  c0 : 0 ≤ c ∧ c ≤ 1
  v : vD x - c * ((10000 : Nat) : Int) ^ i = vD (a.take i) - vD (b.take i)
theorem RSub_l0 (a b : List Int) (ha : wfD a) (hb : wfD b) (hm : a.length < 17592186044415) (hlen : b.length ≤ a.length) (hle : vD b ≤ vD a) :
    ∀ d i : Nat, i + d = a.length → ∀ x c, RSubInv a b x c i → Ev (fun k => chattelref01_Sub.l0 k a b x c (i : Int)) (dig (vD a - vD b).toNat) := by
  intro d
  induction d with
  | zero =>
    intro i hi x c h
    have hi' : i = a.length := by omega
    subst hi'
    refine Ev.unroll ?_
    simp only [chattelref01_Sub.l0]
    refine Ev.neg (by omega) ?_
    have hv := h.v
    rw [show vD (a.take a.length) = vD a from vl_take_ge _ _ _ (by omega), show vD (b.take a.length) = vD b from vl_take_ge _ _ _ (by omega)] at hv
    have hc : c = 0 := by
      have h1 := vl_lt D_pos h.w
      rw [h.len] at h1
      rcases Int.le_iff_lt_or_eq.1 h.c0.1 with h8 | h8
      · have h9 : c = 1 := by have := h.c0.2; omega
        rw [h9] at hv
        simp only [vD] at hv hle
        omega
      · exact h8.symm
    rw [hc, Int.zero_mul, Int.sub_zero] at hv
    rw [← hv]
    exact Ev.bind (f := fun _ t => some t) (Trim_ev x h.w (by rw [h.len]; omega)) (Ev.now _)
  | succ d ih =>
    intro i hi x c h
    refine Ev.unroll ?_
    simp only [chattelref01_Sub.l0]
    have wa := wf_getD D_pos ha i
    have wb := wf_getD D_pos hb i
    rw [D_int] at wa wb
    have hc := h.c0
    have e1 : wrap64 ((i : Int) + 1) = ((i + 1 : Nat) : Int) := by rw [wrap_id (by omega)]; omega
    have e2 : wrap64 (wrap64 (a.getD i 0 - b.getD i 0) - c) = a.getD i 0 - b.getD i 0 - c := by rw [wrap_id (x := a.getD i 0 - b.getD i 0) (by omega), wrap_id (by omega)]
    simp only [at_eq, Option.bind_some, e1, rd_nat, e2]
    refine Ev.pos (by omega) (Ev.pos (by omega) ?_)
    have hv := h.v
    have stp : ∀ (s q : Int), 0 ≤ s ∧ s < 10000 → 0 ≤ q ∧ q ≤ 1 → s - 10000 * q = a.getD i 0 - b.getD i 0 - c → Ev (fun k => chattelref01_Sub.l0 k a b (x ++ [s]) q ((i + 1 : Nat) : Int)) (dig (vD a - vD b).toNat) := by
      intro s q hs hq e3
      refine ih (i + 1) (by omega) _ _ ⟨wf_append h.w (wf_cons.2 ⟨by rw [D_int]; exact hs, wf_nil _⟩), by rw [List.length_append, h.len]; rfl, hq, ?_⟩
      show vl _ _ - _ = vl _ _ - vl _ _
      rw [vl_append, h.len, vl_take_succ, vl_take_succ, Int.pow_succ]
      simp only [vD, vl] at hv ⊢
      rw [D_int] at *
      generalize (10000 : Int) ^ i = p at *
      have e4 : p * (s - 10000 * q) = p * (a.getD i 0 - b.getD i 0 - c) := by rw [e3]
      grind
    by_cases h1 : a.getD i 0 - b.getD i 0 - c < 0
    · refine Ev.pos h1 (Ev.pos (by rw [h.len]; omega) ?_)
      rw [wrap_id (x := a.getD i 0 - b.getD i 0 - c + 10000) (by omega)]
      exact stp _ 1 (by omega) (by omega) (by omega)
    · refine Ev.neg h1 (Ev.pos (by rw [h.len]; omega) ?_)
      exact stp _ 0 (by omega) (by omega) (by omega)
theorem RSub_ev (a b : Nat) (hle : b ≤ a) (la : (dig a).length < 17592186044415) : Ev (fun k => chattelref01_Sub.f k (dig a) (dig b)) (dig (a - b)) := by
  unfold chattelref01_Sub.f
  have hlen : (dig b).length ≤ (dig a).length := by
    rcases Nat.lt_or_ge (dig a).length (dig b).length with h1 | h1
    · have := dlen_lt h1; omega
    · exact h1
  have := RSub_l0 (dig a) (dig b) (dig_wf a) (dig_wf b) la hlen (by rw [dig_v, dig_v]; omega) _ 0 (Nat.zero_add _) [] 0 ⟨wf_nil _, rfl, by omega, rfl⟩
  rw [dig_v, dig_v, show ((a : Int) - (b : Int)).toNat = a - b by omega] at this
  exact this

/-! order -/
theorem RCmp_l0 (a b : List Int) (ha : wfD a) (hb : wfD b) (hl : a.length = b.length) (hm : a.length < 4611686018427387904) : ∀ n : Nat, n ≤ a.length →
    (vD (a.take n) < vD (b.take n) ↔ vD a < vD b) → (vD (a.take n) = vD (b.take n) ↔ vD a = vD b) → ∀ k, n < k → chattelref01_Cmp.l0 k a b ((n : Int) - 1) = some (if vD a < vD b then -1 else if vD a = vD b then 0 else 1) := by
  intro n
  induction n with
  | zero =>
    intro hn h1 h2 k hk
    obtain ⟨k, rfl⟩ : ∃ m, k = m + 1 := ⟨k - 1, by omega⟩
    simp only [chattelref01_Cmp.l0]
    rw [if_neg (by omega)]
    have h3 : vD a = vD b := h2.1 rfl
    rw [if_neg (by omega), if_pos h3]
  | succ n ih =>
    intro hn h1 h2 k hk
    obtain ⟨k, rfl⟩ : ∃ m, k = m + 1 := ⟨k - 1, by omega⟩
    have e1 : ((n + 1 : Nat) : Int) - 1 = (n : Int) := by omega
    have e2 : wrap64 ((n : Int) - 1) = (n : Int) - 1 := wrap_id (by omega)
    simp only [chattelref01_Cmp.l0, e1, e2, rd_nat]
    rw [if_pos (by omega), if_pos (by omega), if_pos (by omega), if_pos (by omega)]
    obtain ⟨s1, s2, s3⟩ := sg_step D_pos ha hb n h1 h2 (by omega) (by omega)
    by_cases c1 : a.getD n 0 < b.getD n 0
    · have := s1 c1
      rw [if_pos c1, if_pos this]
    · by_cases c2 : a.getD n 0 = b.getD n 0
      · rw [if_neg c1, if_neg (by omega)]
        exact ih (by omega) (s3 c2).1 (s3 c2).2 k (by omega)
      · have := s2 (by omega)
        simp only [vD]
        rw [if_neg c1, if_pos (by omega), if_neg (by omega), if_neg (by omega)]
theorem RCmp_ev (a b : Nat) (ha : (dig a).length < 4611686018427387904) (hb : (dig b).length < 4611686018427387904) : Ev (fun k => chattelref01_Cmp.f k (dig a) (dig b)) (sg a b) := by
  unfold chattelref01_Cmp.f
  rcases Nat.lt_trichotomy (dig a).length (dig b).length with h | h | h
  · have := dlen_lt h
    refine Ev.neg (by omega) (Ev.pos (by omega) (Ev.const ?_))
    unfold sg; rw [if_pos this]
  · refine Ev.pos (by omega) (Ev.lt (dig a).length (fun k hk => ?_))
    rw [wrap_id (by omega)]
    rw [RCmp_l0 (dig a) (dig b) (dig_wf a) (dig_wf b) h ha (dig a).length (Nat.le_refl _) (by rw [List.take_of_length_le (Nat.le_refl _), List.take_of_length_le (by omega)]) (by rw [List.take_of_length_le (Nat.le_refl _), List.take_of_length_le (by omega)]) k hk]
    rw [dig_v, dig_v]
    unfold sg
    congr 1
    by_cases h1 : a < b
    · rw [if_pos h1, if_pos (by omega)]
    · rw [if_neg h1, if_neg (by omega)]
      by_cases h2 : a = b
      · rw [if_pos h2, if_pos (by omega)]
      · rw [if_neg h2, if_neg (by omega)]
  · have := dlen_lt h
    refine Ev.neg (by omega) (Ev.neg (by omega) (Ev.const ?_))
    unfold sg; rw [if_neg (by omega), if_neg (by omega)]

/-! small numbers -/
theorem Small_l0 (n : Nat) : n < 9223372036854775808 → ∀ x : List Int, x.length + (dig n).length < 17592186044416 → Ev (fun k => chattelref01_Small.l0 k (n : Int) x) (x ++ dig n) := by
  induction n using Nat.strongRecOn with
  | _ n ih =>
    intro hn x hx
    refine Ev.unroll ?_
    simp only [chattelref01_Small.l0]
    by_cases h0 : n = 0
    · subst h0
      refine Ev.neg (by omega) (Ev.const ?_)
      rw [dig_zero, List.append_nil]
    · refine Ev.pos (by omega) ?_
      have e0 : dig n = ((n % 10000 : Nat) : Int) :: dig (n / 10000) := dg_pos D2 h0
      rw [e0, List.length_cons] at hx
      refine Ev.pos (by omega) ?_
      rw [tdiv_pos (by omega), tmod_pos (by omega), wrap_id (by omega), show (n : Int) / 10000 = ((n / 10000 : Nat) : Int) by omega, show (n : Int) % 10000 = ((n % 10000 : Nat) : Int) by omega]
      have := ih (n / 10000) (by omega) (by omega) (x ++ [((n % 10000 : Nat) : Int)]) (by rw [List.length_append, List.length_singleton]; omega)
      rw [e0]
      rw [List.append_assoc, List.singleton_append] at this
      exact this
theorem Small_ev (n : Nat) (hn : n < 9223372036854775808) : Ev (fun k => chattelref01_Small.f k (n : Int)) (dig n) := by
  unfold chattelref01_Small.f
  have hl : (dig n).length ≤ 5 := dig_len_le (by omega)
  have := Small_l0 n hn [] (by simp; omega)
  rw [List.nil_append] at this
  exact this
end Go.Proofs.YtebjbmgfbejapaaM
end

section
/- The reference of layer 1, on: products, and what limbs are read as. -/
namespace Go.Proofs.YtebjbmgfbejapaaM
open Go.RowKit Go.Proofs.YtebjbmgfbejapaaW.PrintWords Go.Proofs.YtebjbmgfbejapaaW.PrintLast Go.Proofs.YtebjbmgfbejapaaW.PrintMore Go.Proofs.YtebjbmgfbejapaaX Go.Proofs.Ytebjbmgfbejapaa.F
set_option linter.unusedVariables false
set_option linter.unusedSimpArgs false

structure RMulInv (a b x : List Int) (i j : Nat) (c : Int) : Prop where
  w : wfD x
  len : x.length = a.length + b.length + 1
  c0 : 0 ≤ c ∧ c ≤ 9999
  v : vD x + c * ((10000 : Nat) : Int) ^ (i + j) = vD (a.take i) * vD b + a.getD i 0 * ((10000 : Nat) : Int) ^ i * vD (b.take j)
theorem RMul_step {x y c l : Int} (hx : 0 ≤ x ∧ x < 10000) (hy : 0 ≤ y ∧ y < 10000) (hc : 0 ≤ c ∧ c ≤ 9999) (hl : 0 ≤ l ∧ l < 10000) : 0 ≤ x * y ∧ x * y ≤ 99980001 := by
  refine ⟨Int.mul_nonneg hx.1 hy.1, ?_⟩
  have h1 : x * y ≤ 9999 * y := Int.mul_le_mul_of_nonneg_right (by omega) hy.1
  omega
theorem RMul_num {x y c l : Int} (hx : 0 ≤ x ∧ x < 10000) (hy : 0 ≤ y ∧ y < 10000) (hc : 0 ≤ c ∧ c ≤ 9999) (hl : 0 ≤ l ∧ l < 10000) :
    wrap64 (wrap64 (l + wrap64 (x * y)) + c) = l + x * y + c ∧ Int.tmod (l + x * y + c) 10000 = (l + x * y + c) % 10000 ∧ wrap64 (Int.tdiv (l + x * y + c) 10000) = (l + x * y + c) / 10000 ∧
    (0 ≤ (l + x * y + c) % 10000 ∧ (l + x * y + c) % 10000 < 10000) ∧ (0 ≤ (l + x * y + c) / 10000 ∧ (l + x * y + c) / 10000 ≤ 9999) := by
  obtain ⟨m1, m2⟩ := RMul_step hx hy hc hl
  generalize x * y = m at *
  have e1 : wrap64 m = m := wrap_id (by omega)
  have e2 : wrap64 (l + m) = l + m := wrap_id (by omega)
  have e3 : wrap64 (l + m + c) = l + m + c := wrap_id (by omega)
  rw [e1, e2, e3, tdiv_pos (by omega), tmod_pos (by omega)]
  exact ⟨rfl, rfl, wrap_id (by omega), by omega, by omega⟩
theorem RMul_val {p r x c X Y A B l s q : Int} (hv : X + c * (p * r) = A + Y) (e3 : s + 10000 * q = l + x * B + c) : X + p * r * (s - l) + q * (p * r * 10000) = A + (Y + x * p * (r * B)) := by
  have e4 : p * r * (s + 10000 * q) = p * r * (l + x * B + c) := by rw [e3]
  grind
theorem RMul_put (a b : List Int) (ha : wfD a) (hb : wfD b) (hm : a.length + b.length < 2199023255552) (i j : Nat) (hi : i < a.length) (hj : j ≤ b.length) (x : List Int) (c : Int) (h : RMulInv a b x i j c) (r : List Int)
    (k1 : ∀ x c, RMulInv a b x i (j + 1) c → Ev (fun k => chattelref01_Mul.l1 k a b x (i : Int) c ((j + 1 : Nat) : Int)) r) :
    Ev (fun k => (chattelref01_at.f b (j : Int)).bind fun t240 => (if 0 ≤ (wrap64 ((i : Int) + (j : Int))) then (if (wrap64 ((i : Int) + (j : Int))) < (x.length : Int) then (if 0 ≤ (i : Int) then (if (i : Int) < (a.length : Int) then (chattelref01_Mul.l1 k a b (x.set ((wrap64 ((i : Int) + (j : Int))) : Int).toNat (Int.tmod (wrap64 ((wrap64 ((rd x (wrap64 ((i : Int) + (j : Int)))) + (wrap64 ((rd a (i : Int)) * t240)))) + c)) 10000)) (i : Int) (wrap64 (Int.tdiv (wrap64 ((wrap64 ((rd x (wrap64 ((i : Int) + (j : Int)))) + (wrap64 ((rd a (i : Int)) * t240)))) + c)) 10000)) (wrap64 ((j : Int) + 1))) else (none)) else (none)) else (none)) else (none))) r := by
  have hlen := h.len
  have q1 : (0 : Int) ≤ ((i + j : Nat) : Int) := by omega
  have q2 : ((i + j : Nat) : Int) < (x.length : Int) := by have := h.len; omega
  have q3 : (0 : Int) ≤ (i : Int) := by omega
  have q4 : (i : Int) < (a.length : Int) := by omega
  have q5 : i + j < x.length := by omega
  have e1 : wrap64 ((i : Int) + (j : Int)) = ((i + j : Nat) : Int) := by rw [wrap_id (by omega)]; omega
  have e2 : wrap64 ((j : Int) + 1) = ((j + 1 : Nat) : Int) := by rw [wrap_id (by omega)]; omega
  have wa := wf_getD D_pos ha i
  have wb := wf_getD D_pos hb j
  have wx := wf_getD D_pos h.w (i + j)
  rw [D_int] at wa wb wx
  obtain ⟨n1, n2, n3, n4, n5⟩ := RMul_num wa wb h.c0 wx
  simp only [at_eq, Option.bind_some, e1, e2, rd_nat, Int.toNat_natCast]
  rw [n1, n2, n3]
  refine Ev.pos q1 (Ev.pos q2 (Ev.pos q3 (Ev.pos q4 ?_)))
  refine k1 _ _ ⟨wf_set h.w _ (by rw [D_int]; exact n4), by rw [List.length_set, h.len], n5, ?_⟩
  have hv := h.v
  show vl _ _ + _ = _ * _ + _ * vl _ _
  rw [vl_set _ _ _ _ q5, vl_take_succ, show i + (j + 1) = (i + j) + 1 from rfl, Int.pow_succ]
  have hp : ((10000 : Nat) : Int) ^ (i + j) = ((10000 : Nat) : Int) ^ i * ((10000 : Nat) : Int) ^ j := Int.pow_add _ _ _
  simp only [vD] at hv ⊢
  rw [hp] at hv ⊢
  rw [Int.mul_add (a.getD i 0 * _)]
  exact RMul_val hv (Int.emod_add_mul_ediv _ _)
theorem RMul_out (a b : List Int) (hm : a.length + b.length < 2199023255552) (i j : Nat) (hi : i < a.length) (r : List Int) (h1 : b.length ≤ j) (x : List Int) (h : RMulInv a b x i j 0)
    (ih : ∀ x, RMulInv a b x (i + 1) 0 0 → Ev (fun k => chattelref01_Mul.l0 k a b x ((i + 1 : Nat) : Int)) r) : Ev (fun k => chattelref01_Mul.l1 k a b x (i : Int) 0 (j : Int)) r := by
  refine Ev.unroll ?_
  simp only [chattelref01_Mul.l1]
  refine Ev.neg (by omega) (Ev.neg (by omega) ?_)
  have e1 : wrap64 ((i : Int) + 1) = ((i + 1 : Nat) : Int) := by rw [wrap_id (by omega)]; omega
  rw [e1]
  refine ih x ⟨h.w, h.len, by omega, ?_⟩
  have hv := h.v
  rw [show vD (b.take j) = vD b from vl_take_ge _ _ _ h1, Int.zero_mul, Int.add_zero] at hv
  show vl _ _ + 0 * _ = vl _ _ * _ + _ * vl _ (b.take 0)
  rw [vl_take_succ, List.take_zero, show vl ((10000 : Nat) : Int) ([] : List Int) = 0 from rfl, Int.zero_mul, Int.mul_zero, Int.add_zero, Int.add_zero, Int.add_mul]
  simp only [vD] at hv
  rw [hv, Int.mul_comm (a.getD i 0)]
theorem RMul_end (a b : List Int) (ha : wfD a) (hb : wfD b) (i : Nat) (hi : i < a.length) (x : List Int) (c : Int) (h : RMulInv a b x i (b.length + 1) c) : c = 0 := by
  have wa := wf_getD D_pos ha i
  rw [D_int] at wa
  have hv := h.v
  have hc := h.c0
  rw [show vD (b.take (b.length + 1)) = vD b from vl_take_ge _ _ _ (by omega)] at hv
  have h1 := vl_lt D_pos hb
  have h2 := vl_lt D_pos (wf_take ha i)
  have h3 := vl_nonneg D_pos h.w
  have h4 := vl_nonneg D_pos hb
  have h5 := vl_nonneg D_pos (wf_take ha i)
  rw [List.length_take, Nat.min_eq_left (by omega)] at h2
  have hp : ((10000 : Nat) : Int) ^ (i + (b.length + 1)) = ((10000 : Nat) : Int) ^ i * (((10000 : Nat) : Int) ^ b.length * 10000) := by
    rw [Int.pow_add, Int.pow_succ]; rfl
  rcases Int.le_iff_lt_or_eq.1 hc.1 with h8 | h8
  · exfalso
    clear h
    rw [hp] at hv
    simp only [vD] at hv
    generalize ((10000 : Nat) : Int) ^ i = p at *
    generalize ((10000 : Nat) : Int) ^ b.length = r at *
    generalize vl ((10000 : Nat) : Int) b = u at *
    generalize vl ((10000 : Nat) : Int) (a.take i) = t at *
    generalize vl ((10000 : Nat) : Int) x = z at *
    generalize a.getD i 0 = y at *
    clear hp
    have q1 : t * u ≤ p * u := Int.mul_le_mul_of_nonneg_right (by omega) h4
    have q2 : y * p * u ≤ 9999 * p * u := Int.mul_le_mul_of_nonneg_right (Int.mul_le_mul_of_nonneg_right (by omega) (by omega)) h4
    have q3 : p * u + p ≤ p * r := by
      have := Int.mul_le_mul_of_nonneg_left (show u + 1 ≤ r by omega) (show 0 ≤ p by omega)
      rwa [Int.mul_add, Int.mul_one] at this
    have q4 : 1 * (p * (r * 10000)) ≤ c * (p * (r * 10000)) := Int.mul_le_mul_of_nonneg_right (by omega) (Int.mul_nonneg (by omega) (by omega))
    have q5 : p * (r * 10000) = 10000 * (p * r) := by rw [← Int.mul_assoc, Int.mul_comm]
    have q6 : 9999 * p * u = 9999 * (p * u) := Int.mul_assoc _ _ _
    rw [q5] at hv q4
    rw [q6] at q2
    generalize c * (10000 * (p * r)) = A1 at *
    generalize p * r = A2 at *
    generalize p * u = A3 at *
    generalize t * u = A4 at *
    generalize y * p * u = A5 at *
    omega
  · exact h8.symm
theorem RMul_loops (a b : List Int) (ha : wfD a) (hb : wfD b) (hm : a.length + b.length < 2199023255552) :
    ∀ e : Nat, (∀ i : Nat, i + e = a.length → ∀ x, RMulInv a b x i 0 0 → Ev (fun k => chattelref01_Mul.l0 k a b x (i : Int)) (dig (vD a * vD b).toNat)) := by
  intro e
  induction e with
  | zero =>
    intro i hi x h
    have hi' : i = a.length := by omega
    subst hi'
    refine Ev.unroll ?_
    simp only [chattelref01_Mul.l0]
    refine Ev.neg (by omega) ?_
    have hv := h.v
    rw [show vD (a.take a.length) = vD a from vl_take_ge _ _ _ (by omega), show vD (b.take 0) = 0 from rfl, Int.mul_zero, Int.zero_mul, Int.add_zero, Int.add_zero] at hv
    rw [← hv]
    exact Ev.bind (f := fun _ t => some t) (Trim_ev x h.w (by rw [h.len]; omega)) (Ev.now _)
  | succ e ih =>
    intro i hi x h
    have hi2 : i < a.length := by omega
    have ih' := ih (i + 1) (by omega)
    clear ih
    generalize dig (vD a * vD b).toNat = r at *
    have inner : ∀ d j : Nat, j + d = b.length + 1 → ∀ x c, RMulInv a b x i j c → Ev (fun k => chattelref01_Mul.l1 k a b x (i : Int) c (j : Int)) r := by
      intro d
      induction d with
      | zero =>
        intro j hj x c h
        have hj' : j = b.length + 1 := by omega
        subst hj'
        have hc := RMul_end a b ha hb i hi2 x c h
        subst hc
        exact RMul_out a b hm i _ hi2 r (by omega) x h ih'
      | succ d ihd =>
        intro j hj x c h
        have next := fun x c h => ihd (j + 1) (by omega) x c h
        clear ihd
        by_cases h1 : j < b.length
        · refine Ev.unroll ?_
          simp only [chattelref01_Mul.l1]
          exact Ev.pos (by omega) (RMul_put a b ha hb hm i j hi2 (by omega) x c h r next)
        · by_cases h2 : c > 0
          · refine Ev.unroll ?_
            simp only [chattelref01_Mul.l1]
            exact Ev.neg (by omega) (Ev.pos h2 (RMul_put a b ha hb hm i j hi2 (by omega) x c h r next))
          · have hc : c = 0 := by have := h.c0; omega
            subst hc
            exact RMul_out a b hm i j hi2 r (by omega) x h ih'
    refine Ev.unroll ?_
    simp only [chattelref01_Mul.l0]
    refine Ev.pos (by omega) ?_
    exact inner (b.length + 1) 0 (by omega) x 0 h
theorem RMul_ev (a b : Nat) (la : (dig a).length < 1099511627775) (lb : (dig b).length < 1099511627775) : Ev (fun k => chattelref01_Mul.f k (dig a) (dig b)) (dig (a * b)) := by
  unfold chattelref01_Mul.f
  have e1 : wrap64 (wrap64 (((dig a).length : Int) + ((dig b).length : Int)) + 1) = (((dig a).length + (dig b).length + 1 : Nat) : Int) := by
    rw [wrap_id (x := ((dig a).length : Int) + ((dig b).length : Int)) (by omega), wrap_id (by omega)]; omega
  simp only [e1, Int.toNat_natCast]
  refine Ev.pos (by omega) (Ev.pos (by omega) ?_)
  have := RMul_loops (dig a) (dig b) (dig_wf a) (dig_wf b) (by omega) _ 0 (Nat.zero_add _) (List.replicate ((dig a).length + (dig b).length + 1) 0) ⟨wf_replicate D_pos _, List.length_replicate, by omega, by
    show vl _ _ + 0 * _ = vl _ ((dig a).take 0) * _ + _ * vl _ ((dig b).take 0)
    rw [vl_replicate, List.take_zero, List.take_zero, Int.zero_mul, show vl ((10000 : Nat) : Int) ([] : List Int) = 0 from rfl, Int.zero_mul, Int.mul_zero]⟩
  rw [dig_v, dig_v, show ((a : Int) * (b : Int)).toNat = a * b by rw [← Int.natCast_mul, Int.toNat_natCast]] at this
  exact this

/-! limbs read -/
theorem part_eq (x p : Nat) (hx : x < 18446744073709551616) (hp : p ≤ 3) : wrap64 (Go.bits .and .u64 (shr .u64 (x : Int) (wrap64 (16 * (p : Int)))) 65535) = ((x / 65536 ^ p % 65536 : Nat) : Int) := by
  have e1 : wrap64 (16 * (p : Int)) = ((16 * p : Nat) : Int) := by rw [wrap_id (by omega)]; omega
  have e2 : shr .u64 (x : Int) ((16 * p : Nat) : Int) = ((x / 65536 ^ p : Nat) : Int) := by
    unfold shr
    rw [Int.toNat_natCast, show min (16 * p) IntKind.u64.bits = 16 * p from Nat.min_eq_left (by show 16 * p ≤ 64; omega)]
    rw [show (2 : Int) ^ (16 * p) = ((65536 ^ p : Nat) : Int) by rw [Int.natCast_pow, Int.pow_mul]; rfl]
    rfl
  have h3 : x / 65536 ^ p < 18446744073709551616 := Nat.lt_of_le_of_lt (Nat.div_le_self _ _) hx
  rw [e1, e2, show (65535 : Int) = ((65535 : Nat) : Int) from rfl, bits_and_u64_nat _ 65535 h3 (by decide)]
  rw [show x / 65536 ^ p &&& 65535 = x / 65536 ^ p % 65536 from Nat.and_two_pow_sub_one_eq_mod _ 16]
  rw [wrap_id (by omega)]
theorem ROf_l1 (l : List Int) (hl : wfW l) (hm : l.length < 10737418240) (i : Nat) (hi : i < l.length) (V : Nat) (hlen : (dig V).length + 40 < 549755813888) (r : List Int)
    (fin : Ev (fun k => chattelref01_Of.l0 k l (dig (V * W + (l.getD i 0).toNat)) (dig 65536) ((i : Int) - 1)) r) :
    ∀ q : Nat, q ≤ 4 → Ev (fun k => chattelref01_Of.l1 k l (dig (V * 65536 ^ (4 - q) + (l.getD i 0).toNat / 65536 ^ q)) (dig 65536) (i : Int) ((q : Int) - 1)) r := by
  intro q
  have wl := wf_getD W_pos hl i
  rw [W_int] at wl
  obtain ⟨x, hx⟩ := Int.eq_ofNat_of_zero_le wl.1
  rw [hx] at wl fin ⊢
  rw [Int.toNat_natCast] at fin ⊢
  induction q with
  | zero =>
    intro _
    refine Ev.unroll ?_
    simp only [chattelref01_Of.l1]
    refine Ev.neg (by omega) ?_
    rw [wrap_id (by omega), Nat.pow_zero, Nat.div_one, show 65536 ^ (4 - 0) = W from rfl]
    exact fin
  | succ q ih =>
    intro hq
    have e0 : ((q + 1 : Nat) : Int) - 1 = (q : Int) := by omega
    have e1 : wrap64 ((q : Int) - 1) = (q : Int) - 1 := wrap_id (by omega)
    have e2 : wrap64 (16 * (q : Int)) = ((16 * q : Nat) : Int) := by rw [wrap_id (by omega)]; omega
    refine Ev.unroll ?_
    simp only [chattelref01_Of.l1, e0, e1, rd_nat, hx, part_eq x q (by omega) (show q ≤ 3 by omega)]
    refine Ev.pos (by omega) (Ev.pos (by omega) (Ev.pos (by omega) (Ev.pos (by rw [e2]; omega) ?_)))
    have hd : x / 65536 ^ q % 65536 < 65536 := Nat.mod_lt _ (by decide)
    refine Ev.bind (Small_ev _ (by omega)) ?_
    have b1 : (dig (V * 65536 ^ (4 - (q + 1)) + x / 65536 ^ (q + 1))).length ≤ (dig V).length + 21 := by
      have a1 := dlen_add (V * 65536 ^ (4 - (q + 1))) (x / 65536 ^ (q + 1))
      have a2 := dlen_mul V (65536 ^ (4 - (q + 1)))
      have a3 : (dig (65536 ^ (4 - (q + 1)))).length ≤ 8 := dig_len_le (Nat.lt_of_le_of_lt (Nat.pow_le_pow_right (by decide) (show 4 - (q + 1) ≤ 3 by omega)) (by decide))
      have a4 : (dig (x / 65536 ^ (q + 1))).length ≤ 5 := dig_len_le (Nat.lt_of_le_of_lt (Nat.div_le_self _ _) (by omega))
      omega
    have b2 : (dig 65536).length ≤ 2 := dig_len_le (by decide)
    refine Ev.bind (RMul_ev _ _ (by omega) (by omega)) ?_
    have b3 := dlen_mul (V * 65536 ^ (4 - (q + 1)) + x / 65536 ^ (q + 1)) 65536
    have b4 : (dig (x / 65536 ^ q % 65536)).length ≤ 2 := dig_len_le (by omega)
    refine Ev.bind (RAdd_ev _ _ (by omega) (by omega)) ?_
    have e3 : (V * 65536 ^ (4 - (q + 1)) + x / 65536 ^ (q + 1)) * 65536 + x / 65536 ^ q % 65536 = V * 65536 ^ (4 - q) + x / 65536 ^ q := by
      rw [Nat.pow_succ 65536 q, ← Nat.div_div_eq_div_mul, show 4 - q = 4 - (q + 1) + 1 by omega, Nat.pow_succ, Nat.add_mul, Nat.mul_assoc]
      have := Nat.div_add_mod (x / 65536 ^ q) 65536
      omega
    rw [e3]
    exact ih (by omega)
theorem drop_val (l : List Int) (hl : wfW l) (i : Nat) (hi : i < l.length) : (vW (l.drop i)).toNat = (vW (l.drop (i + 1))).toNat * W + (l.getD i 0).toNat := by
  have h1 := vl_nonneg W_pos (wf_drop hl (i + 1))
  have h2 := wf_getD W_pos hl i
  rw [List.drop_eq_getElem_cons hi]
  have h3 : l[i] = l.getD i 0 := by rw [List.getD_eq_getElem?_getD, List.getElem?_eq_getElem hi]; rfl
  rw [h3]
  simp only [vW, vl]
  generalize vl ((W : Nat) : Int) (l.drop (i + 1)) = v at *
  rw [W_int]
  rw [W_int] at h2
  show _ = _ * 18446744073709551616 + _
  omega
theorem ROf_l0 (l : List Int) (hl : wfW l) (hm : l.length < 10737418240) : ∀ i : Nat, i ≤ l.length → Ev (fun k => chattelref01_Of.l0 k l (dig (vW (l.drop i)).toNat) (dig 65536) ((i : Int) - 1)) (dig (vW l).toNat) := by
  intro i
  induction i with
  | zero =>
    intro _
    refine Ev.unroll ?_
    simp only [chattelref01_Of.l0]
    exact Ev.neg (by omega) (Ev.now _)
  | succ i ih =>
    intro hi
    have e0 : ((i + 1 : Nat) : Int) - 1 = (i : Int) := by omega
    refine Ev.unroll ?_
    simp only [chattelref01_Of.l0, e0]
    refine Ev.pos (by omega) ?_
    have b0 : (dig (vW (l.drop (i + 1))).toNat).length + 40 < 549755813888 := by
      have h1 := vl_nonneg W_pos (wf_drop hl (i + 1))
      have h2 := vl_lt W_pos (wf_drop hl (i + 1))
      obtain ⟨v, hv⟩ := Int.eq_ofNat_of_zero_le h1
      rw [hv, ← Int.natCast_pow] at h2
      have h3 : v < W ^ (l.drop (i + 1)).length := Int.ofNat_lt.1 h2
      have h4 := lim_len_le h3
      have h5 := dlen_lim v
      simp only [vW]
      rw [hv, Int.toNat_natCast]
      rw [List.length_drop] at h4
      omega
    have := ROf_l1 l hl hm i (by omega) (vW (l.drop (i + 1))).toNat b0 (dig (vW l).toNat) (by rw [← drop_val l hl i (by omega)]; exact ih (by omega)) 4 (by omega)
    have e2 : (l.getD i 0).toNat / 65536 ^ 4 = 0 := by
      have h2 := wf_getD W_pos hl i
      rw [W_int] at h2
      exact Nat.div_eq_of_lt (by omega)
    rw [e2, Nat.sub_self, Nat.pow_zero, Nat.mul_one, Nat.add_zero] at this
    exact this
theorem ROf_ev (l : List Int) (hl : wfW l) (hm : l.length < 10737418240) : Ev (fun k => chattelref01_Of.f k l) (dig (vW l).toNat) := by
  unfold chattelref01_Of.f
  refine Ev.bind (Small_ev 65536 (by decide)) ?_
  rw [wrap_id (by omega)]
  have := ROf_l0 l hl hm l.length (Nat.le_refl _)
  rw [List.drop_length, show (vW ([] : List Int)).toNat = 0 from rfl, dig_zero] at this
  exact this
theorem ROf_lim (n : Nat) (hm : (lim n).length < 10737418240) : Ev (fun k => chattelref01_Of.f k (lim n)) (dig n) := by
  have := ROf_ev (lim n) (lim_wf n) hm
  rw [lim_v, Int.toNat_natCast] at this
  exact this

/-! equal lists -/
theorem eqI_l0 (a b : List Int) (hl : a.length = b.length) (hm : a.length < 4611686018427387904) : ∀ d i : Nat, i + d = a.length → a.take i = b.take i → ∀ k, d < k →
    slices_Equal_int_int.l0 k a b (a.length : Int) (i : Int) = some (decide (a = b)) := by
  intro d
  induction d with
  | zero =>
    intro i hi he k hk
    obtain ⟨k, rfl⟩ : ∃ m, k = m + 1 := ⟨k - 1, by omega⟩
    simp only [slices_Equal_int_int.l0]
    rw [if_neg (by omega)]
    rw [List.take_of_length_le (by omega), List.take_of_length_le (by omega)] at he
    simp [he]
  | succ d ih =>
    intro i hi he k hk
    obtain ⟨k, rfl⟩ : ∃ m, k = m + 1 := ⟨k - 1, by omega⟩
    have e1 : wrap64 ((i : Int) + 1) = ((i + 1 : Nat) : Int) := by rw [wrap_id (by omega)]; omega
    simp only [slices_Equal_int_int.l0, e1, rd_nat]
    rw [if_pos (by omega), if_pos (by omega), if_pos (by omega), if_pos (by omega)]
    by_cases h : a.getD i 0 = b.getD i 0
    · rw [if_pos h]
      refine ih (i + 1) (by omega) ?_ k (by omega)
      rw [List.take_succ_eq_append_getElem (by omega), List.take_succ_eq_append_getElem (by omega), he]
      rw [List.getD_eq_getElem?_getD, List.getD_eq_getElem?_getD, List.getElem?_eq_getElem (by omega), List.getElem?_eq_getElem (by omega)] at h
      simp only [Option.getD_some] at h
      rw [h]
    · rw [if_neg h]
      have : a ≠ b := fun e => h (by rw [e])
      simp [this]
theorem eqI_ev (a b : List Int) (hm : a.length < 4611686018427387904) : Ev (fun k => slices_Equal_int_int.f k a b) (decide (a = b)) := by
  unfold slices_Equal_int_int.f
  by_cases hl : a.length = b.length
  · refine Ev.pos (by omega) (Ev.lt a.length (fun k hk => ?_))
    exact eqI_l0 a b hl hm a.length 0 (Nat.zero_add _) rfl k hk
  · refine Ev.neg (by omega) (Ev.const ?_)
    have : a ≠ b := fun e => hl (by rw [e])
    simp [this]
end Go.Proofs.YtebjbmgfbejapaaM
end

section
/- Proved is that NatSums answers true for every input: sums, differences and products of any numbers are the document's. There are no conditions but the row's own. -/
namespace Go.Proofs.Ytebjbmgfbejapaa.Pure
open Go.RowKit Go.Proofs.Ytebjbmgfbejapaa.F Go.Proofs.YtebjbmgfbejapaaW.PrintWords Go.Proofs.YtebjbmgfbejapaaW.PrintLast Go.Proofs.YtebjbmgfbejapaaM
set_option linter.unusedVariables false

theorem same_ev (n m : Nat) (hl : (lim n).length < 10000000) : Ev (fun k => chattellaw01_same.f k (lim n) (dig m)) (decide (n = m)) := by
  unfold chattellaw01_same.f
  rw [limbs_eq _ (by omega)]
  have h1 := dlen_lim n
  refine Ev.bind (f := fun k t405 => (slices_Equal_int_int.f k t405 (dig m)).bind fun t408 => some t408) (ROf_lim n (by omega)) ?_
  have := eqI_ev (dig n) (dig m) (by omega)
  rw [show decide (dig n = dig m) = decide (n = m) from decide_eq_decide.2 ⟨fun h => dig_inj h, fun h => by rw [h]⟩] at this
  exact Ev.bind (f := fun _ t => some t) this (Ev.now _)
theorem of_val {l : List Int} {a n : Nat} (h1 : vW l = a) (h2 : wfW l) (h3 : l.length ≤ n) (hn : n < 10737418240) : Ev (fun k => chattelref01_Of.f k l) (dig a) := by
  have := ROf_ev l h2 (by omega)
  rw [h1, Int.toNat_natCast] at this
  exact this
theorem NatSums : chattellaw01_NatSums.Pure := by
  intro l0 l1 _ _ w0 _ _ w1
  obtain ⟨x, vx, lx, fx, nx⟩ := cut_num w0 12
  obtain ⟨y, vy, ly, fy, ny⟩ := cut_num w1 12
  have dx := dlen_lim x
  have dy := dlen_lim y
  have e1 := len_add x y
  have e2 := len_mul x y
  have tail : ∀ (ok less : Bool) (d : Nat), (ok != less) = true → (lim d).length < 10000000 → Ev (fun k => chattellaw01_NatSums.j0 k (dig x) (dig y) ok (dig d) less (lim x) (lim y) (lim d)) true := by
    intro ok less d hne hd
    refine Ev.unroll ?_
    simp only [chattellaw01_NatSums.j0]
    refine Ev.bind wakes1 (Ev.pos rfl ?_)
    refine Ev.bind (add_lim x y (by omega) (by omega)) ?_
    refine Ev.bind (RAdd_ev x y (by omega) (by omega)) ?_
    refine Ev.bind (same_ev (x + y) (x + y) (by omega)) ?_
    rw [decide_eq_true rfl]
    refine Ev.pos rfl ?_
    refine Ev.bind (mul_lim x y (by omega) (by omega)) ?_
    refine Ev.bind (RMul_ev x y (by omega) (by omega)) ?_
    refine Ev.bind (same_ev (x * y) (x * y) (by omega)) ?_
    rw [decide_eq_true rfl]
    refine Ev.pos rfl (Ev.pos hne ?_)
    refine Ev.bind (f := fun _ t => some t) (same_ev d d hd) ?_
    rw [decide_eq_true rfl]
    exact Ev.now _
  refine Ev.rounds ?_
  unfold chattellaw01_NatSums.f
  simp only [cut12, Option.bind_some]
  refine Ev.bind (of_lim vx fx nx (by decide)) ?_
  refine Ev.bind (of_lim vy fy ny (by decide)) ?_
  refine Ev.bind (of_val vx fx nx (by decide)) ?_
  refine Ev.bind (of_val vy fy ny (by decide)) ?_
  refine Ev.bind (sub_ev x y (by omega) (by omega)) ?_
  refine Ev.bind (RCmp_ev x y (by omega) (by omega)) ?_
  have sgl : sg x y < 0 ↔ x < y := by
    unfold sg
    by_cases h : x < y
    · simp [h]
    · rw [if_neg h]
      refine iff_of_false ?_ h
      split <;> decide
  by_cases h : x < y
  · refine Ev.pos (sgl.2 h) ?_
    rw [if_pos h, decide_eq_true (sgl.2 h)]
    have := tail false true 0 rfl (by rw [lim_zero]; decide)
    rw [lim_zero, dig_zero] at this
    exact this
  · refine Ev.neg (fun h1 => h (sgl.1 h1)) ?_
    rw [if_neg h, decide_eq_false (fun h1 => h (sgl.1 h1))]
    refine Ev.bind (RSub_ev x y (by omega) (by omega)) ?_
    refine tail true false (x - y) rfl ?_
    have := len_mono (Nat.sub_le x y)
    omega
end Go.Proofs.Ytebjbmgfbejapaa.Pure
end
