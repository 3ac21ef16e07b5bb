/- Plain numbers: digits to a base, their values; loops with rounds. No program is in sight. -/
import Derived.Test.YtebjbmgfbejapaaWMore
namespace Go.Proofs.YtebjbmgfbejapaaM
open Go.RowKit Go.Proofs.YtebjbmgfbejapaaW.PrintWords Go.Proofs.YtebjbmgfbejapaaW.PrintLast Go.Proofs.YtebjbmgfbejapaaW.PrintMore
set_option linter.unusedVariables false
set_option linter.unusedSimpArgs false

/-- All digits are digits. -/
def wf (B : Int) (l : List Int) : Prop := ∀ x ∈ l, 0 ≤ x ∧ x < B
/-- The value of digits, the least first. -/
def vl (B : Int) : List Int → Int
  | [] => 0
  | x :: xs => x + B * vl B xs
theorem wf_nil (B : Int) : wf B [] := fun x h => by cases h
theorem wf_cons {B x : Int} {l : List Int} : wf B (x :: l) ↔ (0 ≤ x ∧ x < B) ∧ wf B l := by
  unfold wf
  simp only [List.mem_cons, forall_eq_or_imp]
theorem wf_append {B : Int} {a b : List Int} (ha : wf B a) (hb : wf B b) : wf B (a ++ b) := by
  intro x hx
  rcases List.mem_append.1 hx with h | h
  · exact ha x h
  · exact hb x h
theorem wf_take {B : Int} {l : List Int} (h : wf B l) (n : Nat) : wf B (l.take n) := fun x hx => h x (List.mem_of_mem_take hx)
theorem wf_drop {B : Int} {l : List Int} (h : wf B l) (n : Nat) : wf B (l.drop n) := fun x hx => h x (List.mem_of_mem_drop hx)
theorem wf_set {B : Int} {l : List Int} (h : wf B l) (n : Nat) {x : Int} (hx : 0 ≤ x ∧ x < B) : wf B (l.set n x) := by
  intro y hy
  rcases List.mem_or_eq_of_mem_set hy with h1 | h1
  · exact h y h1
  · rw [h1]; exact hx
theorem wf_replicate {B : Int} (hB : 0 < B) (n : Nat) : wf B (List.replicate n 0) := by
  intro x hx
  rw [List.eq_of_mem_replicate hx]
  omega
theorem wf_getD {B : Int} {l : List Int} (hB : 0 < B) (h : wf B l) (i : Nat) : 0 ≤ l.getD i 0 ∧ l.getD i 0 < B := by
  rw [List.getD_eq_getElem?_getD]
  rcases Nat.lt_or_ge i l.length with hi | hi
  · rw [List.getElem?_eq_getElem hi]
    exact h _ (List.getElem_mem hi)
  · rw [List.getElem?_eq_none hi]
    exact ⟨Int.le_refl 0, hB⟩
theorem vl_append (B : Int) (a b : List Int) : vl B (a ++ b) = vl B a + B ^ a.length * vl B b := by
  induction a with
  | nil => simp [vl]
  | cons x a ih =>
    simp only [List.cons_append, vl, ih, List.length_cons, Int.pow_succ]
    grind
theorem vl_nonneg {B : Int} (hB : 0 < B) {l : List Int} (h : wf B l) : 0 ≤ vl B l := by
  induction l with
  | nil => exact Int.le_refl 0
  | cons x l ih =>
    obtain ⟨h1, h2⟩ := wf_cons.1 h
    have := Int.mul_nonneg (Int.le_of_lt hB) (ih h2)
    simp only [vl]
    omega
theorem vl_lt {B : Int} (hB : 0 < B) {l : List Int} (h : wf B l) : vl B l < B ^ l.length := by
  induction l with
  | nil => simp [vl]
  | cons x l ih =>
    obtain ⟨h1, h2⟩ := wf_cons.1 h
    have h3 := ih h2
    have h4 : B * (vl B l + 1) ≤ B * B ^ l.length := Int.mul_le_mul_of_nonneg_left (by omega) (Int.le_of_lt hB)
    simp only [vl, List.length_cons, Int.pow_succ]
    rw [Int.mul_comm (B ^ l.length) B]
    rw [Int.mul_add, Int.mul_one] at h4
    omega
theorem vl_replicate (B : Int) (n : Nat) : vl B (List.replicate n 0) = 0 := by
  induction n with
  | zero => rfl
  | succ n ih => simp [List.replicate_succ, vl, ih]
theorem vl_take_succ (B : Int) (l : List Int) (i : Nat) : vl B (l.take (i + 1)) = vl B (l.take i) + B ^ i * l.getD i 0 := by
  rcases Nat.lt_or_ge i l.length with hi | hi
  · rw [List.take_succ_eq_append_getElem hi, vl_append, List.length_take, Nat.min_eq_left (Nat.le_of_lt hi), List.getD_eq_getElem?_getD, List.getElem?_eq_getElem hi]
    simp [vl]
  · rw [List.take_of_length_le hi, List.take_of_length_le (by omega), List.getD_eq_getElem?_getD, List.getElem?_eq_none hi]
    simp
theorem vl_take_ge (B : Int) (l : List Int) (i : Nat) (h : l.length ≤ i) : vl B (l.take i) = vl B l := by rw [List.take_of_length_le h]
theorem getD_set_self (l : List Int) (i : Nat) (x d : Int) (h : i < l.length) : (l.set i x).getD i d = x := by
  rw [List.getD_eq_getElem?_getD, List.getElem?_set_self h]
  rfl
theorem getD_set_ne (l : List Int) (i j : Nat) (x d : Int) (h : i ≠ j) : (l.set i x).getD j d = l.getD j d := by
  rw [List.getD_eq_getElem?_getD, List.getElem?_set_ne h, List.getD_eq_getElem?_getD]
theorem vl_set (B : Int) (l : List Int) (i : Nat) (x : Int) (h : i < l.length) : vl B (l.set i x) = vl B l + B ^ i * (x - l.getD i 0) := by
  induction l generalizing i with
  | nil => simp at h
  | cons y l ih =>
    cases i with
    | zero =>
      simp only [List.set_cons_zero, vl, List.getD_cons_zero, Int.pow_zero]
      omega
    | succ i =>
      simp only [List.set_cons_succ, vl, List.getD_cons_succ, Int.pow_succ]
      rw [ih i (by simpa using h)]
      grind

/-- The digits of a number, the least first. -/
def dg (B n : Nat) : List Int := if h : n = 0 ∨ B < 2 then [] else ((n % B : Nat) : Int) :: dg B (n / B)
termination_by n
decreasing_by exact Nat.div_lt_self (by omega) (by omega)
theorem dg_zero (B : Nat) : dg B 0 = [] := by rw [dg]; simp
theorem dg_pos {B n : Nat} (hB : 2 ≤ B) (hn : n ≠ 0) : dg B n = ((n % B : Nat) : Int) :: dg B (n / B) := by
  rw [dg, dif_neg (by omega)]
theorem dg_wf {B : Nat} (hB : 2 ≤ B) (n : Nat) : wf (B : Int) (dg B n) := by
  induction n using Nat.strongRecOn with
  | _ n ih =>
    by_cases h : n = 0
    · subst h; rw [dg_zero]; exact wf_nil _
    · rw [dg_pos hB h]
      have := Nat.mod_lt n (show 0 < B by omega)
      exact wf_cons.2 ⟨by omega, ih _ (Nat.div_lt_self (by omega) (by omega))⟩
theorem dg_vl {B : Nat} (hB : 2 ≤ B) (n : Nat) : vl (B : Int) (dg B n) = n := by
  induction n using Nat.strongRecOn with
  | _ n ih =>
    by_cases h : n = 0
    · subst h; rw [dg_zero]; rfl
    · rw [dg_pos hB h]
      simp only [vl]
      rw [ih _ (Nat.div_lt_self (by omega) (by omega)), ← Int.natCast_mul, ← Int.natCast_add]
      congr 1
      exact Nat.mod_add_div n B
/-- Digits without a 0 at the end are the number's own. -/
theorem dg_of {B : Nat} (hB : 2 ≤ B) {l : List Int} (h : wf (B : Int) l) (hl : ∀ (hne : l ≠ []), l.getLast hne ≠ 0) : dg B (vl (B : Int) l).toNat = l := by
  induction l with
  | nil => simp [vl, dg_zero]
  | cons x l ih =>
    obtain ⟨h1, h2⟩ := wf_cons.1 h
    have hv := vl_nonneg (B := (B : Int)) (by omega) h2
    have ih' := ih h2 (fun hne => by
      have := hl (List.cons_ne_nil x l)
      rwa [List.getLast_cons hne] at this)
    obtain ⟨X, rfl⟩ := Int.eq_ofNat_of_zero_le h1.1
    obtain ⟨V, hV⟩ := Int.eq_ofNat_of_zero_le hv
    rw [hV] at ih'
    simp only [Int.toNat_natCast] at ih'
    have e1 : (vl (B : Int) ((X : Int) :: l)).toNat = X + B * V := by
      simp only [vl, hV]
      omega
    have hX : X < B := by omega
    have hne : X + B * V ≠ 0 := by
      intro h0
      have hX0 : X = 0 := by omega
      have hV0 : V = 0 := by
        have h3 : B * V = 0 := by omega
        rcases Nat.mul_eq_zero.1 h3 with h4 | h4
        · omega
        · exact h4
      subst hV0
      rw [dg_zero] at ih'
      subst ih'
      have := hl (List.cons_ne_nil _ _)
      simp at this
      omega
    rw [e1, dg_pos hB hne, Nat.add_mul_mod_self_left, Nat.mod_eq_of_lt hX, Nat.add_mul_div_left _ _ (by omega), Nat.div_eq_of_lt hX, Nat.zero_add, ih']
theorem dg_last {B : Nat} (hB : 2 ≤ B) (n : Nat) : ∀ (hne : dg B n ≠ []), (dg B n).getLast hne ≠ 0 := by
  induction n using Nat.strongRecOn with
  | _ n ih =>
    by_cases h : n = 0
    · subst h; intro hne; exact absurd (dg_zero B) hne
    · intro hne
      have ih' := ih (n / B) (Nat.div_lt_self (by omega) (by omega))
      by_cases h2 : dg B (n / B) = []
      · have h3 : n / B = 0 := by
          have := dg_vl hB (n / B)
          rw [h2] at this
          simp [vl] at this
          omega
        have e1 : dg B n = [((n % B : Nat) : Int)] := by rw [dg_pos hB h, h2]
        simp only [e1, List.getLast_singleton]
        have := Nat.mod_add_div n B
        rw [h3, Nat.mul_zero] at this
        omega
      · have e1 : (dg B n).getLast hne = (dg B (n / B)).getLast h2 := by
          simp only [dg_pos hB h]
          exact List.getLast_cons h2
        rw [e1]
        exact ih' h2
theorem dg_inj {B : Nat} (hB : 2 ≤ B) {a b : Nat} (h : dg B a = dg B b) : a = b := by
  have h1 := dg_vl hB a
  rw [h, dg_vl hB b] at h1
  omega
theorem dg_len_le {B : Nat} (hB : 2 ≤ B) {n m : Nat} (h : n < B ^ m) : (dg B n).length ≤ m := by
  induction m generalizing n with
  | zero =>
    have : n = 0 := by simpa using h
    subst this
    rw [dg_zero]
    exact Nat.le_refl 0
  | succ m ih =>
    by_cases h0 : n = 0
    · subst h0; rw [dg_zero]; exact Nat.zero_le _
    · rw [dg_pos hB h0, List.length_cons]
      have : n / B < B ^ m := by
        rw [Nat.div_lt_iff_lt_mul (by omega)]
        rwa [Nat.pow_succ] at h
      have := ih this
      omega
theorem dg_lt {B : Nat} (hB : 2 ≤ B) (n : Nat) : n < B ^ (dg B n).length := by
  have h := vl_lt (B := (B : Int)) (by omega) (dg_wf hB n)
  rw [dg_vl hB n, ← Int.natCast_pow] at h
  exact Int.ofNat_lt.1 h
theorem dg_le {B : Nat} (hB : 2 ≤ B) {n : Nat} (h : n ≠ 0) : B ^ ((dg B n).length - 1) ≤ n := by
  rcases Nat.lt_or_ge n (B ^ ((dg B n).length - 1)) with h1 | h1
  · have h2 := dg_len_le hB h1
    have h3 : (dg B n).length ≠ 0 := by rw [dg_pos hB h]; simp
    omega
  · exact h1
/-- The i-th digit. -/
theorem dg_getD {B : Nat} (hB : 2 ≤ B) (n i : Nat) : (dg B n).getD i 0 = ((n / B ^ i % B : Nat) : Int) := by
  induction i generalizing n with
  | zero =>
    by_cases h : n = 0
    · subst h; simp [dg_zero]
    · rw [dg_pos hB h, List.getD_cons_zero, Nat.pow_zero, Nat.div_one]
  | succ i ih =>
    by_cases h : n = 0
    · subst h; simp [dg_zero]
    · rw [dg_pos hB h, List.getD_cons_succ, ih, Nat.div_div_eq_div_mul, Nat.pow_succ, Nat.mul_comm B]

/-! wraps -/
theorem wrap_id {x : Int} (h : -9223372036854775808 ≤ x ∧ x ≤ 9223372036854775807) : wrap64 x = x := by unfold wrap64; omega
theorem u64_wrap (x : Int) : IntKind.u64.wrap x = x % 18446744073709551616 := by
  first | rfl | simp [IntKind.wrap, IntKind.bits]
theorem u64_id {x : Int} (h : 0 ≤ x ∧ x < 18446744073709551616) : IntKind.u64.wrap x = x := by rw [u64_wrap]; omega
theorem mn_eq (a b : Int) : mn a b = min a b := by unfold mn; split <;> omega
theorem mx_eq (a b : Int) : mx a b = max a b := by unfold mx; split <;> omega
theorem rd_nat (l : List Int) (i : Nat) : rd l (i : Int) = l.getD i 0 := by unfold rd; rw [Int.toNat_natCast]
theorem rd_int (l : List Int) {i : Int} (_ : 0 ≤ i) : rd l i = l.getD i.toNat 0 := rfl
end Go.Proofs.YtebjbmgfbejapaaM
