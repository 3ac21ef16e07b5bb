/- Layer 1 (nat), on: bits, equal lists, and all of it told of numbers. -/
import Derived.Test.YtebjbmgfbejapaaF16
import Derived.Test.YtebjbmgfbejapaaF17
import Derived.Test.YtebjbmgfbejapaaF28
import Derived.Test.YtebjbmgfbejapaaF4
import Derived.Test.YtebjbmgfbejapaaF6
import Derived.Test.YtebjbmgfbejapaaF8
import Derived.Test.YtebjbmgfbejapaaF9
import Derived.Test.YtebjbmgfbejapaaM3
namespace Go.Proofs.YtebjbmgfbejapaaM
open Go.RowKit Go.Proofs.YtebjbmgfbejapaaW.PrintWords Go.Proofs.YtebjbmgfbejapaaW.PrintLast Go.Proofs.YtebjbmgfbejapaaW.PrintMore Go.Proofs.YtebjbmgfbejapaaX Go.Proofs.Ytebjbmgfbejapaa.F
set_option linter.unusedVariables false
set_option linter.unusedSimpArgs false
def len8tab : ByteArray := ⟨#[0, 1, 2, 2, 3, 3, 3, 3, 4, 4, 4, 4, 4, 4, 4, 4, 5, 5, 5, 5, 5, 5, 5, 5, 5, 5, 5, 5, 5, 5, 5, 5, 6, 6, 6, 6, 6, 6, 6, 6, 6, 6, 6, 6, 6, 6, 6, 6, 6, 6, 6, 6, 6, 6, 6, 6, 6, 6, 6, 6, 6, 6, 6, 6, 7, 7, 7, 7, 7, 7, 7, 7, 7, 7, 7, 7, 7, 7, 7, 7, 7, 7, 7, 7, 7, 7, 7, 7, 7, 7, 7, 7, 7, 7, 7, 7, 7, 7, 7, 7, 7, 7, 7, 7, 7, 7, 7, 7, 7, 7, 7, 7, 7, 7, 7, 7, 7, 7, 7, 7, 7, 7, 7, 7, 7, 7, 7, 7, 8, 8, 8, 8, 8, 8, 8, 8, 8, 8, 8, 8, 8, 8, 8, 8, 8, 8, 8, 8, 8, 8, 8, 8, 8, 8, 8, 8, 8, 8, 8, 8, 8, 8, 8, 8, 8, 8, 8, 8, 8, 8, 8, 8, 8, 8, 8, 8, 8, 8, 8, 8, 8, 8, 8, 8, 8, 8, 8, 8, 8, 8, 8, 8, 8, 8, 8, 8, 8, 8, 8, 8, 8, 8, 8, 8, 8, 8, 8, 8, 8, 8, 8, 8, 8, 8, 8, 8, 8, 8, 8, 8, 8, 8, 8, 8, 8, 8, 8, 8, 8, 8, 8, 8, 8, 8, 8, 8, 8, 8, 8, 8, 8, 8, 8, 8, 8, 8, 8, 8, 8, 8, 8, 8, 8, 8, 8, 8]⟩
theorem len8 : ∀ n : Fin 256, bt len8tab ((n.val : Nat) : Int) = ((sz n.val : Nat) : Int) := by decide +kernel
theorem len8n (n : Nat) (h : n < 256) : bt len8tab (n : Int) = ((sz n : Nat) : Int) := len8 ⟨n, h⟩
theorem sz_256 (n : Nat) (h : n < 256) : sz n ≤ 8 := by
  have := sz_mono (show n ≤ 255 by omega)
  have h2 : sz 255 = 8 := by decide
  omega
set_option maxRecDepth 100000 in
theorem len64_eq (n : Nat) (hn : n < 18446744073709551616) (k : Nat) (hk : 0 < k) : bits_Len64.f k (n : Int) = some ((sz n : Nat) : Int) := by
  obtain ⟨k, rfl⟩ : ∃ m, k = m + 1 := ⟨k - 1, by omega⟩
  have d1 : ∀ a : Nat, (a : Int) / 4294967296 = ((a / 4294967296 : Nat) : Int) := fun a => by omega
  have d2 : ∀ a : Nat, (a : Int) / 65536 = ((a / 65536 : Nat) : Int) := fun a => by omega
  have d3 : ∀ a : Nat, (a : Int) / 256 = ((a / 256 : Nat) : Int) := fun a => by omega
  have d4 : ∀ a : Nat, a < 256 → (a : Int) % 256 = (a : Int) := fun a h => by omega
  have leaf : ∀ (a m s : Nat), a < 256 → n = m → s ≤ 56 → sz n = sz a + s → wrap64 ((s : Int) + wrap64 ((sz a : Nat) : Int)) = ((sz n : Nat) : Int) := fun a m s ha _ hs he => by
    have := sz_256 a ha
    rw [wrap_id (x := ((sz a : Nat) : Int)) (by omega), wrap_id (by omega), he]; omega
  have key : ∀ (m s : Nat), m < 4294967296 → s ≤ 32 → sz n = sz m + s → bits_Len64.j0 (k + 1) (m : Int) (s : Int) = some ((sz n : Nat) : Int) := by
    intro m s hm hs he
    have w1 : wrap64 ((s : Int) + 16) = ((s + 16 : Nat) : Int) := by rw [wrap_id (by omega)]; omega
    have w2 : wrap64 (((s + 16 : Nat) : Int) + 8) = ((s + 24 : Nat) : Int) := by rw [wrap_id (by omega)]; omega
    have w3 : wrap64 ((s : Int) + 8) = ((s + 8 : Nat) : Int) := by rw [wrap_id (by omega)]; omega
    rw [bits_Len64.j0]
    simp only [d2, d3, w1, w2, w3]
    by_cases h1 : m < 65536
    · rw [if_neg (by omega)]
      by_cases h2 : m < 256
      · rw [if_neg (by omega), d4 m h2, if_pos (by omega), if_pos (by omega)]
        have := leaf m n s h2 rfl (by omega) he
        rw [← len8n m h2] at this
        exact congrArg some this
      · have hd : m / 256 < 256 := by omega
        rw [if_pos (by omega), d4 _ hd, if_pos (by omega), if_pos (by omega)]
        have := leaf (m / 256) n (s + 8) hd rfl (by omega) (by rw [he, sz_div m 8 (by omega), show (2 : Nat) ^ 8 = 256 from rfl]; omega)
        rw [← len8n _ hd] at this
        exact congrArg some this
    · rw [if_pos (by omega)]
      by_cases h2 : m / 65536 < 256
      · rw [if_neg (by omega), d4 _ h2, if_pos (by omega), if_pos (by omega)]
        have := leaf (m / 65536) n (s + 16) h2 rfl (by omega) (by rw [he, sz_div m 16 (by omega), show (2 : Nat) ^ 16 = 65536 from rfl]; omega)
        rw [← len8n _ h2] at this
        exact congrArg some this
      · have hd : m / 65536 / 256 < 256 := by omega
        rw [if_pos (by omega), d4 _ hd, if_pos (by omega), if_pos (by omega)]
        have := leaf (m / 65536 / 256) n (s + 24) hd rfl (by omega) (by rw [he, sz_div m 24 (by omega), show (2 : Nat) ^ 24 = 65536 * 256 from rfl, Nat.div_div_eq_div_mul]; omega)
        rw [← len8n _ hd] at this
        exact congrArg some this
  unfold bits_Len64.f
  by_cases h : n < 4294967296
  · rw [if_neg (by omega)]
    exact key n 0 h (by omega) rfl
  · rw [if_pos (by omega), d1]
    exact key (n / 4294967296) 32 (by omega) (by omega) (sz_div n 32 (by omega))
theorem lim_zero : lim 0 = [] := dg_zero W
theorem lim_pos {n : Nat} (h : n ≠ 0) : 0 < (lim n).length := by unfold lim; rw [dg_pos W2 h]; simp
theorem lim_len_le {n m : Nat} (h : n < W ^ m) : (lim n).length ≤ m := dg_len_le W2 h
theorem lim_lt (n : Nat) : n < W ^ (lim n).length := dg_lt W2 n
theorem lim_le {n : Nat} (h : n ≠ 0) : W ^ ((lim n).length - 1) ≤ n := dg_le W2 h
theorem W_pow (m : Nat) : W ^ m = 2 ^ (64 * m) := by rw [Nat.pow_mul]
theorem sz_limbs {n : Nat} (h : n ≠ 0) : sz n = sz (n / W ^ ((lim n).length - 1)) + 64 * ((lim n).length - 1) := by
  have := lim_le h
  rw [W_pow] at this ⊢
  exact sz_div n _ this
theorem top_lt {n : Nat} (h : n ≠ 0) : n / W ^ ((lim n).length - 1) < 18446744073709551616 := by
  rw [Nat.div_lt_iff_lt_mul (Nat.pow_pos (by decide))]
  have h1 := lim_lt n
  have h2 := lim_pos h
  rw [show (lim n).length = ((lim n).length - 1) + 1 by omega, Nat.pow_succ, Nat.mul_comm] at h1
  exact h1
theorem top_pos {n : Nat} (h : n ≠ 0) : n / W ^ ((lim n).length - 1) ≠ 0 := by
  have := Nat.div_pos (lim_le h) (Nat.pow_pos (n := (lim n).length - 1) (show 0 < W by decide))
  omega
theorem lim_top {n : Nat} (h : n ≠ 0) : (lim n).getD ((lim n).length - 1) 0 = ((n / W ^ ((lim n).length - 1) : Nat) : Int) := by
  unfold lim
  rw [dg_getD W2, Nat.mod_eq_of_lt]
  exact top_lt h
theorem sz_64 (n : Nat) (h : n < 18446744073709551616) : sz n ≤ 64 := by
  have := sz_mono (show n ≤ 18446744073709551615 by omega)
  have h2 : sz 18446744073709551615 = 64 := by decide +kernel
  omega
theorem bits_ev (n : Nat) (hl : (lim n).length ≤ 1099511627776) : Ev (fun k => nat_Nat_Bits.f k (lim n)) ((sz n : Nat) : Int) := by
  refine Ev.lt 0 (fun k hk => ?_)
  unfold nat_Nat_Bits.f
  rw [zero_eq, Option.bind_some]
  by_cases h : n = 0
  · subst h
    rfl
  · have hp := lim_pos h
    have ht := top_lt h
    have e1 : wrap64 (((lim n).length : Int) - 1) = (((lim n).length - 1 : Nat) : Int) := by rw [wrap_id (by omega)]; omega
    have e2 : wrap64 (64 * (((lim n).length - 1 : Nat) : Int)) = 64 * (((lim n).length - 1 : Nat) : Int) := wrap_id (by omega)
    rw [if_neg (by simpa using h), e1, if_pos (by omega), if_pos (by omega), rd_nat, lim_top h, len64_eq _ ht k hk, Option.bind_some, e2]
    have := sz_64 _ ht
    rw [wrap_id (by omega), sz_limbs h]
    congr 1
    omega

/-! equal lists -/
theorem eqU_l0 (a b : List Int) (hl : a.length = b.length) (hm : a.length < 4611686018427387904) : ∀ d i : Nat, i + d = a.length → a.take i = b.take i → ∀ k, d < k →
    slices_Equal_uint64_uint64.l0 k a b (a.length : Int) (i : Int) = some (decide (a = b)) := by
  intro d
  induction d with
  | zero =>
    intro i hi he k hk
    obtain ⟨k, rfl⟩ : ∃ m, k = m + 1 := ⟨k - 1, by omega⟩
    simp only [slices_Equal_uint64_uint64.l0]
    rw [if_neg (by omega)]
    rw [List.take_of_length_le (by omega), List.take_of_length_le (by omega)] at he
    simp [he]
  | succ d ih =>
    intro i hi he k hk
    obtain ⟨k, rfl⟩ : ∃ m, k = m + 1 := ⟨k - 1, by omega⟩
    have e1 : wrap64 ((i : Int) + 1) = ((i + 1 : Nat) : Int) := by rw [wrap_id (by omega)]; omega
    simp only [slices_Equal_uint64_uint64.l0, e1, rd_nat]
    rw [if_pos (by omega), if_pos (by omega), if_pos (by omega), if_pos (by omega)]
    by_cases h : a.getD i 0 = b.getD i 0
    · rw [if_pos h]
      refine ih (i + 1) (by omega) ?_ k (by omega)
      rw [List.take_succ_eq_append_getElem (by omega), List.take_succ_eq_append_getElem (by omega), he]
      rw [List.getD_eq_getElem?_getD, List.getD_eq_getElem?_getD, List.getElem?_eq_getElem (by omega), List.getElem?_eq_getElem (by omega)] at h
      simp only [Option.getD_some] at h
      rw [h]
    · rw [if_neg h]
      have : a ≠ b := fun e => h (by rw [e])
      simp [this]
theorem eqU_ev (a b : List Int) (hm : a.length < 4611686018427387904) : Ev (fun k => slices_Equal_uint64_uint64.f k a b) (decide (a = b)) := by
  unfold slices_Equal_uint64_uint64.f
  by_cases hl : a.length = b.length
  · refine Ev.pos (by omega) (Ev.lt a.length (fun k hk => ?_))
    exact eqU_l0 a b hl hm a.length 0 (Nat.zero_add _) rfl k hk
  · refine Ev.neg (by omega) (Ev.const ?_)
    have : a ≠ b := fun e => hl (by rw [e])
    simp [this]

/-! told of numbers -/
theorem len_add (a b : Nat) : (lim (a + b)).length ≤ max (lim a).length (lim b).length + 1 := by
  refine lim_len_le ?_
  have h1 := lim_lt a
  have h2 := lim_lt b
  have h3 : W ^ (lim a).length ≤ W ^ (max (lim a).length (lim b).length) := Nat.pow_le_pow_right (by decide) (by omega)
  have h4 : W ^ (lim b).length ≤ W ^ (max (lim a).length (lim b).length) := Nat.pow_le_pow_right (by decide) (by omega)
  rw [Nat.pow_succ]
  generalize W ^ (max (lim a).length (lim b).length) = p at *
  show a + b < p * 18446744073709551616
  omega
theorem len_mul (a b : Nat) : (lim (a * b)).length ≤ (lim a).length + (lim b).length := by
  refine lim_len_le ?_
  rw [Nat.pow_add]
  exact Nat.mul_lt_mul_of_lt_of_lt (lim_lt a) (lim_lt b)
theorem len_mono {a b : Nat} (h : a ≤ b) : (lim a).length ≤ (lim b).length := by
  rcases Nat.lt_or_ge (lim b).length (lim a).length with h1 | h1
  · have := lim_len_lt h1; omega
  · exact h1
theorem add_lim (a b : Nat) (la : (lim a).length ≤ 1099511627776) (lb : (lim b).length ≤ 1099511627776) : Ev (fun k => nat_Nat_Add.f k (lim a) (lim b)) (lim (a + b)) := by
  have := add_ev (lim a) (lim b) (lim_wf a) (lim_wf b) la lb
  rw [lim_v, lim_v, show ((a : Int) + (b : Int)).toNat = a + b by omega] at this
  exact this
theorem mul_lim (a b : Nat) (la : (lim a).length ≤ 1099511627775) (lb : (lim b).length ≤ 1099511627775) : Ev (fun k => nat_Nat_Mul.f k (lim a) (lim b)) (lim (a * b)) := by
  have := mul_ev (lim a) (lim b) (lim_wf a) (lim_wf b) la lb
  rw [lim_v, lim_v, show ((a : Int) * (b : Int)).toNat = a * b by rw [← Int.natCast_mul, Int.toNat_natCast]] at this
  exact this
theorem sg_self (a : Nat) : sg a a = 0 := by unfold sg; rw [if_neg (Nat.lt_irrefl a), if_pos rfl]
theorem sg_eq {a b : Nat} (h : a = b) : sg a b = 0 := by subst h; exact sg_self a
theorem sg_neg (a b : Nat) : sg b a = - sg a b := by unfold sg; split <;> split <;> (try split) <;> omega
theorem sg_bd (a b : Nat) : -1 ≤ sg a b ∧ sg a b ≤ 1 := by unfold sg; split <;> (try split) <;> omega
theorem wakes1 : Ev (fun k => chattellaw01_wakes.f k) true := Ev.of (fun k => chattellaw01_wakes.mono k) (k := 8) (by decide +kernel)
/-- What a law is handed, as it is told of limbs: they are limbs. -/
theorem wf_of {l : List Int} (h : ∀ x ∈ l, (Lit.int .u64 x).wf = true) : wfW l := by
  intro x hx
  have := h x hx
  simp only [Lit.wf, Bool.and_eq_true, decide_eq_true_eq] at this
  have e1 : IntKind.u64.max = 18446744073709551615 := rfl
  have e2 : IntKind.u64.min = 0 := rfl
  rw [e1, e2] at this
  rw [W_int]
  exact ⟨this.1, by have := this.2; omega⟩
/-- The number that some limbs, at most n, are made to. -/
theorem cut_num {l : List Int} (h : ∀ x ∈ l, (Lit.int .u64 x).wf = true) (n : Nat) : ∃ a : Nat, vW (l.take n) = a ∧ (lim a).length ≤ n ∧ wfW (l.take n) ∧ (l.take n).length ≤ n := by
  have h1 := wf_take (wf_of h) n
  have h2 := vl_nonneg W_pos h1
  obtain ⟨a, ha⟩ := Int.eq_ofNat_of_zero_le h2
  refine ⟨a, ha, ?_, h1, List.length_take_le _ _⟩
  have h3 := vl_lt W_pos h1
  rw [ha, ← Int.natCast_pow] at h3
  have h4 : a < W ^ (l.take n).length := Int.ofNat_lt.1 h3
  have := lim_len_le h4
  have := List.length_take_le n l
  omega
theorem of_lim {l : List Int} {a n : Nat} (h1 : vW l = a) (h2 : wfW l) (h3 : l.length ≤ n) (hn : n < 17592186044416) : Ev (fun k => nat_Of.f k l) (lim a) := by
  have := of_ev l h2 (by omega)
  rw [h1, Int.toNat_natCast] at this
  exact this
end Go.Proofs.YtebjbmgfbejapaaM
