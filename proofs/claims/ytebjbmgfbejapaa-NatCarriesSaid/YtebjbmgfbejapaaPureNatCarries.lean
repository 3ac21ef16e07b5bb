/- Proved is that NatCarries answers true for every input: one more than n limbs of all ones is a one behind n noughts, whose square is one behind twice as many. -/
import Derived.Test.YtebjbmgfbejapaaF37
import Derived.Test.YtebjbmgfbejapaaF38
import Derived.Test.YtebjbmgfbejapaaF39
import Derived.Test.YtebjbmgfbejapaaF4
import Derived.Test.YtebjbmgfbejapaaM4
namespace Go.Proofs.Ytebjbmgfbejapaa.Pure
open Go.RowKit Go.Proofs.Ytebjbmgfbejapaa.F Go.Proofs.YtebjbmgfbejapaaW.PrintWords Go.Proofs.YtebjbmgfbejapaaW.PrintLast Go.Proofs.YtebjbmgfbejapaaM
set_option linter.unusedVariables false

theorem vl_one (n : Nat) : vW (List.replicate n 0 ++ [1]) = ((W ^ n : Nat) : Int) := by
  show vl ((W : Nat) : Int) (List.replicate n 0 ++ [1]) = _
  rw [vl_append, vl_replicate, List.length_replicate]
  simp [vl]
theorem wf_one (n : Nat) : wfW (List.replicate n 0 ++ [1]) := wf_append (wf_replicate W_pos n) (fun x hx => by
  rw [List.mem_singleton.mp hx]
  exact ⟨by decide, by decide⟩)
theorem lim_one (n : Nat) : lim (W ^ n) = List.replicate n 0 ++ [1] := by
  have := dg_of W2 (wf_one n) (fun hne => by rw [List.getLast_append_of_ne_nil _ (by simp)]; simp)
  rw [show vl ((W : Nat) : Int) (List.replicate n 0 ++ [1]) = _ from vl_one n, Int.toNat_natCast] at this
  exact this
theorem vl_ones : ∀ n : Nat, vW (List.replicate n 18446744073709551615) = ((W ^ n : Nat) : Int) - 1
  | 0 => rfl
  | n + 1 => by
    have ih : vl ((W : Nat) : Int) (List.replicate n 18446744073709551615) = ((W ^ n : Nat) : Int) - 1 := vl_ones n
    show vl ((W : Nat) : Int) (List.replicate (n + 1) 18446744073709551615) = _
    rw [List.replicate_succ]
    show 18446744073709551615 + ((W : Nat) : Int) * vl ((W : Nat) : Int) (List.replicate n 18446744073709551615) = _
    rw [ih, Nat.pow_succ, Nat.mul_comm]
    generalize W ^ n = z
    rw [Int.natCast_mul, W_int]
    omega
theorem wf_ones (n : Nat) : wfW (List.replicate n 18446744073709551615) := fun x hx => by
  rw [(List.mem_replicate.mp hx).2]
  exact ⟨by decide, by decide⟩
theorem Wp (n : Nat) : 1 ≤ W ^ n := Nat.one_le_pow _ _ (by decide)
theorem v_ones (n : Nat) : (vW (List.replicate n 18446744073709551615)).toNat = W ^ n - 1 := by rw [vl_ones]; omega
theorem lim_ones (n : Nat) : lim (W ^ n - 1) = List.replicate n 18446744073709551615 := by
  have := dg_of W2 (wf_ones n) (fun hne => by rw [List.getLast_replicate]; decide)
  rw [show (vl ((W : Nat) : Int) (List.replicate n 18446744073709551615)).toNat = _ from v_ones n] at this
  exact this
theorem rep_eq (q : Nat) (hq : q < 40) : slices_Repeat_uint64_uint64.f [18446744073709551615] (q : Int) = some (List.replicate q 18446744073709551615) := by
  have h : bits_Mul.f 1 (q : Int) = some (0, (q : Int)) := by
    unfold bits_Mul.f
    have := mul64_eq 1 q (by decide) (by omega)
    rw [show ((1 : Nat) : Int) = 1 from rfl] at this
    rw [this]
    simp only [Option.bind_some, Nat.one_mul]
    rw [Nat.div_eq_of_lt (by omega), Nat.mod_eq_of_lt (by omega)]
    rfl
  unfold slices_Repeat_uint64_uint64.f
  rw [if_pos ⟨rfl, by omega, by omega, h⟩, Int.toNat_natCast]
  rfl
theorem lim_one_len (n : Nat) : (lim (W ^ n)).length = n + 1 := by rw [lim_one, List.length_append, List.length_replicate]; rfl
theorem one_ev : Ev (fun k => nat_Of.f k [1]) (lim 1) := of_lim (a := 1) (n := 1) rfl (fun x hx => by rw [List.mem_singleton.mp hx]; exact ⟨by decide, by decide⟩) (by decide) (by decide)
theorem sz_W (n : Nat) : sz (W ^ n) = 64 * n + 1 := by
  have := sz_mul_pow (n := 1) (by decide) (64 * n)
  rw [Nat.one_mul, ← W_pow] at this
  rw [this, show sz 1 = 1 from by decide]
  omega
theorem NatCarries : chattellaw01_NatCarries.Pure := by
  intro a0 w0
  have hb : 0 ≤ a0 ∧ a0 ≤ 255 := by
    simp [Lit.wf, IntKind.min, IntKind.max, IntKind.signed, IntKind.bits] at w0
    exact w0
  obtain ⟨q, hq, hq40⟩ : ∃ q : Nat, wrap64 (Int.tmod a0 40) = (q : Int) ∧ q < 40 := by
    refine ⟨(Int.tmod a0 40).toNat, ?_, ?_⟩
    · rw [Int.tmod_eq_emod_of_nonneg hb.1]
      unfold wrap64
      omega
    · rw [Int.tmod_eq_emod_of_nonneg hb.1]
      omega
  have hA : (lim (W ^ q)).length = q + 1 := lim_one_len q
  have hO : (lim (W ^ q - 1)).length = q := by rw [lim_ones, List.length_replicate]
  have h1 : (lim 1).length ≤ 1 := lim_len_le (by decide)
  refine Ev.rounds ?_
  unfold chattellaw01_NatCarries.f
  simp only [hq]
  refine Ev.bindc (rep_eq q hq40) ?_
  refine Ev.bind (of_lim (a := W ^ q - 1) (n := 40) (by rw [vl_ones]; have := Wp q; omega) (wf_ones q) (by rw [List.length_replicate]; omega) (by decide)) ?_
  refine Ev.bind one_ev ?_
  refine Ev.bind (add_lim (W ^ q - 1) 1 (by omega) (by omega)) ?_
  rw [show W ^ q - 1 + 1 = W ^ q from Nat.sub_add_cancel (Wp q)]
  refine Ev.pos (by omega) (Ev.pos (by rw [Int.toNat_natCast]; omega) ?_)
  refine Ev.bindc rfl (Ev.bindc rfl ?_)
  refine Ev.pos (by rw [Int.toNat_natCast, List.length_replicate]; simp; omega) ?_
  refine Ev.bind one_ev ?_
  refine Ev.bind (sub_ev (W ^ q) 1 (by omega) (by omega)) ?_
  rw [if_neg (by have := Wp q; omega)]
  refine Ev.bind wakes1 (Ev.pos rfl ?_)
  refine Ev.bindc (limbs_eq _ (by omega)) ?_
  refine Ev.bind (eqU_ev _ _ (by omega)) ?_
  refine Ev.pos (by rw [lim_one, Int.toNat_natCast]; simp) ?_
  refine Ev.bind (bits_ev (W ^ q) (by omega)) ?_
  refine Ev.pos (by rw [sz_W, wrap_id (x := 64 * (q : Int)) (by omega), wrap_id (by omega)]; omega) ?_
  refine Ev.bind (mul_lim (W ^ q) (W ^ q) (by omega) (by omega)) ?_
  rw [wrap_id (x := 2 * (q : Int)) (by omega)]
  refine Ev.pos (by omega) (Ev.pos (by omega) ?_)
  refine Ev.bindc rfl (Ev.bindc rfl ?_)
  have h2 : (2 * (q : Int)).toNat = 2 * q := by omega
  rw [h2]
  refine Ev.pos (by rw [List.length_replicate]; simp; omega) ?_
  refine Ev.bind (of_lim (a := W ^ (2 * q)) (n := 81) (vl_one (2 * q)) (wf_one (2 * q)) (by simp; omega) (by decide)) ?_
  have e2 : W ^ q * W ^ q = W ^ (2 * q) := by rw [← Nat.pow_add]; congr 1; omega
  rw [e2]
  have h3 := lim_one_len (2 * q)
  refine Ev.bind (cmp_ev (W ^ (2 * q)) (W ^ (2 * q)) (by omega) (by omega)) ?_
  refine Ev.pos (sg_self _) (Ev.pos rfl ?_)
  refine Ev.bindc (limbs_eq (lim (W ^ q - 1)) (by omega)) ?_
  refine Ev.bind (eqU_ev (lim (W ^ q - 1)) _ (by omega)) ?_
  rw [lim_ones]
  simp only [decide_true]
  exact Ev.now _
end Go.Proofs.Ytebjbmgfbejapaa.Pure
