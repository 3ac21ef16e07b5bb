import Derived.Test.YtebjbmgfbejapaaC210JM4
import Derived.Test.YtebjbmgfbejapaaC210JF0
import Derived.Test.YtebjbmgfbejapaaC210F60
namespace Go.Proofs.Ytebjbmgfbejapaa.Pure
open Go.RowKit Go.Proofs.Ytebjbmgfbejapaa.F Go.Proofs.YtebjbmgfbejapaaW.PrintWords Go.Proofs.YtebjbmgfbejapaaW.PrintLast Go.Proofs.YtebjbmgfbejapaaM
set_option linter.unusedVariables false
theorem u8_nat {x : Int} (h : (Lit.int .u8 x).wf = true) : ∃ n : Nat, x = (n : Int) ∧ n ≤ 255 := by
  have h2 : 0 ≤ x ∧ x ≤ 255 := by
    simp [Lit.wf, IntKind.min, IntKind.max, IntKind.signed, IntKind.bits] at h
    exact h
  exact ⟨x.toNat, by omega, by omega⟩
theorem pow_len {n : Nat} (h : n ≤ 255) : (lim (2 ^ n)).length ≤ 4 := by
  refine lim_len_le ?_
  rw [W_pow]
  exact Nat.lt_of_le_of_lt (Nat.pow_le_pow_right (by decide) h) (Nat.pow_lt_pow_right (by decide) (by decide))
theorem one_ev : Ev (fun k => nat_Of.f k ([1] : List Int)) (lim 1) := by
  have h := of_ev [1] (fun x hx => by rw [List.mem_singleton.1 hx]; decide) (by decide)
  have hv : vW [1] = 1 := by simp [vW, vl]
  rw [hv] at h
  exact h
theorem QuotPowers : chattellaw02_QuotPowers.Pure := by
  intro l0 a1 a2 _ _ w0 w1 w2
  obtain ⟨x, vx, lx, fx, nx⟩ := cut_num w0 10
  obtain ⟨n, rfl, hn⟩ := u8_nat w1
  obtain ⟨m, rfl, hm⟩ := u8_nat w2
  have pn := pow_len hn
  have pm := pow_len hm
  have l1 := len_mul x (2 ^ n)
  have l2 := len_mul (x * 2 ^ n) (2 ^ m)
  have l3 := len_mono (Nat.div_le_self x (2 ^ n))
  have hp : 0 < 2 ^ n := Nat.two_pow_pos n
  have b1 : x * 2 ^ n / 2 ^ n = x := Nat.mul_div_cancel x hp
  have b2 : x * 2 ^ (n + m) = x * 2 ^ n * 2 ^ m := by rw [Nat.pow_add, Nat.mul_assoc]
  have k1 : (lim 1).length ≤ 1 := lim_len_le (by decide)
  have q1 : -9223372036854775808 ≤ (n : Int) ∧ (n : Int) ≤ 9223372036854775807 := by omega
  have q2 : -9223372036854775808 ≤ (m : Int) ∧ (m : Int) ≤ 9223372036854775807 := by omega
  have q3 : -9223372036854775808 ≤ (n : Int) + (m : Int) ∧ (n : Int) + (m : Int) ≤ 9223372036854775807 := by omega
  have q4 : (n : Int) + (m : Int) = ((n + m : Nat) : Int) := by omega
  have e1 : wrap64 (n : Int) = (n : Int) := wrap_id q1
  have e2 : wrap64 (m : Int) = (m : Int) := wrap_id q2
  have e3 : wrap64 ((n : Int) + (m : Int)) = ((n + m : Nat) : Int) := (wrap_id q3).trans q4
  refine Ev.rounds ?_
  unfold chattellaw02_QuotPowers.f
  simp only [cut10, Option.bind_some, e1, e2, e3]
  clear e1 e2 e3
  refine Ev.bind (of_lim vx fx nx (by decide)) ?_
  refine Ev.bind one_ev ?_
  have s1 := shl_ev 1 n (by omega) (by omega)
  rw [Nat.one_mul] at s1
  refine Ev.bind s1 ?_
  refine Ev.bind (div_ev x (2 ^ n) (by omega) (by omega) (by omega)) ?_
  refine Ev.bind (shr_ev x n (by omega) (by omega)) ?_
  refine Ev.bind (shl_ev x n (by omega) (by omega)) ?_
  have s2 := shr_ev (x * 2 ^ n) n (by omega) (by omega)
  rw [b1] at s2
  refine Ev.bind s2 ?_
  refine Ev.bind (shl_ev (x * 2 ^ n) m (by omega) (by omega)) ?_
  have s3 := shl_ev x (n + m) (by omega) (by omega)
  rw [b2] at s3
  refine Ev.bind s3 ?_
  refine Ev.bind wakes2 (Ev.pos rfl ?_)
  refine Ev.pos rfl (Ev.pos rfl (Ev.pos rfl (Ev.pos rfl (Ev.pos rfl (Ev.pos rfl (Ev.pos rfl ?_))))))
  refine Ev.bind (cmp_ev (x / 2 ^ n) (x / 2 ^ n) (by omega) (by omega)) (Ev.pos (sg_self _) ?_)
  refine Ev.bind (cmp_ev x x (by omega) (by omega)) (Ev.pos (sg_self _) ?_)
  refine Ev.bind (cmp_ev (x * 2 ^ n * 2 ^ m) (x * 2 ^ n * 2 ^ m) (by omega) (by omega)) (Ev.pos (sg_self _) ?_)
  refine Ev.bind (mul_lim x (2 ^ n) (by omega) (by omega)) ?_
  refine Ev.bind (f := fun _ t => some (t == 0)) (cmp_ev (x * 2 ^ n) (x * 2 ^ n) (by omega) (by omega)) ?_
  rw [sg_self]
  exact Ev.const rfl
end Go.Proofs.Ytebjbmgfbejapaa.Pure
