import Derived.Test.YtebjbmgfbejapaaC210JM5
import Derived.Test.YtebjbmgfbejapaaC210JM4
import Derived.Test.YtebjbmgfbejapaaC210JF3
import Derived.Test.YtebjbmgfbejapaaC210JF0
namespace Go.Proofs.Ytebjbmgfbejapaa.Pure
open Go.RowKit Go.Proofs.Ytebjbmgfbejapaa.F Go.Proofs.YtebjbmgfbejapaaW.PrintWords Go.Proofs.YtebjbmgfbejapaaW.PrintLast Go.Proofs.YtebjbmgfbejapaaM
set_option linter.unusedVariables false
set_option linter.unusedSimpArgs false
theorem dig_small {n : Nat} (h : n ≠ 0) (h2 : n < 10000) : dig n = [(n : Int)] := by
  unfold dig
  rw [dg_pos D2 h, Nat.mod_eq_of_lt h2, Nat.div_eq_of_lt h2, dg_zero]
theorem pow_l1 (n : Nat) : ∀ p : Nat, n < 4611686018427387904 → (dig (p * 2 ^ n)).length < 1099511627775 → Ev (fun k => chattelref02_Power.l1 k (n : Int) (dig p) (dig 2)) (dig (p * 2 ^ n)) := by
  induction n with
  | zero =>
    intro p _ _
    refine Ev.unroll ?_
    simp only [chattelref02_Power.l1]
    exact Ev.neg (by decide) (Ev.const (by rw [Nat.pow_zero, Nat.mul_one]))
  | succ n ih =>
    intro p hn hl
    have e : p * 2 ^ (n + 1) = p * 2 * 2 ^ n := by rw [Nat.pow_succ, Nat.mul_comm (2 ^ n) 2, Nat.mul_assoc]
    rw [e] at hl ⊢
    have l1 := dlen_mono (Nat.le_mul_of_pos_right (p * 2) (Nat.two_pow_pos n))
    have l0 := dlen_mono (Nat.le_mul_of_pos_right p (show 0 < 2 by decide))
    have l2 : (dig 2).length ≤ 1 := dig_len_le (by decide)
    have w : wrap64 (((n + 1 : Nat) : Int) - 1) = (n : Int) := (wrap_id (by omega)).trans (by omega)
    refine Ev.unroll ?_
    simp only [chattelref02_Power.l1, w]
    refine Ev.pos (by omega) (Ev.bind (RMul_ev p 2 (by omega) (by omega)) ?_)
    exact ih (p * 2) (by omega) hl
theorem pow_l0 (n : Nat) : ∀ p : Nat, n < 4611686018427387904 → (dig (p * 2 ^ n)).length < 1099511627775 → Ev (fun k => chattelref02_Power.l0 k (n : Int) (dig p) (dig 256)) (dig (p * 2 ^ n)) := by
  induction n using Nat.strongRecOn with
  | _ n ih =>
    intro p hn hl
    refine Ev.unroll ?_
    simp only [chattelref02_Power.l0]
    by_cases h : 8 ≤ n
    · obtain ⟨m, rfl⟩ : ∃ m, n = m + 8 := ⟨n - 8, by omega⟩
      have e : p * 2 ^ (m + 8) = p * 256 * 2 ^ m := by rw [Nat.pow_add, Nat.mul_comm (2 ^ m), Nat.mul_assoc]
      rw [e] at hl ⊢
      have l1 := dlen_mono (Nat.le_mul_of_pos_right (p * 256) (Nat.two_pow_pos m))
      have l0 := dlen_mono (Nat.le_mul_of_pos_right p (show 0 < 256 by decide))
      have l2 : (dig 256).length ≤ 1 := dig_len_le (by decide)
      have w : wrap64 (((m + 8 : Nat) : Int) - 8) = (m : Int) := (wrap_id (by omega)).trans (by omega)
      simp only [w]
      refine Ev.pos (by omega) (Ev.bind (RMul_ev p 256 (by omega) (by omega)) ?_)
      exact ih m (by omega) (p * 256) (by omega) hl
    · refine Ev.neg (by omega) ?_
      have e : ([2] : List Int) = dig 2 := (dig_small (by decide) (by decide)).symm
      rw [e]
      exact pow_l1 n p hn hl
theorem power_ev (n : Nat) (hn : n < 4611686018427387904) (hl : (dig (2 ^ n)).length < 1099511627775) : Ev (fun k => chattelref02_Power.f k (n : Int)) (dig (2 ^ n)) := by
  unfold chattelref02_Power.f
  refine Ev.bind (Small_ev 256 (by decide)) ?_
  have e : ([1] : List Int) = dig 1 := (dig_small (by decide) (by decide)).symm
  have h := pow_l0 n 1 hn (by rw [Nat.one_mul]; exact hl)
  rw [Nat.one_mul] at h
  rw [e]
  exact h
theorem plen {n m : Nat} (h : n < 64 * m) : (lim (2 ^ n)).length ≤ m := by
  refine lim_len_le ?_
  rw [W_pow]
  exact Nat.pow_lt_pow_right (by decide) h
theorem z_nil : nat_Nat_Zero.f [] = some true := by have := zero_eq 0; rw [lim_zero] at this; simpa using this
theorem shift_step {a : List Int} {x : Nat} (vx : vW (a.take 10) = x) (lx : (lim x).length ≤ 10) (fx : wfW (a.take 10)) (nx : (a.take 10).length ≤ 10) (xs : List Int) (i : Int) (hx : xs.length = 2) (h0 : 0 ≤ i) (h2 : i < 2)
    (nxt : Ev (fun k => chattellaw02_QuotShifts.l0 k a xs 2 (wrap64 (i + 1)) (lim x)) true) : Ev (fun k => chattellaw02_QuotShifts.l0 k a xs 2 i (lim x)) true := by
  refine Ev.unroll ?_
  obtain ⟨v, hv⟩ : ∃ v, v = rd xs i := ⟨_, rfl⟩
  simp only [chattellaw02_QuotShifts.l0, ← hv]
  refine Ev.pos h2 (Ev.pos h0 (Ev.pos (by omega) ?_))
  have wrong : Ev (fun k => chattellaw02_QuotShifts.j1 k a v 2 2 xs 2 i true (lim x) [] []) true := by
    refine Ev.unroll ?_
    simp only [chattellaw02_QuotShifts.j1]
    exact Ev.pos (by trivial) (Ev.pos (by trivial) (Ev.pos (by trivial) (Ev.bindc z_nil (Ev.pos (by trivial) (Ev.bindc z_nil (Ev.pos (by trivial) nxt))))))
  by_cases hb : v < 0 ∨ 262144 < v
  · refine Ev.bind (Ev.lt 0 (fun k _ => shl_wrong _ v hb k)) ?_
    refine Ev.bind (Ev.lt 0 (fun k _ => shr_wrong _ v hb k)) ?_
    by_cases hn : v < 0
    · exact Ev.pos hn wrong
    · refine Ev.neg hn ?_
      rw [decide_eq_true (show v > 262144 by omega)]
      exact wrong
  · obtain ⟨n, rfl⟩ : ∃ n : Nat, v = (n : Int) := ⟨v.toNat, by omega⟩
    have hn : n ≤ 262144 := by omega
    have pl : (lim (2 ^ n)).length ≤ 4097 := plen (by omega)
    have lm := len_mul x (2 ^ n)
    have hp : 0 < 2 ^ n := Nat.two_pow_pos n
    have ld := len_mono (Nat.div_le_self x (2 ^ n))
    have dx := dlen_lim x
    have dp := dlen_lim (2 ^ n)
    have dm := dlen_mul x (2 ^ n)
    have dd := dlen_mono (Nat.div_le_self x (2 ^ n))
    refine Ev.bind (shl_ev x n (by omega) hn) ?_
    refine Ev.bind (shr_ev x n (by omega) hn) ?_
    refine Ev.neg (by omega) ?_
    rw [decide_eq_false (show ¬ (n : Int) > 262144 by omega)]
    refine Ev.unroll ?_
    simp only [chattellaw02_QuotShifts.j1]
    refine Ev.neg (by decide) (Ev.pos (by trivial) ?_)
    refine Ev.unroll ?_
    simp only [chattellaw02_QuotShifts.j2]
    refine Ev.neg (by decide) ?_
    by_cases hk : 300 < n
    · refine Ev.pos (by omega) ?_
      have s := shr_ev (x * 2 ^ n) n (by omega) hn
      rw [Nat.mul_div_cancel x hp] at s
      refine Ev.bind s ?_
      refine Ev.bind (cmp_ev x x (by omega) (by omega)) (Ev.pos (sg_self _) ?_)
      refine Ev.bindc (zero_eq x) ?_
      have last : Ev (fun k => (nat_Nat_Bits.f k (lim x)).bind fun t => if (n : Int) ≥ t then ((nat_Nat_Zero.f (lim (x / 2 ^ n))).bind fun t2 => if t2 = true then chattellaw02_QuotShifts.l0 k a xs 2 (wrap64 (i + 1)) (lim x) else some false) else chattellaw02_QuotShifts.l0 k a xs 2 (wrap64 (i + 1)) (lim x)) true := by
        refine Ev.bind (bits_ev x (by omega)) ?_
        by_cases hs : sz x ≤ n
        · refine Ev.pos (by omega) ?_
          have hz : x / 2 ^ n = 0 := Nat.div_eq_of_lt (Nat.lt_of_lt_of_le (sz_lt x) (Nat.pow_le_pow_right (by decide) hs))
          rw [hz]
          exact Ev.bindc (zero_eq 0) (Ev.pos (by decide) nxt)
        · exact Ev.neg (by omega) nxt
      by_cases hz : x = 0
      · rw [decide_eq_true hz]
        exact Ev.pos rfl last
      · rw [decide_eq_false hz]
        refine Ev.neg (by decide) ?_
        refine Ev.bind (bits_ev (x * 2 ^ n) (by omega)) ?_
        refine Ev.bind (bits_ev x (by omega)) ?_
        have hs : sz x ≤ 640 := by
          have h1 := sz_limbs hz
          have h3 : x / W ^ ((lim x).length - 1) < 18446744073709551616 := by
            have h4 := dg_lt W2 x
            have hne : (lim x).length ≠ 0 := fun h5 => hz (by rw [show (dg W x).length = 0 from h5, Nat.pow_zero] at h4; omega)
            refine (Nat.div_lt_iff_lt_mul (Nat.pow_pos (by decide))).2 ?_
            have h6 : W ^ ((lim x).length - 1 + 1) = W ^ ((lim x).length - 1) * W := Nat.pow_succ ..
            rw [Nat.sub_add_cancel (Nat.pos_of_ne_zero hne)] at h6
            rw [Nat.mul_comm]
            exact Nat.lt_of_lt_of_eq h4 h6
          have h7 := sz_64 _ h3
          omega
        rw [sz_mul_pow hz]
        refine Ev.pos ?_ last
        rw [wrap_id (by omega)]
        omega
    · refine Ev.neg (by omega) ?_
      have pl2 : (lim (2 ^ n)).length ≤ 5 := plen (by omega)
      refine Ev.bind (power_ev n (by omega) (by omega)) ?_
      refine Ev.bindc (cut10 a) ?_
      refine Ev.bind (val10 vx fx nx (by decide)) ?_
      refine Ev.bind (divmod_ev x (2 ^ n) hp (by omega) (by omega)) ?_
      refine Ev.bindc (cut10 a) ?_
      refine Ev.bind (val10 vx fx nx (by decide)) ?_
      refine Ev.bind (RMul_ev x (2 ^ n) (by omega) (by omega)) ?_
      refine Ev.bind (same02 (x * 2 ^ n) (x * 2 ^ n) (by omega) (by omega)) ?_
      rw [decide_eq_true rfl]
      refine Ev.pos rfl ?_
      refine Ev.bind (same02 (x / 2 ^ n) (x / 2 ^ n) (by omega) (by omega)) ?_
      rw [decide_eq_true rfl]
      exact Ev.pos rfl nxt
theorem QuotShifts : chattellaw02_QuotShifts.Pure := by
  intro l0 a1 _ _ w0 w1
  obtain ⟨x, vx, lx, fx, nx⟩ := cut_num w0 10
  refine Ev.rounds ?_
  unfold chattellaw02_QuotShifts.f
  simp only [cut10, Option.bind_some]
  refine Ev.bind (of_lim vx fx nx (by decide)) ?_
  refine shift_step vx lx fx nx _ 0 rfl (by decide) (by decide) ?_
  rw [show wrap64 (0 + 1) = 1 from (wrap_id (x := 0 + 1) (by decide)).trans rfl]
  refine shift_step vx lx fx nx _ 1 rfl (by decide) (by decide) ?_
  rw [show wrap64 (1 + 1) = 2 from (wrap_id (x := 1 + 1) (by decide)).trans rfl]
  refine Ev.unroll ?_
  simp only [chattellaw02_QuotShifts.l0]
  refine Ev.neg (by decide) ?_
  exact Ev.bind (f := fun _ t => some t) wakes2 (Ev.now _)
end Go.Proofs.Ytebjbmgfbejapaa.Pure
