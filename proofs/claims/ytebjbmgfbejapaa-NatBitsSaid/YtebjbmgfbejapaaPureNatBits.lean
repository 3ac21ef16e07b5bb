/- Proved is that NatBits answers true for every input: a product has as many bits as both numbers together, or one fewer; a number added to itself has one more; what is less has no more. There are no conditions but the row's own. -/
import Derived.Test.YtebjbmgfbejapaaF14
import Derived.Test.YtebjbmgfbejapaaF29
import Derived.Test.YtebjbmgfbejapaaF9
import Derived.Test.YtebjbmgfbejapaaM4
namespace Go.Proofs.Ytebjbmgfbejapaa.Pure
open Go.RowKit Go.Proofs.Ytebjbmgfbejapaa.F Go.Proofs.YtebjbmgfbejapaaW.PrintWords Go.Proofs.YtebjbmgfbejapaaW.PrintLast Go.Proofs.YtebjbmgfbejapaaM
set_option linter.unusedVariables false

theorem sz_pos {n : Nat} (h : n ≠ 0) : 0 < sz n := by unfold sz; rw [if_neg h]; omega
theorem sz_mul {a b : Nat} (ha : a ≠ 0) (hb : b ≠ 0) : sz (a * b) = sz a + sz b ∨ sz (a * b) = sz a + sz b - 1 := by
  have h1 := sz_le ha
  have h2 := sz_le hb
  have h3 := sz_lt a
  have h4 := sz_lt b
  have h5 := sz_pos ha
  have h6 := sz_pos hb
  have h7 : 2 ^ (sz a - 1) * 2 ^ (sz b - 1) ≤ a * b := Nat.mul_le_mul h1 h2
  have h8 : a * b < 2 ^ sz a * 2 ^ sz b := Nat.mul_lt_mul_of_lt_of_lt h3 h4
  rw [← Nat.pow_add] at h7 h8
  by_cases h9 : a * b < 2 ^ (sz a + sz b - 1)
  · right
    exact sz_unique (by omega) (by rw [show sz a + sz b - 1 - 1 = sz a - 1 + (sz b - 1) by omega]; exact h7) h9
  · left
    exact sz_unique (by omega) (by omega) h8
theorem sz_double {a : Nat} (ha : a ≠ 0) : sz (a + a) = sz a + 1 := by
  have := sz_mul_pow ha 1
  rw [show a * 2 ^ 1 = a + a by omega] at this
  exact this
theorem sz_lim (a : Nat) : sz a ≤ 64 * (lim a).length := by
  have h1 := lim_lt a
  rw [W_pow] at h1
  by_cases ha : a = 0
  · subst ha; exact Nat.zero_le _
  · have h2 := sz_le ha
    have h3 := sz_pos ha
    rcases Nat.lt_or_ge (sz a - 1) (64 * (lim a).length) with h | h
    · omega
    · have := Nat.pow_le_pow_right (n := 2) (by decide) h
      omega
theorem NatBits : chattellaw01_NatBits.Pure := by
  intro l0 l1 _ _ w0 _ _ w1
  obtain ⟨x, vx, lx, fx, nx⟩ := cut_num w0 12
  obtain ⟨y, vy, ly, fy, ny⟩ := cut_num w1 12
  have e1 := len_mul x y
  have e2 := len_add x x
  have b1 := sz_lim x
  have b2 := sz_lim y
  have b3 := sz_lim (x * y)
  have b4 := sz_lim (x + x)
  refine Ev.rounds ?_
  unfold chattellaw01_NatBits.f
  simp only [cut12, Option.bind_some]
  refine Ev.bind (of_lim vx fx nx (by decide)) ?_
  refine Ev.bind (of_lim vy fy ny (by decide)) ?_
  simp only [zero_eq, Option.bind_some]
  have zero : ∀ z : Nat, z = x * y → z = 0 → Ev (fun k => chattellaw01_NatBits.j0 k true (lim x) (lim y)) true := by
    intro z hz h0
    refine Ev.unroll ?_
    simp only [chattellaw01_NatBits.j0]
    refine Ev.pos (by decide) (Ev.bind wakes1 (Ev.pos rfl ?_))
    refine Ev.bind (mul_lim x y (by omega) (by omega)) ?_
    refine Ev.bind (bits_ev (x * y) (by omega)) ?_
    rw [← hz, h0]
    exact Ev.now _
  by_cases hx : x = 0
  · refine Ev.pos (by simpa using hx) (zero (x * y) rfl (by rw [hx, Nat.zero_mul]))
  · refine Ev.neg (by simpa using hx) ?_
    by_cases hy : y = 0
    · rw [show decide (y = 0) = true by simpa using hy]
      exact zero (x * y) rfl (by rw [hy, Nat.mul_zero])
    · rw [show decide (y = 0) = false by simpa using hy]
      refine Ev.unroll ?_
      simp only [chattellaw01_NatBits.j0]
      refine Ev.neg (by decide) ?_
      refine Ev.bind (mul_lim x y (by omega) (by omega)) ?_
      refine Ev.bind (bits_ev (x * y) (by omega)) ?_
      refine Ev.bind wakes1 (Ev.pos rfl ?_)
      refine Ev.bind (bits_ev x (by omega)) ?_
      refine Ev.bind (bits_ev y (by omega)) ?_
      rw [wrap_id (x := ((sz x : Nat) : Int) + ((sz y : Nat) : Int)) (by omega)]
      have px := sz_pos hx
      have py := sz_pos hy
      have rest : Ev (fun k => (nat_Nat_Cmp.f k (lim x) (lim y)).bind fun t => if t > 0 then some true else (nat_Nat_Bits.f k (lim x)).bind fun t1 => (nat_Nat_Bits.f k (lim y)).bind fun t2 => some (decide (t1 ≤ t2))) true := by
        refine Ev.bind (cmp_ev x y (by omega) (by omega)) ?_
        unfold sg
        by_cases h1 : x < y
        · rw [if_pos h1]
          refine Ev.neg (by decide) (Ev.bind (bits_ev x (by omega)) (Ev.bind (bits_ev y (by omega)) ?_))
          have := sz_mono (Nat.le_of_lt h1)
          rw [decide_eq_true (by omega)]
          exact Ev.now _
        · rw [if_neg h1]
          by_cases h2 : x = y
          · rw [if_pos h2]
            refine Ev.neg (by decide) (Ev.bind (bits_ev x (by omega)) (Ev.bind (bits_ev y (by omega)) ?_))
            rw [decide_eq_true (by rw [h2]; omega)]
            exact Ev.now _
          · rw [if_neg h2]
            exact Ev.pos (by decide) (Ev.now _)
      have dbl : wrap64 (((sz x : Nat) : Int) + 1) = ((sz (x + x) : Nat) : Int) := by rw [sz_double hx, wrap_id (by omega)]; omega
      rcases sz_mul hx hy with h | h
      · refine Ev.pos (by omega) ?_
        refine Ev.bind (add_lim x x (by omega) (by omega)) ?_
        refine Ev.bind (bits_ev (x + x) (by omega)) ?_
        refine Ev.bind (bits_ev x (by omega)) ?_
        exact Ev.pos dbl.symm rest
      · refine Ev.neg (by omega) ?_
        refine Ev.bind (bits_ev x (by omega)) ?_
        refine Ev.bind (bits_ev y (by omega)) ?_
        rw [wrap_id (x := ((sz x : Nat) : Int) + ((sz y : Nat) : Int)) (by omega), wrap_id (by omega)]
        refine Ev.pos (by omega) ?_
        refine Ev.bind (add_lim x x (by omega) (by omega)) ?_
        refine Ev.bind (bits_ev (x + x) (by omega)) ?_
        refine Ev.bind (bits_ev x (by omega)) ?_
        exact Ev.pos dbl.symm rest
end Go.Proofs.Ytebjbmgfbejapaa.Pure
