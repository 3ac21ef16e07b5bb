import Derived.Test.YtebjbmgfbejapaaC210JM4
import Derived.Test.YtebjbmgfbejapaaC210F63
namespace Go.Proofs.Ytebjbmgfbejapaa.Pure
open Go.RowKit Go.Proofs.Ytebjbmgfbejapaa.F Go.Proofs.YtebjbmgfbejapaaW.PrintWords Go.Proofs.YtebjbmgfbejapaaW.PrintLast Go.Proofs.YtebjbmgfbejapaaM
set_option linter.unusedVariables false
theorem QuotBack : chattellaw02_QuotBack.Pure := by
  intro l0 l1 l2 _ _ w0 _ _ w1 _ _ w2
  obtain ⟨x, vx, lx, fx, nx⟩ := cut_num w0 10
  obtain ⟨y, vy, ly, fy, ny⟩ := cut_num w1 10
  obtain ⟨z, vz, lz, fz, nz⟩ := cut_num w2 10
  refine Ev.rounds ?_
  unfold chattellaw02_QuotBack.f
  simp only [cut10, Option.bind_some]
  refine Ev.bind (of_lim vx fx nx (by decide)) ?_
  refine Ev.bind (of_lim vy fy ny (by decide)) ?_
  refine Ev.bind (of_lim vz fz nz (by decide)) ?_
  refine Ev.bindc (zero_eq y) ?_
  by_cases h : y = 0
  · rw [decide_eq_true h]
    exact Ev.pos rfl (Ev.bind (f := fun _ t => some t) wakes2 (Ev.now _))
  · rw [decide_eq_false h]
    refine Ev.neg (by decide) ?_
    have hy : 0 < y := Nat.pos_of_ne_zero h
    have lq := len_mono (Nat.div_le_self x y)
    have lr := len_mono (Nat.le_of_lt (Nat.mod_lt x hy))
    have ls := len_mono (Nat.le_of_lt (Nat.mod_lt z hy))
    have lm := len_mul x y
    have la := len_add (x * y) (z % y)
    have lk := len_mul (x / y) y
    have e1 : x / y * y + x % y = x := by rw [Nat.mul_comm]; exact Nat.div_add_mod x y
    have e2 : (x * y + z % y) / y = x := by
      rw [Nat.mul_comm, Nat.mul_add_div hy, Nat.div_eq_of_lt (Nat.mod_lt z hy), Nat.add_zero]
    have e3 : (x * y + z % y) % y = z % y := by
      rw [Nat.mul_comm, Nat.mul_add_mod, Nat.mod_mod]
    refine Ev.bind (div_ev x y h (by omega) (by omega)) ?_
    refine Ev.bind (div_ev z y h (by omega) (by omega)) ?_
    refine Ev.bind (mul_lim x y (by omega) (by omega)) ?_
    refine Ev.bind (add_lim (x * y) (z % y) (by omega) (by omega)) ?_
    have d3 := div_ev (x * y + z % y) y h (by omega) (by omega)
    rw [e2, e3] at d3
    refine Ev.bind d3 ?_
    refine Ev.bind wakes2 (Ev.pos rfl (Ev.pos rfl (Ev.pos rfl (Ev.pos rfl ?_))))
    refine Ev.bind (mul_lim (x / y) y (by omega) (by omega)) ?_
    have a3 := add_lim (x / y * y) (x % y) (by omega) (by omega)
    rw [e1] at a3
    refine Ev.bind a3 ?_
    refine Ev.bind (cmp_ev x x (by omega) (by omega)) (Ev.pos (sg_self _) ?_)
    refine Ev.bind (cmp_ev (x % y) y (by omega) (by omega)) (Ev.pos (by unfold sg; rw [if_pos (Nat.mod_lt x hy)]; decide) ?_)
    refine Ev.bind (cmp_ev x x (by omega) (by omega)) (Ev.pos (sg_self _) ?_)
    refine Ev.bind (f := fun _ t => some (t == 0)) (cmp_ev (z % y) (z % y) (by omega) (by omega)) ?_
    rw [sg_self]
    exact Ev.const rfl
end Go.Proofs.Ytebjbmgfbejapaa.Pure
