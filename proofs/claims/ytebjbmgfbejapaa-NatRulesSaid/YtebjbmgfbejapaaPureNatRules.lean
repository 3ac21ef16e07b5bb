/- Proved is that NatRules answers true for every input: sums and products of numbers do not hang on the order, a product of a sum is the sum of the products, and less what was added a number is as before. There are no conditions but the row's own. -/
import Derived.Test.YtebjbmgfbejapaaF35
import Derived.Test.YtebjbmgfbejapaaF4
import Derived.Test.YtebjbmgfbejapaaM4
namespace Go.Proofs.Ytebjbmgfbejapaa.Pure
open Go.RowKit Go.Proofs.Ytebjbmgfbejapaa.F Go.Proofs.YtebjbmgfbejapaaW.PrintWords Go.Proofs.YtebjbmgfbejapaaW.PrintLast Go.Proofs.YtebjbmgfbejapaaM
set_option linter.unusedVariables false

theorem NatRules : chattellaw01_NatRules.Pure := by
  intro l0 l1 l2 _ _ w0 _ _ w1 _ _ w2
  obtain ⟨x, vx, lx, fx, nx⟩ := cut_num w0 12
  obtain ⟨y, vy, ly, fy, ny⟩ := cut_num w1 12
  obtain ⟨z, vz, lz, fz, nz⟩ := cut_num w2 12
  have e1 := len_add x y
  have e2 := len_add y x
  have e3 := len_add y z
  have e4 := len_mul x y
  have e5 := len_mul y x
  have e6 := len_mul y z
  have e7 := len_mul x z
  have e8 := len_add (x + y) z
  have e9 := len_add x (y + z)
  have e10 := len_mul (x * y) z
  have e11 := len_mul x (y * z)
  have e12 := len_mul x (y + z)
  have e13 := len_add (x * y) (x * z)
  have o1 : Ev (fun k => nat_Of.f k ([1] : List Int)) (lim 1) := of_lim (l := [1]) (a := 1) (n := 1) (by decide) (by intro q hq; simp at hq; subst hq; decide) (by decide) (by decide)
  have e14 : (lim 1).length ≤ 1 := lim_len_le (by decide)
  refine Ev.rounds ?_
  unfold chattellaw01_NatRules.f
  simp only [cut12, Option.bind_some]
  refine Ev.bind (of_lim vx fx nx (by decide)) ?_
  refine Ev.bind (of_lim vy fy ny (by decide)) ?_
  refine Ev.bind (of_lim vz fz nz (by decide)) ?_
  refine Ev.bind (add_lim x y (by omega) (by omega)) ?_
  refine Ev.bind (sub_ev (x + y) y (by omega) (by omega)) ?_
  rw [if_neg (show ¬ x + y < y by omega), show x + y - y = x by omega]
  refine Ev.bind wakes1 ?_
  refine Ev.pos rfl ?_
  refine Ev.bind (add_lim x y (by omega) (by omega)) ?_
  refine Ev.bind (add_lim y x (by omega) (by omega)) ?_
  refine Ev.bind (cmp_ev (x + y) (y + x) (by omega) (by omega)) ?_
  refine Ev.pos (sg_eq (Nat.add_comm x y)) ?_
  refine Ev.bind (mul_lim x y (by omega) (by omega)) ?_
  refine Ev.bind (mul_lim y x (by omega) (by omega)) ?_
  refine Ev.bind (cmp_ev (x * y) (y * x) (by omega) (by omega)) ?_
  refine Ev.pos (sg_eq (Nat.mul_comm x y)) ?_
  refine Ev.bind (add_lim x y (by omega) (by omega)) ?_
  refine Ev.bind (add_lim (x + y) z (by omega) (by omega)) ?_
  refine Ev.bind (add_lim y z (by omega) (by omega)) ?_
  refine Ev.bind (add_lim x (y + z) (by omega) (by omega)) ?_
  refine Ev.bind (cmp_ev (x + y + z) (x + (y + z)) (by omega) (by omega)) ?_
  refine Ev.pos (sg_eq (Nat.add_assoc x y z)) ?_
  refine Ev.bind (mul_lim x y (by omega) (by omega)) ?_
  refine Ev.bind (mul_lim (x * y) z (by omega) (by omega)) ?_
  refine Ev.bind (mul_lim y z (by omega) (by omega)) ?_
  refine Ev.bind (mul_lim x (y * z) (by omega) (by omega)) ?_
  refine Ev.bind (cmp_ev (x * y * z) (x * (y * z)) (by omega) (by omega)) ?_
  refine Ev.pos (sg_eq (Nat.mul_assoc x y z)) ?_
  refine Ev.bind (add_lim y z (by omega) (by omega)) ?_
  refine Ev.bind (mul_lim x (y + z) (by omega) (by omega)) ?_
  refine Ev.bind (mul_lim x y (by omega) (by omega)) ?_
  refine Ev.bind (mul_lim x z (by omega) (by omega)) ?_
  refine Ev.bind (add_lim (x * y) (x * z) (by omega) (by omega)) ?_
  refine Ev.bind (cmp_ev (x * (y + z)) (x * y + x * z) (by omega) (by omega)) ?_
  refine Ev.pos (sg_eq (Nat.mul_add x y z)) ?_
  refine Ev.pos rfl ?_
  refine Ev.bind (cmp_ev x x (by omega) (by omega)) ?_
  refine Ev.pos (sg_self x) ?_
  refine Ev.bind o1 ?_
  refine Ev.bind (mul_lim x 1 (by omega) (by omega)) ?_
  rw [Nat.mul_one]
  refine Ev.bind (cmp_ev x x (by omega) (by omega)) ?_
  refine Ev.pos (sg_self x) ?_
  have m0 := mul_lim x 0 (by omega) (by rw [lim_zero]; decide)
  rw [lim_zero, Nat.mul_zero] at m0
  refine Ev.bind m0 ?_
  rw [zero_eq]
  exact Ev.now _
end Go.Proofs.Ytebjbmgfbejapaa.Pure
