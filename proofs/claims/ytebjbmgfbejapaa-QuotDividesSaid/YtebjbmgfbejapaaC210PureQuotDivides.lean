import Derived.Test.YtebjbmgfbejapaaC210JM5
import Derived.Test.YtebjbmgfbejapaaC210JF0
import Derived.Test.YtebjbmgfbejapaaC210F57
namespace Go.Proofs.Ytebjbmgfbejapaa.Pure
open Go.RowKit Go.Proofs.Ytebjbmgfbejapaa.F Go.Proofs.YtebjbmgfbejapaaW.PrintWords Go.Proofs.YtebjbmgfbejapaaW.PrintLast Go.Proofs.YtebjbmgfbejapaaM
set_option linter.unusedVariables false
theorem QuotDivides : chattellaw02_QuotDivides.Pure := by
  intro l0 l1 _ _ w0 _ _ w1
  obtain ⟨x, vx, lx, fx, nx⟩ := cut_num w0 10
  obtain ⟨y, vy, ly, fy, ny⟩ := cut_num w1 10
  have dx := dlen_lim x
  have dy := dlen_lim y
  refine Ev.rounds ?_
  unfold chattellaw02_QuotDivides.f
  simp only [cut10, Option.bind_some]
  refine Ev.bind (of_lim vx fx nx (by decide)) ?_
  refine Ev.bind (of_lim vy fy ny (by decide)) ?_
  by_cases h : y = 0
  · subst h
    refine Ev.bind (Ev.lt 0 (fun k _ => div_zero x k)) ?_
    refine Ev.bind (val10 vx fx nx (by decide)) ?_
    refine Ev.bind (val10 vy fy ny (by decide)) ?_
    rw [dig_zero]
    refine Ev.pos (by simp) ?_
    refine Ev.bind wakes2 (Ev.pos rfl ?_)
    refine Ev.pos rfl ?_
    have hz : nat_Nat_Zero.f [] = some true := by have := zero_eq 0; rw [lim_zero] at this; simpa using this
    refine Ev.bindc hz (Ev.pos rfl (Ev.bindc hz (Ev.const rfl)))
  · have ld := len_mono (Nat.div_le_self x y)
    have lm := len_mono (Nat.mod_le x y)
    have dd := dlen_mono (Nat.div_le_self x y)
    have dm := dlen_mono (Nat.mod_le x y)
    refine Ev.bind (div_ev x y h (by omega) (by omega)) ?_
    refine Ev.bind (val10 vx fx nx (by decide)) ?_
    refine Ev.bind (val10 vy fy ny (by decide)) ?_
    have hl : (dig y).length ≠ 0 := fun h2 => h (dig_nil.1 h2)
    refine Ev.neg (by omega) ?_
    refine Ev.bind (divmod_ev x y (Nat.pos_of_ne_zero h) (by omega) (by omega)) ?_
    refine Ev.bind wakes2 (Ev.pos rfl ?_)
    refine Ev.pos rfl ?_
    refine Ev.bind (same02 (x / y) (x / y) (by omega) (by omega)) ?_
    rw [decide_eq_true rfl]
    refine Ev.pos rfl ?_
    refine Ev.bind (f := fun _ t => some t) (same02 (x % y) (x % y) (by omega) (by omega)) ?_
    rw [decide_eq_true rfl]
    exact Ev.now _
end Go.Proofs.Ytebjbmgfbejapaa.Pure
