-- Written by this session's printer (wip/tools), out of the translation's own print. Lean checks it.
import Derived.Test.YtfikfmediheioaaF0
import Derived.Test.YtfikfmediheioaaF7
import Derived.Test.YtfikfmediheioaaF18
namespace Go.Proofs.Ytfikfmediheioaa.F
open Go.RowKit Go.Proofs.YtfikfmediheioaaW.PrintWords Go.Proofs.YtfikfmediheioaaW.PrintLast Go.Proofs.YtfikfmediheioaaW.PrintMore Go.Proofs.YtfikfmediheioaaX
attribute [local go_sem] max2_int cell_some
attribute [local go_sem] max2_int min2_int max_two min_two max_three min_three max_four min_four   -- for this text's walks alone
set_option linter.unusedVariables false
set_option linter.unusedSimpArgs false

/-! ### date_Of: function 33 -/
mutual
def date_Of.j0 : Nat → Int → Bool → Option (Int × Int × Int × Int)
  | 0, _, _ => none
  | k + 1, x0, x10 => if x10 = true then (some (0, 0, 0, 11)) else (date_Of.l0 k x0 (mn (wrap64 ((wrap64 (Int.tdiv (wrap64 (x0 * 400)) 146097)) + 1)) 9999) 1 0)
def date_Of.l0 : Nat → Int → Int → Int → Int → Option (Int × Int × Int × Int)
  | 0, _, _, _, _ => none
  | k + 1, x0, x297000, x297001, x297002 => (date_ahead.f x297000).bind fun t297 => (if t297 ≥ x0 then (date_Of.l0 k x0 (wrap64 (x297000 - 1)) x297001 x297002) else (date_Of.l1 k x0 x297000 x297001 x297002))
def date_Of.j3 : Nat → Int → Int → Int → Int → Option (Int × Int × Int × Int)
  | 0, _, _, _, _ => none
  | k + 1, x0, x297000, x297001, x297002 => (date_ahead.f x297000).bind fun t299 => (date_Of.l2 k (wrap64 (x0 - t299)) x297000 x297001 x297002)
def date_Of.l2 : Nat → Int → Int → Int → Int → Option (Int × Int × Int × Int)
  | 0, _, _, _, _ => none
  | k + 1, x0, x297000, x297001, x297002 => (date_Days.f k x297000 x297001).bind fun t300 => (if x0 > t300 then ((date_Days.f k x297000 x297001).bind fun t301 => (date_Of.l2 k (wrap64 (x0 - t301)) x297000 (wrap64 (x297001 + 1)) x297002)) else (some (x297000, x297001, x0, 0)))
def date_Of.l1 : Nat → Int → Int → Int → Int → Option (Int × Int × Int × Int)
  | 0, _, _, _, _ => none
  | k + 1, x0, x297000, x297001, x297002 => if x297000 < 9999 then ((date_ahead.f (wrap64 (x297000 + 1))).bind fun t298 => (if t298 < x0 then (date_Of.l1 k x0 (wrap64 (x297000 + 1)) x297001 x297002) else (date_Of.j3 k x0 x297000 x297001 x297002))) else (date_Of.j3 k x0 x297000 x297001 x297002)
end
def date_Of.f (k : Nat) (a0 : Int) : Option (Int × Int × Int × Int) := if a0 < 1 then (date_Of.j0 k a0 true) else (date_Of.j0 k a0 (decide (a0 > 3652059)))
theorem date_Of.mono_l : ∀ k, (∀ y0 y1, LeO (date_Of.j0 k y0 y1) (date_Of.j0 (k + 1) y0 y1)) ∧ (∀ y0 y1 y2 y3, LeO (date_Of.l0 k y0 y1 y2 y3) (date_Of.l0 (k + 1) y0 y1 y2 y3)) ∧ (∀ y0 y1 y2 y3, LeO (date_Of.j3 k y0 y1 y2 y3) (date_Of.j3 (k + 1) y0 y1 y2 y3)) ∧ (∀ y0 y1 y2 y3, LeO (date_Of.l2 k y0 y1 y2 y3) (date_Of.l2 (k + 1) y0 y1 y2 y3)) ∧ (∀ y0 y1 y2 y3, LeO (date_Of.l1 k y0 y1 y2 y3) (date_Of.l1 (k + 1) y0 y1 y2 y3))
  | 0 => ⟨fun _ _ r h => by simp [date_Of.j0] at h, fun _ _ _ _ r h => by simp [date_Of.l0] at h, fun _ _ _ _ r h => by simp [date_Of.j3] at h, fun _ _ _ _ r h => by simp [date_Of.l2] at h, fun _ _ _ _ r h => by simp [date_Of.l1] at h⟩
  | k + 1 => by
    obtain ⟨ih0, ih1, ih2, ih3, ih4⟩ := date_Of.mono_l k
    refine ⟨?_, ?_, ?_, ?_, ?_⟩
    · intro y0 y1
      unfold date_Of.j0
      repeat' first
      | (with_reducible exact ih0 _ _)
      | (with_reducible exact ih1 _ _ _ _)
      | (with_reducible exact ih2 _ _ _ _)
      | (with_reducible exact ih3 _ _ _ _)
      | (with_reducible exact ih4 _ _ _ _)
      | (with_reducible exact date_Days.mono _ _ _)
      | (with_reducible exact LeO.refl _)
      | (with_reducible exact LeO.none _)
      | (with_reducible refine LeO.ite ?_ ?_)
      | (with_reducible refine LeO.bind ?_ (fun _ => ?_))
      | exact ih0 _ _
      | exact ih1 _ _ _ _
      | exact ih2 _ _ _ _
      | exact ih3 _ _ _ _
      | exact ih4 _ _ _ _
      | exact date_Days.mono _ _ _
      | exact LeO.none _
      | refine LeO.ite ?_ ?_
      | refine LeO.bind ?_ (fun _ => ?_)
    · intro y0 y1 y2 y3
      unfold date_Of.l0
      repeat' first
      | (with_reducible exact ih0 _ _)
      | (with_reducible exact ih1 _ _ _ _)
      | (with_reducible exact ih2 _ _ _ _)
      | (with_reducible exact ih3 _ _ _ _)
      | (with_reducible exact ih4 _ _ _ _)
      | (with_reducible exact date_Days.mono _ _ _)
      | (with_reducible exact LeO.refl _)
      | (with_reducible exact LeO.none _)
      | (with_reducible refine LeO.ite ?_ ?_)
      | (with_reducible refine LeO.bind ?_ (fun _ => ?_))
      | exact ih0 _ _
      | exact ih1 _ _ _ _
      | exact ih2 _ _ _ _
      | exact ih3 _ _ _ _
      | exact ih4 _ _ _ _
      | exact date_Days.mono _ _ _
      | exact LeO.none _
      | refine LeO.ite ?_ ?_
      | refine LeO.bind ?_ (fun _ => ?_)
    · intro y0 y1 y2 y3
      unfold date_Of.j3
      repeat' first
      | (with_reducible exact ih0 _ _)
      | (with_reducible exact ih1 _ _ _ _)
      | (with_reducible exact ih2 _ _ _ _)
      | (with_reducible exact ih3 _ _ _ _)
      | (with_reducible exact ih4 _ _ _ _)
      | (with_reducible exact date_Days.mono _ _ _)
      | (with_reducible exact LeO.refl _)
      | (with_reducible exact LeO.none _)
      | (with_reducible refine LeO.ite ?_ ?_)
      | (with_reducible refine LeO.bind ?_ (fun _ => ?_))
      | exact ih0 _ _
      | exact ih1 _ _ _ _
      | exact ih2 _ _ _ _
      | exact ih3 _ _ _ _
      | exact ih4 _ _ _ _
      | exact date_Days.mono _ _ _
      | exact LeO.none _
      | refine LeO.ite ?_ ?_
      | refine LeO.bind ?_ (fun _ => ?_)
    · intro y0 y1 y2 y3
      unfold date_Of.l2
      repeat' first
      | (with_reducible exact ih0 _ _)
      | (with_reducible exact ih1 _ _ _ _)
      | (with_reducible exact ih2 _ _ _ _)
      | (with_reducible exact ih3 _ _ _ _)
      | (with_reducible exact ih4 _ _ _ _)
      | (with_reducible exact date_Days.mono _ _ _)
      | (with_reducible exact LeO.refl _)
      | (with_reducible exact LeO.none _)
      | (with_reducible refine LeO.ite ?_ ?_)
      | (with_reducible refine LeO.bind ?_ (fun _ => ?_))
      | exact ih0 _ _
      | exact ih1 _ _ _ _
      | exact ih2 _ _ _ _
      | exact ih3 _ _ _ _
      | exact ih4 _ _ _ _
      | exact date_Days.mono _ _ _
      | exact LeO.none _
      | refine LeO.ite ?_ ?_
      | refine LeO.bind ?_ (fun _ => ?_)
    · intro y0 y1 y2 y3
      unfold date_Of.l1
      repeat' first
      | (with_reducible exact ih0 _ _)
      | (with_reducible exact ih1 _ _ _ _)
      | (with_reducible exact ih2 _ _ _ _)
      | (with_reducible exact ih3 _ _ _ _)
      | (with_reducible exact ih4 _ _ _ _)
      | (with_reducible exact date_Days.mono _ _ _)
      | (with_reducible exact LeO.refl _)
      | (with_reducible exact LeO.none _)
      | (with_reducible refine LeO.ite ?_ ?_)
      | (with_reducible refine LeO.bind ?_ (fun _ => ?_))
      | exact ih0 _ _
      | exact ih1 _ _ _ _
      | exact ih2 _ _ _ _
      | exact ih3 _ _ _ _
      | exact ih4 _ _ _ _
      | exact date_Days.mono _ _ _
      | exact LeO.none _
      | refine LeO.ite ?_ ?_
      | refine LeO.bind ?_ (fun _ => ?_)
theorem date_Of.mono : ∀ a0 k, LeO (date_Of.f k a0) (date_Of.f (k + 1) a0) := by
  intro a0 k
  obtain ⟨ih0, ih1, ih2, ih3, ih4⟩ := date_Of.mono_l k
  unfold date_Of.f
  repeat' first
      | (with_reducible exact ih0 _ _)
      | (with_reducible exact ih1 _ _ _ _)
      | (with_reducible exact ih2 _ _ _ _)
      | (with_reducible exact ih3 _ _ _ _)
      | (with_reducible exact ih4 _ _ _ _)
      | (with_reducible exact date_Days.mono _ _ _)
      | (with_reducible exact LeO.refl _)
      | (with_reducible exact LeO.none _)
      | (with_reducible refine LeO.ite ?_ ?_)
      | (with_reducible refine LeO.bind ?_ (fun _ => ?_))
      | exact ih0 _ _
      | exact ih1 _ _ _ _
      | exact ih2 _ _ _ _
      | exact ih3 _ _ _ _
      | exact ih4 _ _ _ _
      | exact date_Days.mono _ _ _
      | exact LeO.none _
      | refine LeO.ite ?_ ?_
      | refine LeO.bind ?_ (fun _ => ?_)
set_option maxHeartbeats 8000000 in
set_option maxRecDepth 100000 in
theorem date_Of.calls (k : Nat) (a0 : Int) (r1 : Int) (r2 : Int) (r3 : Int) (r4 : Int) (w : World) (h : date_Of.f k a0 = some (r1, r2, r3, r4)) :
    Calls Try.prog 33 #[.int .i64 a0] w fun e w' => e = .returned (.tuple #[.agg #[.int .i64 r1, .int .i64 r2, .int .i64 r3], .int .i64 r4]) ∧ Below w.heap.size w w' := by
  have hu23 := Try.underlying23
  have HB := Aside0.mk (Below.refl w.heap.size w)
  have H : (if a0 < 1 then (date_Of.j0 k a0 true) else (date_Of.j0 k a0 (decide (a0 > 3652059)))) = some (r1, r2, r3, r4) := h
  clear h
  have HC2 := Aside0.mk H
  clear H
  go_enter Try.func33, Try.ntmps33
  go_upto_region 1 with (first | ((with_reducible refine gate_dst (N := 2) rfl ?_); refine box_event ?hg (N := 2) ?hd (cs := #[.int .i64 0, .int .i64 0, .int .i64 0]) (t := 23) ?hr ?_; (case hd => rfl); (case hg => rfl); (case hr => first | (go_simp; done) | (go_simp; rfl)); intro gb295 hg w3 hbox hb; have n0_ := Aside0.mk (below_step (by repeat (first | (with_reducible first | exact HB.out | apply below_alloc | apply pw_below_drewN | apply below_drew1) | exact HB.out)) hb); have n1_ := Aside0.mk (hbox); have n2_ := Aside0.mk ((by rw [hg]; exact (below_size (by repeat (first | (with_reducible first | exact HB.out | apply below_alloc | apply pw_below_drewN | apply below_drew1) | exact HB.out))) : w.heap.size ≤ gb295)); have n3_ := Aside0.mk ((by rw [hg]; exact (below_size (by repeat (first | (with_reducible first | exact HB.out | apply below_alloc | apply pw_below_drewN | apply below_drew1) | exact HB.out))) : w.heap.size ≤ gb295)); clear HB; have HB := n0_; have BK295 := n1_; have GW295 := n2_; have GE295 := n3_; clear n0_ n1_ n2_ n3_; clear hb hbox hg))
  (try simp only [Act.put, List.setIfInBounds_toArray, List.set_cons_zero, List.set_cons_succ])
  go_cut [10] (fun v10 wc => ∃ (kq : Nat) (x10_1 : Bool), v10 = .bool x10_1 ∧ Aside0 (date_Of.j0 kq a0 x10_1 = some (r1, r2, r3, r4)) ∧ Aside0 (kq ≤ k) ∧ Aside0 (wc.heap[gb295]? = some (.cells #[.int .i64 0, .int .i64 0, .int .i64 0] 23 (0, 0))) ∧ Aside0 (Below w.heap.size w wc))
  case first =>
    have H := HC2.out
    clear HC2
    by_cases c4 : a0 < 1
    · rw [if_pos c4] at H
      have c4b0 : decide (a0 < 1) = true := decide_eq_true c4
      clear c4
      (first | rw [c4b0] | (simp only [i64_w, i32_w]; rw [c4b0]) | skip)
      have H' := Aside0.mk H
      clear H
      go_wp2
      (refine Met.intro ?_; go_step; (repeat apply Exists.intro); refine ⟨?rel, ?frame⟩)
      case frame => first | rfl | (rw [c4b0]; first | done | rfl) | (simp only [c4b0]; first | done | rfl)
      case rel => exact ⟨_, (true), (by first | rfl | (simp; done) | (simp [*]; done)), H', ⟨by first | omega | exact Nat.le_refl _⟩, ⟨by (with_reducible repeat (first | refine blk_drewN ?_ _ | refine blk_drew ?_ | refine blk_alloc ?_ _)); exact BK295.out⟩, ⟨by repeat (first | (with_reducible first | exact HB.out | apply below_alloc | apply pw_below_drewN | apply below_drew1 | refine below_set ?_ GE295.out) | exact HB.out)⟩⟩
    · rw [if_neg c4] at H
      have c4b0 : decide (a0 < 1) = false := decide_eq_false c4
      clear c4
      (first | rw [c4b0] | (simp only [i64_w, i32_w]; rw [c4b0]) | skip)
      have H' := Aside0.mk H
      clear H
      go_wp2
      (refine Met.intro ?_; go_step; (repeat apply Exists.intro); refine ⟨?rel, ?frame⟩)
      case frame => first | rfl | (rw [c4b0]; first | done | rfl) | (simp only [c4b0]; first | done | rfl)
      case rel => exact ⟨_, (decide (a0 > 3652059)), (by first | rfl | (simp; done) | (simp [*]; done)), H', ⟨by first | omega | exact Nat.le_refl _⟩, ⟨by (with_reducible repeat (first | refine blk_drewN ?_ _ | refine blk_drew ?_ | refine blk_alloc ?_ _)); exact BK295.out⟩, ⟨by repeat (first | (with_reducible first | exact HB.out | apply below_alloc | apply pw_below_drewN | apply below_drew1 | refine below_set ?_ GE295.out) | exact HB.out)⟩⟩
  case rest =>
    clear HC2
    try clear p2
    try clear c3
    try clear c4
    try clear c4b0
    obtain ⟨kq, x10_1, rfl, HA, HJ1, BK295, HB⟩ := hcut
    cases kq with
    | zero => exact absurd HA.out (by simp [date_Of.j0])
    | succ kj1 =>
      have H := HA.out
      clear HA
      simp only [date_Of.j0] at H
      by_cases c5 : x10_1 = true
      · subst c5
        have H1 : (some (0, 0, 0, 11)) = some (r1, r2, r3, r4) := by rw [if_pos rfl] at H; exact H
        clear H
        have H := H1
        clear H1
        simp only [Option.some.injEq, Prod.mk.injEq] at H
        obtain ⟨rfl, rfl, rfl, rfl⟩ := H
        have hcz6_0 : wc.cell? ⟨gb295, 0, none⟩ = some (.int .i64 0) := (blk_cell BK295.out 0).trans rfl
        have hcz6_1 : wc.cell? ⟨gb295, 1, none⟩ = some (.int .i64 0) := (blk_cell BK295.out 1).trans rfl
        have hcz6_2 : wc.cell? ⟨gb295, 2, none⟩ = some (.int .i64 0) := (blk_cell BK295.out 2).trans rfl
        have hfz6_0 := blk_frozen BK295.out 0
        have hfz6_1 := blk_frozen BK295.out 1
        have hfz6_2 := blk_frozen BK295.out 2
        go_wp2
        refine bodyPost_ret (results_ct rfl _ _ gb295 23 #[.int .i64 0, .int .i64 0, .int .i64 0] (0, 0) _ rfl (by (with_reducible repeat (first | refine blk_drewN ?_ _ | refine blk_drew ?_ | refine blk_alloc ?_ _)); refine blk_put (cs := #[.int .i64 0, .int .i64 0, .int .i64 0]) ?_ 2 _ rfl; (with_reducible repeat (first | refine blk_drewN ?_ _ | refine blk_drew ?_ | refine blk_alloc ?_ _)); refine blk_put (cs := #[.int .i64 0, .int .i64 0, .int .i64 0]) ?_ 1 _ rfl; (with_reducible repeat (first | refine blk_drewN ?_ _ | refine blk_drew ?_ | refine blk_alloc ?_ _)); refine blk_put (cs := #[.int .i64 0, .int .i64 0, .int .i64 0]) ?_ 0 _ rfl; (with_reducible repeat (first | refine blk_drewN ?_ _ | refine blk_drew ?_ | refine blk_alloc ?_ _)); exact BK295.out) Try.underlying23 rfl (by kernel_rfl)) rfl ?_
        exact ⟨by first | rfl | (simp [errW_none, errW_some] <;> rfl) | (simp [*, errW_none, errW_some] <;> rfl), by repeat (first | (with_reducible first | exact HB.out | apply below_alloc | apply pw_below_drewN | apply below_drew1 | refine below_set ?_ GE295.out) | exact HB.out)⟩
      · replace c5 := Bool.eq_false_iff.mpr c5
        subst c5
        have H1 : (date_Of.l0 kj1 a0 (mn (wrap64 ((wrap64 (Int.tdiv (wrap64 (a0 * 400)) 146097)) + 1)) 9999) 1 0) = some (r1, r2, r3, r4) := by rw [if_neg (show ¬ (false = true) by decide)] at H; exact H
        clear H
        have H := H1
        clear H1
        obtain ⟨ji7, hji7⟩ : ∃ j_ : Int, (mn (wrap64 ((wrap64 (Int.tdiv (wrap64 (a0 * 400)) 146097)) + 1)) 9999) = j_ := ⟨_, rfl⟩
        replace H : (date_Of.l0 kj1 a0 ji7 1 0) = some (r1, r2, r3, r4) := by first | (rw [hji7] at H; exact H) | (simp only [hji7] at H ⊢; exact H)
        have hji7_ : (if 9999 < (wrap64 ((wrap64 (Int.tdiv (wrap64 (a0 * 400)) 146097)) + 1)) then 9999 else (wrap64 ((wrap64 (Int.tdiv (wrap64 (a0 * 400)) 146097)) + 1))) = ji7 := hji7
        have H' := Aside0.mk H
        clear H
        go_wp2_with (first | ((with_reducible refine gate_dst (N := 4) rfl ?_); refine box_event ?hg (N := 4) ?hd (cs := #[.int .i64 0, .int .i64 0, .int .i64 0]) (t := 23) ?hr ?_; (case hd => rfl); (case hg => rfl); (case hr => first | (go_simp; done) | (go_simp; rfl)); intro gb296 hg w8 hbox hb; have n0_ := Aside0.mk (bb BK295.out hb); have n1_ := Aside0.mk (bs HB.out hb); have n2_ := Aside0.mk (hbox); have n3_ := Aside0.mk ((by rw [hg]; exact (bz HB.out) : w.heap.size ≤ gb296)); have n4_ := Aside0.mk ((by rw [hg]; exact (bz HB.out) : w.heap.size ≤ gb296)); have n5_ := Aside0.mk ((by rw [hg]; exact Nat.ne_of_lt (blk_lt (g := gb295) (o := .cells #[.int .i64 0, .int .i64 0, .int .i64 0] 23 (0, 0)) (by (with_reducible repeat (first | refine blk_drewN ?_ _ | refine blk_drew ?_ | refine blk_alloc ?_ _)); exact BK295.out)) : gb295 ≠ gb296)); have n6_ := Aside0.mk ((by rw [hg]; exact Nat.ne_of_gt (blk_lt (g := gb295) (o := .cells #[.int .i64 0, .int .i64 0, .int .i64 0] 23 (0, 0)) (by (with_reducible repeat (first | refine blk_drewN ?_ _ | refine blk_drew ?_ | refine blk_alloc ?_ _)); exact BK295.out)) : gb296 ≠ gb295)); clear BK295; clear HB; have BK295 := n0_; have HB := n1_; have BK296 := n2_; have GW296 := n3_; have GE296 := n4_; have NB295_296 := n5_; have NB296_295 := n6_; clear n0_ n1_ n2_ n3_ n4_ n5_ n6_; clear hb hbox hg; have hnb9 := NB296_295.out; have hnc9 := NB295_296.out; have hcz10_0 : w8.cell? ⟨gb296, 0, none⟩ = some (.int .i64 0) := (blk_cell BK296.out 0).trans rfl; have hcz10_1 : w8.cell? ⟨gb296, 1, none⟩ = some (.int .i64 0) := (blk_cell BK296.out 1).trans rfl; have hcz10_2 : w8.cell? ⟨gb296, 2, none⟩ = some (.int .i64 0) := (blk_cell BK296.out 2).trans rfl; have hfz10_0 := blk_frozen BK296.out 0; have hfz10_1 := blk_frozen BK296.out 1; have hfz10_2 := blk_frozen BK296.out 2))
        go_loopg [] kj1 (fun kq w' => ∃ (x297000_2 : Int), Aside0 (date_Of.l0 kq a0 x297000_2 1 0 = some (r1, r2, r3, r4)) ∧ Aside0 (kq ≤ kj1) ∧ Aside0 (w'.heap[gb295]? = some (.cells #[.int .i64 0, .int .i64 0, .int .i64 0] 23 (0, 0))) ∧ Aside0 (w'.heap[gb296]? = some (.cells #[.int .i64 x297000_2, .int .i64 1, .int .i64 0] 23 (0, 0))) ∧ Aside0 (Below w.heap.size w w'))
        case atStart => exact ⟨(ji7), H', ⟨Nat.le_refl _⟩, ⟨by (with_reducible repeat (first | refine blk_drewN ?_ _ | refine blk_drew ?_ | refine blk_alloc ?_ _)); refine blk_far ?_ NB295_296.out _; (with_reducible repeat (first | refine blk_drewN ?_ _ | refine blk_drew ?_ | refine blk_alloc ?_ _)); refine blk_far ?_ NB295_296.out _; (with_reducible repeat (first | refine blk_drewN ?_ _ | refine blk_drew ?_ | refine blk_alloc ?_ _)); refine blk_far ?_ NB295_296.out _; (with_reducible repeat (first | refine blk_drewN ?_ _ | refine blk_drew ?_ | refine blk_alloc ?_ _)); exact BK295.out⟩, ⟨by (with_reducible repeat (first | refine blk_drewN ?_ _ | refine blk_drew ?_ | refine blk_alloc ?_ _)); refine blk_put (cs := #[.int .i64 ji7, .int .i64 1, .int .i64 0]) ?_ 2 _ rfl; (with_reducible repeat (first | refine blk_drewN ?_ _ | refine blk_drew ?_ | refine blk_alloc ?_ _)); refine blk_put (cs := #[.int .i64 ji7, .int .i64 0, .int .i64 0]) ?_ 1 _ rfl; (with_reducible repeat (first | refine blk_drewN ?_ _ | refine blk_drew ?_ | refine blk_alloc ?_ _)); refine blk_put (cs := #[.int .i64 0, .int .i64 0, .int .i64 0]) ?_ 0 _ rfl; (with_reducible repeat (first | refine blk_drewN ?_ _ | refine blk_drew ?_ | refine blk_alloc ?_ _)); exact BK296.out⟩, ⟨by repeat (first | (with_reducible first | exact HB.out | apply below_alloc | apply pw_below_drewN | apply below_drew1 | refine below_set ?_ GE295.out | refine below_set ?_ GE296.out) | exact HB.out)⟩⟩
        case round =>
          clear H'
          try clear p2
          try clear c3
          try clear c4
          try clear c4b0
          try clear c5
          try clear p6
          try clear c9
          try clear hcz10_0
          try clear hcz10_1
          try clear hcz10_2
          try clear hcz6_0
          try clear hcz6_1
          try clear hcz6_2
          try clear hfz10_0
          try clear hfz10_1
          try clear hfz10_2
          try clear hfz6_0
          try clear hfz6_1
          try clear hfz6_2
          try clear p2
          obtain ⟨x297000_2, HA, HK2, BK295, BK296, HB⟩ := hrel
          cases gk with
          | zero => exact absurd HA.out (by simp [date_Of.l0])
          | succ k2 =>
            have H := HA.out
            clear HA
            simp only [date_Of.l0] at H
            replace H := Option.bind_eq_some_iff.mp H
            obtain ⟨t297, A110, H⟩ := H
            replace H : (if t297 ≥ a0 then (date_Of.l0 k2 a0 (wrap64 (x297000_2 - 1)) 1 0) else (date_Of.l1 k2 a0 x297000_2 1 0)) = some (r1, r2, r3, r4) := H
            have A11 := Aside0.mk A110
            clear A110
            by_cases c12 : t297 ≥ a0
            · rw [if_pos c12] at H
              have c12b0 : decide (a0 ≤ t297) = true := decide_eq_true c12
              clear c12
              have H' := Aside0.mk H
              clear H
              have hnb13 := NB296_295.out
              have hnc13 := NB295_296.out
              have hcz14_0 : wr.cell? ⟨gb296, 0, none⟩ = some (.int .i64 x297000_2) := (blk_cell BK296.out 0).trans rfl
              have hcz14_1 : wr.cell? ⟨gb296, 1, none⟩ = some (.int .i64 1) := (blk_cell BK296.out 1).trans rfl
              have hcz14_2 : wr.cell? ⟨gb296, 2, none⟩ = some (.int .i64 0) := (blk_cell BK296.out 2).trans rfl
              have hfz14_0 := blk_frozen BK296.out 0
              have hfz14_1 := blk_frozen BK296.out 1
              have hfz14_2 := blk_frozen BK296.out 2
              go_wp2_with (first | ((with_reducible refine gate_callee (f := 42) rfl ?_); refine goesL_ (some 20) rfl rfl Try.func42 (by kernel_rfl) rfl #[.int .i64 x297000_2] rfl (by (try simp only [List.map_toArray, List.map_cons, List.map_nil]); first | done | rfl | (simp only [List.length_drop, List.length_take]; rfl)) ?_; (with_reducible refine (date_ahead.calls x297000_2 t297 _ A11.out).mono ?_); rintro e w' ⟨rfl, ⟨nd, rfl⟩⟩; refine ⟨_, rfl, ?_⟩; (try (rw [drewN_self wr]; generalize hq_ : World.drewN wr _ = wr; have n0_ : Aside0 (wr.heap[gb295]? = some (.cells #[.int .i64 0, .int .i64 0, .int .i64 0] 23 (0, 0))) := ⟨by rw [← hq_]; exact (by (with_reducible repeat (first | refine blk_drewN ?_ _ | refine blk_drew ?_ | refine blk_alloc ?_ _)); exact BK295.out)⟩; have n1_ : Aside0 (wr.heap[gb296]? = some (.cells #[.int .i64 x297000_2, .int .i64 1, .int .i64 0] 23 (0, 0))) := ⟨by rw [← hq_]; exact (by (with_reducible repeat (first | refine blk_drewN ?_ _ | refine blk_drew ?_ | refine blk_alloc ?_ _)); exact BK296.out)⟩; have n2_ : Aside0 (Below w.heap.size w wr) := ⟨by rw [← hq_]; exact (by repeat (first | (with_reducible first | exact HB.out | apply below_alloc | apply pw_below_drewN | apply below_drew1 | refine below_set ?_ GE295.out | refine below_set ?_ GE296.out) | exact HB.out))⟩; clear BK295 BK296 HB hq_; have BK295 := n0_; have BK296 := n1_; have HB := n2_; clear n0_ n1_ n2_; have hygb295_0 : wr.cell? ⟨gb295, 0, none⟩ = some (.int .i64 0) := (blk_cell BK295.out 0).trans rfl; have hygb295_1 : wr.cell? ⟨gb295, 1, none⟩ = some (.int .i64 0) := (blk_cell BK295.out 1).trans rfl; have hygb295_2 : wr.cell? ⟨gb295, 2, none⟩ = some (.int .i64 0) := (blk_cell BK295.out 2).trans rfl; have hwgb295_0 := blk_frozen BK295.out 0; have hwgb295_1 := blk_frozen BK295.out 1; have hwgb295_2 := blk_frozen BK295.out 2; have hygb296_0 : wr.cell? ⟨gb296, 0, none⟩ = some (.int .i64 x297000_2) := (blk_cell BK296.out 0).trans rfl; have hygb296_1 : wr.cell? ⟨gb296, 1, none⟩ = some (.int .i64 1) := (blk_cell BK296.out 1).trans rfl; have hygb296_2 : wr.cell? ⟨gb296, 2, none⟩ = some (.int .i64 0) := (blk_cell BK296.out 2).trans rfl; have hwgb296_0 := blk_frozen BK296.out 0; have hwgb296_1 := blk_frozen BK296.out 1; have hwgb296_2 := blk_frozen BK296.out 2))))
              go_roundg k2
              case measure => have := HJ1.out; have := HK2.out; omega
              case rel => exact ⟨(wrap64 (x297000_2 - 1)), H', ⟨by have := HJ1.out; have := HK2.out; omega⟩, ⟨by (with_reducible repeat (first | refine blk_drewN ?_ _ | refine blk_drew ?_ | refine blk_alloc ?_ _)); refine blk_far ?_ NB295_296.out _; (with_reducible repeat (first | refine blk_drewN ?_ _ | refine blk_drew ?_ | refine blk_alloc ?_ _)); exact BK295.out⟩, ⟨by (with_reducible repeat (first | refine blk_drewN ?_ _ | refine blk_drew ?_ | refine blk_alloc ?_ _)); refine blk_put (cs := #[.int .i64 x297000_2, .int .i64 1, .int .i64 0]) ?_ 0 _ rfl; (with_reducible repeat (first | refine blk_drewN ?_ _ | refine blk_drew ?_ | refine blk_alloc ?_ _)); exact BK296.out⟩, ⟨by repeat (first | (with_reducible first | exact HB.out | apply below_alloc | apply pw_below_drewN | apply below_drew1 | refine below_set ?_ GE295.out | refine below_set ?_ GE296.out) | exact HB.out)⟩⟩
            · rw [if_neg c12] at H
              have c12b0 : decide (a0 ≤ t297) = false := decide_eq_false c12
              clear c12
              have HC15 := Aside0.mk H
              clear H
              have hnb16 := NB296_295.out
              have hnc16 := NB295_296.out
              have hcz17_0 : wr.cell? ⟨gb296, 0, none⟩ = some (.int .i64 x297000_2) := (blk_cell BK296.out 0).trans rfl
              have hcz17_1 : wr.cell? ⟨gb296, 1, none⟩ = some (.int .i64 1) := (blk_cell BK296.out 1).trans rfl
              have hcz17_2 : wr.cell? ⟨gb296, 2, none⟩ = some (.int .i64 0) := (blk_cell BK296.out 2).trans rfl
              have hfz17_0 := blk_frozen BK296.out 0
              have hfz17_1 := blk_frozen BK296.out 1
              have hfz17_2 := blk_frozen BK296.out 2
              go_upto_block 2 with (first | ((with_reducible refine gate_callee (f := 42) rfl ?_); refine goesL_ (some 20) rfl rfl Try.func42 (by kernel_rfl) rfl #[.int .i64 x297000_2] rfl (by (try simp only [List.map_toArray, List.map_cons, List.map_nil]); first | done | rfl | (simp only [List.length_drop, List.length_take]; rfl)) ?_; (with_reducible refine (date_ahead.calls x297000_2 t297 _ A11.out).mono ?_); rintro e w' ⟨rfl, ⟨nd, rfl⟩⟩; refine ⟨_, rfl, ?_⟩))
              (try simp only [Act.put, List.setIfInBounds_toArray, List.set_cons_zero, List.set_cons_succ])
              go_cut [] (fun wc => ∃ (kq : Nat) (x297000_14 : Int), Aside0 (date_Of.j3 kq a0 x297000_14 1 0 = some (r1, r2, r3, r4)) ∧ Aside0 (kq ≤ k2) ∧ Aside0 (wc.heap[gb295]? = some (.cells #[.int .i64 0, .int .i64 0, .int .i64 0] 23 (0, 0))) ∧ Aside0 (wc.heap[gb296]? = some (.cells #[.int .i64 x297000_14, .int .i64 1, .int .i64 0] 23 (0, 0))) ∧ Aside0 (Below w.heap.size w wc))
              case first =>
                have H := HC15.out
                clear HC15
                have H' := Aside0.mk H
                clear H
                go_wp2
                go_loopg [] k2 (fun kq w' => ∃ (x297000_3 : Int), Aside0 (date_Of.l1 kq a0 x297000_3 1 0 = some (r1, r2, r3, r4)) ∧ Aside0 (kq ≤ k2) ∧ Aside0 (w'.heap[gb295]? = some (.cells #[.int .i64 0, .int .i64 0, .int .i64 0] 23 (0, 0))) ∧ Aside0 (w'.heap[gb296]? = some (.cells #[.int .i64 x297000_3, .int .i64 1, .int .i64 0] 23 (0, 0))) ∧ Aside0 (Below w.heap.size w w'))
                case atStart => exact ⟨(x297000_2), H', ⟨Nat.le_refl _⟩, ⟨by (with_reducible repeat (first | refine blk_drewN ?_ _ | refine blk_drew ?_ | refine blk_alloc ?_ _)); exact BK295.out⟩, ⟨by (with_reducible repeat (first | refine blk_drewN ?_ _ | refine blk_drew ?_ | refine blk_alloc ?_ _)); exact BK296.out⟩, ⟨by repeat (first | (with_reducible first | exact HB.out | apply below_alloc | apply pw_below_drewN | apply below_drew1 | refine below_set ?_ GE295.out | refine below_set ?_ GE296.out) | exact HB.out)⟩⟩
                case round =>
                  clear H'
                  try clear c1
                  try clear p2
                  try clear c3
                  try clear c4
                  try clear c4b0
                  try clear c5
                  try clear p6
                  try clear c9
                  try clear c12
                  try clear c12b0
                  try clear c13
                  try clear c16
                  try clear hcz10_0
                  try clear hcz10_1
                  try clear hcz10_2
                  try clear hcz14_0
                  try clear hcz14_1
                  try clear hcz14_2
                  try clear hcz17_0
                  try clear hcz17_1
                  try clear hcz17_2
                  try clear hcz6_0
                  try clear hcz6_1
                  try clear hcz6_2
                  try clear hfz10_0
                  try clear hfz10_1
                  try clear hfz10_2
                  try clear hfz14_0
                  try clear hfz14_1
                  try clear hfz14_2
                  try clear hfz17_0
                  try clear hfz17_1
                  try clear hfz17_2
                  try clear hfz6_0
                  try clear hfz6_1
                  try clear hfz6_2
                  try clear p2
                  try clear p6
                  obtain ⟨x297000_3, HA, HK3, BK295, BK296, HB⟩ := hrel
                  cases gk with
                  | zero => exact absurd HA.out (by simp [date_Of.l1])
                  | succ k3 =>
                    have H := HA.out
                    clear HA
                    simp only [date_Of.l1] at H
                    by_cases c18 : x297000_3 < 9999
                    · rw [if_pos c18] at H
                      have c18b0 : decide (x297000_3 < 9999) = true := decide_eq_true c18
                      clear c18
                      (first | rw [c18b0] | (simp only [i64_w, i32_w]; rw [c18b0]) | skip)
                      replace H := Option.bind_eq_some_iff.mp H
                      obtain ⟨t298, A190, H⟩ := H
                      replace H : (if t298 < a0 then (date_Of.l1 k3 a0 (wrap64 (x297000_3 + 1)) 1 0) else (date_Of.j3 k3 a0 x297000_3 1 0)) = some (r1, r2, r3, r4) := H
                      have A19 := Aside0.mk A190
                      clear A190
                      by_cases c20 : t298 < a0
                      · rw [if_pos c20] at H
                        have c20b0 : decide (t298 < a0) = true := decide_eq_true c20
                        clear c20
                        have H' := Aside0.mk H
                        clear H
                        have hnb21 := NB296_295.out
                        have hnc21 := NB295_296.out
                        have hcz22_0 : wr.cell? ⟨gb296, 0, none⟩ = some (.int .i64 x297000_3) := (blk_cell BK296.out 0).trans rfl
                        have hcz22_1 : wr.cell? ⟨gb296, 1, none⟩ = some (.int .i64 1) := (blk_cell BK296.out 1).trans rfl
                        have hcz22_2 : wr.cell? ⟨gb296, 2, none⟩ = some (.int .i64 0) := (blk_cell BK296.out 2).trans rfl
                        have hfz22_0 := blk_frozen BK296.out 0
                        have hfz22_1 := blk_frozen BK296.out 1
                        have hfz22_2 := blk_frozen BK296.out 2
                        go_wp2_with (first | (go_at_call 42; (with_reducible refine (date_ahead.calls (wrap64 (x297000_3 + 1)) t298 _ A19.out).mono ?_); rintro e w' ⟨rfl, ⟨nd, rfl⟩⟩; (try (rw [drewN_self wr]; generalize hq_ : World.drewN wr _ = wr; have n0_ : Aside0 (wr.heap[gb295]? = some (.cells #[.int .i64 0, .int .i64 0, .int .i64 0] 23 (0, 0))) := ⟨by rw [← hq_]; exact (by (with_reducible repeat (first | refine blk_drewN ?_ _ | refine blk_drew ?_ | refine blk_alloc ?_ _)); exact BK295.out)⟩; have n1_ : Aside0 (wr.heap[gb296]? = some (.cells #[.int .i64 x297000_3, .int .i64 1, .int .i64 0] 23 (0, 0))) := ⟨by rw [← hq_]; exact (by (with_reducible repeat (first | refine blk_drewN ?_ _ | refine blk_drew ?_ | refine blk_alloc ?_ _)); exact BK296.out)⟩; have n2_ : Aside0 (Below w.heap.size w wr) := ⟨by rw [← hq_]; exact (by repeat (first | (with_reducible first | exact HB.out | apply below_alloc | apply pw_below_drewN | apply below_drew1 | refine below_set ?_ GE295.out | refine below_set ?_ GE296.out) | exact HB.out))⟩; clear BK295 BK296 HB hq_; have BK295 := n0_; have BK296 := n1_; have HB := n2_; clear n0_ n1_ n2_; have hygb295_0 : wr.cell? ⟨gb295, 0, none⟩ = some (.int .i64 0) := (blk_cell BK295.out 0).trans rfl; have hygb295_1 : wr.cell? ⟨gb295, 1, none⟩ = some (.int .i64 0) := (blk_cell BK295.out 1).trans rfl; have hygb295_2 : wr.cell? ⟨gb295, 2, none⟩ = some (.int .i64 0) := (blk_cell BK295.out 2).trans rfl; have hwgb295_0 := blk_frozen BK295.out 0; have hwgb295_1 := blk_frozen BK295.out 1; have hwgb295_2 := blk_frozen BK295.out 2; have hygb296_0 : wr.cell? ⟨gb296, 0, none⟩ = some (.int .i64 x297000_3) := (blk_cell BK296.out 0).trans rfl; have hygb296_1 : wr.cell? ⟨gb296, 1, none⟩ = some (.int .i64 1) := (blk_cell BK296.out 1).trans rfl; have hygb296_2 : wr.cell? ⟨gb296, 2, none⟩ = some (.int .i64 0) := (blk_cell BK296.out 2).trans rfl; have hwgb296_0 := blk_frozen BK296.out 0; have hwgb296_1 := blk_frozen BK296.out 1; have hwgb296_2 := blk_frozen BK296.out 2))))
                        go_roundg k3
                        case measure => have := HJ1.out; have := HK2.out; have := HK3.out; omega
                        case rel => exact ⟨(wrap64 (x297000_3 + 1)), H', ⟨by have := HJ1.out; have := HK2.out; have := HK3.out; omega⟩, ⟨by (with_reducible repeat (first | refine blk_drewN ?_ _ | refine blk_drew ?_ | refine blk_alloc ?_ _)); refine blk_far ?_ NB295_296.out _; (with_reducible repeat (first | refine blk_drewN ?_ _ | refine blk_drew ?_ | refine blk_alloc ?_ _)); exact BK295.out⟩, ⟨by (with_reducible repeat (first | refine blk_drewN ?_ _ | refine blk_drew ?_ | refine blk_alloc ?_ _)); refine blk_put (cs := #[.int .i64 x297000_3, .int .i64 1, .int .i64 0]) ?_ 0 _ rfl; (with_reducible repeat (first | refine blk_drewN ?_ _ | refine blk_drew ?_ | refine blk_alloc ?_ _)); exact BK296.out⟩, ⟨by repeat (first | (with_reducible first | exact HB.out | apply below_alloc | apply pw_below_drewN | apply below_drew1 | refine below_set ?_ GE295.out | refine below_set ?_ GE296.out) | exact HB.out)⟩⟩
                      · rw [if_neg c20] at H
                        have c20b0 : decide (t298 < a0) = false := decide_eq_false c20
                        clear c20
                        have H' := Aside0.mk H
                        clear H
                        have hnb23 := NB296_295.out
                        have hnc23 := NB295_296.out
                        have hcz24_0 : wr.cell? ⟨gb296, 0, none⟩ = some (.int .i64 x297000_3) := (blk_cell BK296.out 0).trans rfl
                        have hcz24_1 : wr.cell? ⟨gb296, 1, none⟩ = some (.int .i64 1) := (blk_cell BK296.out 1).trans rfl
                        have hcz24_2 : wr.cell? ⟨gb296, 2, none⟩ = some (.int .i64 0) := (blk_cell BK296.out 2).trans rfl
                        have hfz24_0 := blk_frozen BK296.out 0
                        have hfz24_1 := blk_frozen BK296.out 1
                        have hfz24_2 := blk_frozen BK296.out 2
                        go_wp2_with (first | (go_at_call 42; (with_reducible refine (date_ahead.calls (wrap64 (x297000_3 + 1)) t298 _ A19.out).mono ?_); rintro e w' ⟨rfl, ⟨nd, rfl⟩⟩))
                        (refine Met.intro ?_; go_step; (repeat apply Exists.intro); refine ⟨?rel, ?frame⟩)
                        case frame => first | rfl | (rw [c20b0]; first | done | rfl) | (rw [c18b0]; first | done | rfl) | (rw [c12b0]; first | done | rfl) | (simp only [c12b0, c18b0, c20b0]; first | done | rfl)
                        case rel => exact ⟨_, (x297000_3), H', ⟨by have := HJ1.out; have := HK2.out; have := HK3.out; first | omega | exact Nat.le_refl _⟩, ⟨by (with_reducible repeat (first | refine blk_drewN ?_ _ | refine blk_drew ?_ | refine blk_alloc ?_ _)); exact BK295.out⟩, ⟨by (with_reducible repeat (first | refine blk_drewN ?_ _ | refine blk_drew ?_ | refine blk_alloc ?_ _)); exact BK296.out⟩, ⟨by repeat (first | (with_reducible first | exact HB.out | apply below_alloc | apply pw_below_drewN | apply below_drew1 | refine below_set ?_ GE295.out | refine below_set ?_ GE296.out) | exact HB.out)⟩⟩
                    · rw [if_neg c18] at H
                      have c18b0 : decide (x297000_3 < 9999) = false := decide_eq_false c18
                      clear c18
                      (first | rw [c18b0] | (simp only [i64_w, i32_w]; rw [c18b0]) | skip)
                      have H' := Aside0.mk H
                      clear H
                      have hnb25 := NB296_295.out
                      have hnc25 := NB295_296.out
                      have hcz26_0 : wr.cell? ⟨gb296, 0, none⟩ = some (.int .i64 x297000_3) := (blk_cell BK296.out 0).trans rfl
                      have hcz26_1 : wr.cell? ⟨gb296, 1, none⟩ = some (.int .i64 1) := (blk_cell BK296.out 1).trans rfl
                      have hcz26_2 : wr.cell? ⟨gb296, 2, none⟩ = some (.int .i64 0) := (blk_cell BK296.out 2).trans rfl
                      have hfz26_0 := blk_frozen BK296.out 0
                      have hfz26_1 := blk_frozen BK296.out 1
                      have hfz26_2 := blk_frozen BK296.out 2
                      go_wp2
                      (refine Met.intro ?_; go_step; (repeat apply Exists.intro); refine ⟨?rel, ?frame⟩)
                      case frame => first | rfl | (rw [c18b0]; first | done | rfl) | (rw [c12b0]; first | done | rfl) | (simp only [c12b0, c18b0]; first | done | rfl)
                      case rel => exact ⟨_, (x297000_3), H', ⟨by have := HJ1.out; have := HK2.out; have := HK3.out; first | omega | exact Nat.le_refl _⟩, ⟨by (with_reducible repeat (first | refine blk_drewN ?_ _ | refine blk_drew ?_ | refine blk_alloc ?_ _)); exact BK295.out⟩, ⟨by (with_reducible repeat (first | refine blk_drewN ?_ _ | refine blk_drew ?_ | refine blk_alloc ?_ _)); exact BK296.out⟩, ⟨by repeat (first | (with_reducible first | exact HB.out | apply below_alloc | apply pw_below_drewN | apply below_drew1 | refine below_set ?_ GE295.out | refine below_set ?_ GE296.out) | exact HB.out)⟩⟩
              case rest =>
                clear HC15
                try clear c1
                try clear c2
                try clear p2
                try clear c3
                try clear c4
                try clear c4b0
                try clear c5
                try clear p6
                try clear c9
                try clear c12
                try clear c12b0
                try clear c13
                try clear c16
                try clear c18
                try clear c18b0
                try clear c20
                try clear c20b0
                try clear c21
                try clear c23
                try clear c25
                try clear hcz10_0
                try clear hcz10_1
                try clear hcz10_2
                try clear hcz14_0
                try clear hcz14_1
                try clear hcz14_2
                try clear hcz17_0
                try clear hcz17_1
                try clear hcz17_2
                try clear hcz22_0
                try clear hcz22_1
                try clear hcz22_2
                try clear hcz24_0
                try clear hcz24_1
                try clear hcz24_2
                try clear hcz26_0
                try clear hcz26_1
                try clear hcz26_2
                try clear hcz6_0
                try clear hcz6_1
                try clear hcz6_2
                try clear hfz10_0
                try clear hfz10_1
                try clear hfz10_2
                try clear hfz14_0
                try clear hfz14_1
                try clear hfz14_2
                try clear hfz17_0
                try clear hfz17_1
                try clear hfz17_2
                try clear hfz22_0
                try clear hfz22_1
                try clear hfz22_2
                try clear hfz24_0
                try clear hfz24_1
                try clear hfz24_2
                try clear hfz26_0
                try clear hfz26_1
                try clear hfz26_2
                try clear hfz6_0
                try clear hfz6_1
                try clear hfz6_2
                try clear p2
                try clear p6
                obtain ⟨kq, x297000_14, HA, HJ14, BK295, BK296, HB⟩ := hcut
                cases kq with
                | zero => exact absurd HA.out (by simp [date_Of.j3])
                | succ kj14 =>
                  have H := HA.out
                  clear HA
                  simp only [date_Of.j3] at H
                  replace H := Option.bind_eq_some_iff.mp H
                  obtain ⟨t299, A270, H⟩ := H
                  replace H : (date_Of.l2 kj14 (wrap64 (a0 - t299)) x297000_14 1 0) = some (r1, r2, r3, r4) := H
                  have A27 := Aside0.mk A270
                  clear A270
                  have H' := Aside0.mk H
                  clear H
                  have hnb28 := NB296_295.out
                  have hnc28 := NB295_296.out
                  have hcz29_0 : wc.cell? ⟨gb296, 0, none⟩ = some (.int .i64 x297000_14) := (blk_cell BK296.out 0).trans rfl
                  have hcz29_1 : wc.cell? ⟨gb296, 1, none⟩ = some (.int .i64 1) := (blk_cell BK296.out 1).trans rfl
                  have hcz29_2 : wc.cell? ⟨gb296, 2, none⟩ = some (.int .i64 0) := (blk_cell BK296.out 2).trans rfl
                  have hfz29_0 := blk_frozen BK296.out 0
                  have hfz29_1 := blk_frozen BK296.out 1
                  have hfz29_2 := blk_frozen BK296.out 2
                  go_wp2_with (first | ((with_reducible refine gate_callee (f := 42) rfl ?_); refine goesL_ (some 45) rfl rfl Try.func42 (by kernel_rfl) rfl #[.int .i64 x297000_14] rfl (by (try simp only [List.map_toArray, List.map_cons, List.map_nil]); first | done | rfl | (simp only [List.length_drop, List.length_take]; rfl)) ?_; (with_reducible refine (date_ahead.calls x297000_14 t299 _ A27.out).mono ?_); rintro e w' ⟨rfl, ⟨nd, rfl⟩⟩; refine ⟨_, rfl, ?_⟩))
                  go_loopg [0] kj14 (fun kq v0 w' => ∃ (x0_4 : Int) (x297001_4 : Int), v0 = .int .i64 x0_4 ∧ Aside0 (date_Of.l2 kq x0_4 x297000_14 x297001_4 0 = some (r1, r2, r3, r4)) ∧ Aside0 (kq ≤ kj14) ∧ Aside0 (w'.heap[gb295]? = some (.cells #[.int .i64 0, .int .i64 0, .int .i64 0] 23 (0, 0))) ∧ Aside0 (w'.heap[gb296]? = some (.cells #[.int .i64 x297000_14, .int .i64 x297001_4, .int .i64 0] 23 (0, 0))) ∧ Aside0 (Below w.heap.size w w'))
                  case atStart => exact ⟨(wrap64 (a0 - t299)), (1), (by first | rfl | (simp; done) | (simp [*]; done)), H', ⟨Nat.le_refl _⟩, ⟨by (with_reducible repeat (first | refine blk_drewN ?_ _ | refine blk_drew ?_ | refine blk_alloc ?_ _)); exact BK295.out⟩, ⟨by (with_reducible repeat (first | refine blk_drewN ?_ _ | refine blk_drew ?_ | refine blk_alloc ?_ _)); exact BK296.out⟩, ⟨by repeat (first | (with_reducible first | exact HB.out | apply below_alloc | apply pw_below_drewN | apply below_drew1 | refine below_set ?_ GE295.out | refine below_set ?_ GE296.out) | exact HB.out)⟩⟩
                  case round =>
                    clear H'
                    try clear c1
                    try clear c2
                    try clear p2
                    try clear c3
                    try clear c4
                    try clear c4b0
                    try clear c5
                    try clear p6
                    try clear c9
                    try clear c12
                    try clear c12b0
                    try clear c13
                    try clear c16
                    try clear c18
                    try clear c18b0
                    try clear c20
                    try clear c20b0
                    try clear c21
                    try clear c23
                    try clear c25
                    try clear c28
                    try clear hcz10_0
                    try clear hcz10_1
                    try clear hcz10_2
                    try clear hcz14_0
                    try clear hcz14_1
                    try clear hcz14_2
                    try clear hcz17_0
                    try clear hcz17_1
                    try clear hcz17_2
                    try clear hcz22_0
                    try clear hcz22_1
                    try clear hcz22_2
                    try clear hcz24_0
                    try clear hcz24_1
                    try clear hcz24_2
                    try clear hcz26_0
                    try clear hcz26_1
                    try clear hcz26_2
                    try clear hcz29_0
                    try clear hcz29_1
                    try clear hcz29_2
                    try clear hcz6_0
                    try clear hcz6_1
                    try clear hcz6_2
                    try clear hfz10_0
                    try clear hfz10_1
                    try clear hfz10_2
                    try clear hfz14_0
                    try clear hfz14_1
                    try clear hfz14_2
                    try clear hfz17_0
                    try clear hfz17_1
                    try clear hfz17_2
                    try clear hfz22_0
                    try clear hfz22_1
                    try clear hfz22_2
                    try clear hfz24_0
                    try clear hfz24_1
                    try clear hfz24_2
                    try clear hfz26_0
                    try clear hfz26_1
                    try clear hfz26_2
                    try clear hfz29_0
                    try clear hfz29_1
                    try clear hfz29_2
                    try clear hfz6_0
                    try clear hfz6_1
                    try clear hfz6_2
                    try clear p2
                    try clear p6
                    obtain ⟨x0_4, x297001_4, rfl, HA, HK4, BK295, BK296, HB⟩ := hrel
                    cases gk with
                    | zero => exact absurd HA.out (by simp [date_Of.l2])
                    | succ k4 =>
                      have H := HA.out
                      clear HA
                      simp only [date_Of.l2] at H
                      replace H := Option.bind_eq_some_iff.mp H
                      obtain ⟨t300, A300, H⟩ := H
                      replace H : (if x0_4 > t300 then ((date_Days.f k4 x297000_14 x297001_4).bind fun t301 => (date_Of.l2 k4 (wrap64 (x0_4 - t301)) x297000_14 (wrap64 (x297001_4 + 1)) 0)) else (some (x297000_14, x297001_4, x0_4, 0))) = some (r1, r2, r3, r4) := H
                      have A30 := Aside0.mk A300
                      clear A300
                      by_cases c31 : x0_4 > t300
                      · rw [if_pos c31] at H
                        have c31b0 : decide (t300 < x0_4) = true := decide_eq_true c31
                        clear c31
                        replace H := Option.bind_eq_some_iff.mp H
                        obtain ⟨t301, A320, H⟩ := H
                        replace H : (date_Of.l2 k4 (wrap64 (x0_4 - t301)) x297000_14 (wrap64 (x297001_4 + 1)) 0) = some (r1, r2, r3, r4) := H
                        have A32 := Aside0.mk A320
                        clear A320
                        have H' := Aside0.mk H
                        clear H
                        have hnb33 := NB296_295.out
                        have hnc33 := NB295_296.out
                        have hcz34_0 : wr.cell? ⟨gb296, 0, none⟩ = some (.int .i64 x297000_14) := (blk_cell BK296.out 0).trans rfl
                        have hcz34_1 : wr.cell? ⟨gb296, 1, none⟩ = some (.int .i64 x297001_4) := (blk_cell BK296.out 1).trans rfl
                        have hcz34_2 : wr.cell? ⟨gb296, 2, none⟩ = some (.int .i64 0) := (blk_cell BK296.out 2).trans rfl
                        have hfz34_0 := blk_frozen BK296.out 0
                        have hfz34_1 := blk_frozen BK296.out 1
                        have hfz34_2 := blk_frozen BK296.out 2
                        go_wp2_with (first | ((with_reducible refine gate_callee (f := 27) rfl ?_); refine goesL_ (some 52) rfl rfl Try.func27 (by kernel_rfl) rfl #[.int .i64 x297000_14, .int .i64 x297001_4] rfl (by (try simp only [List.map_toArray, List.map_cons, List.map_nil]); first | done | rfl | (simp only [List.length_drop, List.length_take]; rfl)) ?_; (with_reducible refine (date_Days.calls k4 x297000_14 x297001_4 t300 _ A30.out).mono ?_); rintro e w' ⟨rfl, ⟨nd, rfl⟩⟩; refine ⟨_, rfl, ?_⟩; (try (rw [drewN_self wr]; generalize hq_ : World.drewN wr _ = wr; have n0_ : Aside0 (wr.heap[gb295]? = some (.cells #[.int .i64 0, .int .i64 0, .int .i64 0] 23 (0, 0))) := ⟨by rw [← hq_]; exact (by (with_reducible repeat (first | refine blk_drewN ?_ _ | refine blk_drew ?_ | refine blk_alloc ?_ _)); exact BK295.out)⟩; have n1_ : Aside0 (wr.heap[gb296]? = some (.cells #[.int .i64 x297000_14, .int .i64 x297001_4, .int .i64 0] 23 (0, 0))) := ⟨by rw [← hq_]; exact (by (with_reducible repeat (first | refine blk_drewN ?_ _ | refine blk_drew ?_ | refine blk_alloc ?_ _)); exact BK296.out)⟩; have n2_ : Aside0 (Below w.heap.size w wr) := ⟨by rw [← hq_]; exact (by repeat (first | (with_reducible first | exact HB.out | apply below_alloc | apply pw_below_drewN | apply below_drew1 | refine below_set ?_ GE295.out | refine below_set ?_ GE296.out) | exact HB.out))⟩; clear BK295 BK296 HB hq_; have BK295 := n0_; have BK296 := n1_; have HB := n2_; clear n0_ n1_ n2_; have hygb295_0 : wr.cell? ⟨gb295, 0, none⟩ = some (.int .i64 0) := (blk_cell BK295.out 0).trans rfl; have hygb295_1 : wr.cell? ⟨gb295, 1, none⟩ = some (.int .i64 0) := (blk_cell BK295.out 1).trans rfl; have hygb295_2 : wr.cell? ⟨gb295, 2, none⟩ = some (.int .i64 0) := (blk_cell BK295.out 2).trans rfl; have hwgb295_0 := blk_frozen BK295.out 0; have hwgb295_1 := blk_frozen BK295.out 1; have hwgb295_2 := blk_frozen BK295.out 2; have hygb296_0 : wr.cell? ⟨gb296, 0, none⟩ = some (.int .i64 x297000_14) := (blk_cell BK296.out 0).trans rfl; have hygb296_1 : wr.cell? ⟨gb296, 1, none⟩ = some (.int .i64 x297001_4) := (blk_cell BK296.out 1).trans rfl; have hygb296_2 : wr.cell? ⟨gb296, 2, none⟩ = some (.int .i64 0) := (blk_cell BK296.out 2).trans rfl; have hwgb296_0 := blk_frozen BK296.out 0; have hwgb296_1 := blk_frozen BK296.out 1; have hwgb296_2 := blk_frozen BK296.out 2))) | ((with_reducible refine gate_callee (f := 27) rfl ?_); refine goesL_ (some 59) rfl rfl Try.func27 (by kernel_rfl) rfl #[.int .i64 x297000_14, .int .i64 x297001_4] rfl (by (try simp only [List.map_toArray, List.map_cons, List.map_nil]); first | done | rfl | (simp only [List.length_drop, List.length_take]; rfl)) ?_; (with_reducible refine (date_Days.calls k4 x297000_14 x297001_4 t301 _ A32.out).mono ?_); rintro e w' ⟨rfl, ⟨nd, rfl⟩⟩; refine ⟨_, rfl, ?_⟩; (try (rw [drewN_self wr]; generalize hq_ : World.drewN wr _ = wr; have n0_ : Aside0 (wr.heap[gb295]? = some (.cells #[.int .i64 0, .int .i64 0, .int .i64 0] 23 (0, 0))) := ⟨by rw [← hq_]; exact (by (with_reducible repeat (first | refine blk_drewN ?_ _ | refine blk_drew ?_ | refine blk_alloc ?_ _)); exact BK295.out)⟩; have n1_ : Aside0 (wr.heap[gb296]? = some (.cells #[.int .i64 x297000_14, .int .i64 x297001_4, .int .i64 0] 23 (0, 0))) := ⟨by rw [← hq_]; exact (by (with_reducible repeat (first | refine blk_drewN ?_ _ | refine blk_drew ?_ | refine blk_alloc ?_ _)); exact BK296.out)⟩; have n2_ : Aside0 (Below w.heap.size w wr) := ⟨by rw [← hq_]; exact (by repeat (first | (with_reducible first | exact HB.out | apply below_alloc | apply pw_below_drewN | apply below_drew1 | refine below_set ?_ GE295.out | refine below_set ?_ GE296.out) | exact HB.out))⟩; clear BK295 BK296 HB hq_; have BK295 := n0_; have BK296 := n1_; have HB := n2_; clear n0_ n1_ n2_; have hygb295_0 : wr.cell? ⟨gb295, 0, none⟩ = some (.int .i64 0) := (blk_cell BK295.out 0).trans rfl; have hygb295_1 : wr.cell? ⟨gb295, 1, none⟩ = some (.int .i64 0) := (blk_cell BK295.out 1).trans rfl; have hygb295_2 : wr.cell? ⟨gb295, 2, none⟩ = some (.int .i64 0) := (blk_cell BK295.out 2).trans rfl; have hwgb295_0 := blk_frozen BK295.out 0; have hwgb295_1 := blk_frozen BK295.out 1; have hwgb295_2 := blk_frozen BK295.out 2; have hygb296_0 : wr.cell? ⟨gb296, 0, none⟩ = some (.int .i64 x297000_14) := (blk_cell BK296.out 0).trans rfl; have hygb296_1 : wr.cell? ⟨gb296, 1, none⟩ = some (.int .i64 x297001_4) := (blk_cell BK296.out 1).trans rfl; have hygb296_2 : wr.cell? ⟨gb296, 2, none⟩ = some (.int .i64 0) := (blk_cell BK296.out 2).trans rfl; have hwgb296_0 := blk_frozen BK296.out 0; have hwgb296_1 := blk_frozen BK296.out 1; have hwgb296_2 := blk_frozen BK296.out 2))))
                        go_roundg k4
                        case measure => have := HJ1.out; have := HK2.out; have := HJ14.out; have := HK4.out; omega
                        case rel => exact ⟨(wrap64 (x0_4 - t301)), (wrap64 (x297001_4 + 1)), (by first | rfl | (simp; done) | (simp [*]; done)), H', ⟨by have := HJ1.out; have := HK2.out; have := HJ14.out; have := HK4.out; omega⟩, ⟨by (with_reducible repeat (first | refine blk_drewN ?_ _ | refine blk_drew ?_ | refine blk_alloc ?_ _)); refine blk_far ?_ NB295_296.out _; (with_reducible repeat (first | refine blk_drewN ?_ _ | refine blk_drew ?_ | refine blk_alloc ?_ _)); exact BK295.out⟩, ⟨by (with_reducible repeat (first | refine blk_drewN ?_ _ | refine blk_drew ?_ | refine blk_alloc ?_ _)); refine blk_put (cs := #[.int .i64 x297000_14, .int .i64 x297001_4, .int .i64 0]) ?_ 1 _ rfl; (with_reducible repeat (first | refine blk_drewN ?_ _ | refine blk_drew ?_ | refine blk_alloc ?_ _)); exact BK296.out⟩, ⟨by repeat (first | (with_reducible first | exact HB.out | apply below_alloc | apply pw_below_drewN | apply below_drew1 | refine below_set ?_ GE295.out | refine below_set ?_ GE296.out) | exact HB.out)⟩⟩
                      · rw [if_neg c31] at H
                        have c31b0 : decide (t300 < x0_4) = false := decide_eq_false c31
                        clear c31
                        simp only [Option.some.injEq, Prod.mk.injEq] at H
                        obtain ⟨rfl, rfl, rfl, rfl⟩ := H
                        have hnb35 := NB296_295.out
                        have hnc35 := NB295_296.out
                        have hcz36_0 : wr.cell? ⟨gb296, 0, none⟩ = some (.int .i64 x297000_14) := (blk_cell BK296.out 0).trans rfl
                        have hcz36_1 : wr.cell? ⟨gb296, 1, none⟩ = some (.int .i64 x297001_4) := (blk_cell BK296.out 1).trans rfl
                        have hcz36_2 : wr.cell? ⟨gb296, 2, none⟩ = some (.int .i64 0) := (blk_cell BK296.out 2).trans rfl
                        have hfz36_0 := blk_frozen BK296.out 0
                        have hfz36_1 := blk_frozen BK296.out 1
                        have hfz36_2 := blk_frozen BK296.out 2
                        go_wp2_with (first | ((with_reducible refine gate_callee (f := 27) rfl ?_); refine goesL_ (some 52) rfl rfl Try.func27 (by kernel_rfl) rfl #[.int .i64 x297000_14, .int .i64 x297001_4] rfl (by (try simp only [List.map_toArray, List.map_cons, List.map_nil]); first | done | rfl | (simp only [List.length_drop, List.length_take]; rfl)) ?_; (with_reducible refine (date_Days.calls k4 x297000_14 x297001_4 t300 _ A30.out).mono ?_); rintro e w' ⟨rfl, ⟨nd, rfl⟩⟩; refine ⟨_, rfl, ?_⟩; (try (rw [drewN_self wr]; generalize hq_ : World.drewN wr _ = wr; have n0_ : Aside0 (wr.heap[gb295]? = some (.cells #[.int .i64 0, .int .i64 0, .int .i64 0] 23 (0, 0))) := ⟨by rw [← hq_]; exact (by (with_reducible repeat (first | refine blk_drewN ?_ _ | refine blk_drew ?_ | refine blk_alloc ?_ _)); exact BK295.out)⟩; have n1_ : Aside0 (wr.heap[gb296]? = some (.cells #[.int .i64 x297000_14, .int .i64 x297001_4, .int .i64 0] 23 (0, 0))) := ⟨by rw [← hq_]; exact (by (with_reducible repeat (first | refine blk_drewN ?_ _ | refine blk_drew ?_ | refine blk_alloc ?_ _)); exact BK296.out)⟩; have n2_ : Aside0 (Below w.heap.size w wr) := ⟨by rw [← hq_]; exact (by repeat (first | (with_reducible first | exact HB.out | apply below_alloc | apply pw_below_drewN | apply below_drew1 | refine below_set ?_ GE295.out | refine below_set ?_ GE296.out) | exact HB.out))⟩; clear BK295 BK296 HB hq_; have BK295 := n0_; have BK296 := n1_; have HB := n2_; clear n0_ n1_ n2_; have hygb295_0 : wr.cell? ⟨gb295, 0, none⟩ = some (.int .i64 0) := (blk_cell BK295.out 0).trans rfl; have hygb295_1 : wr.cell? ⟨gb295, 1, none⟩ = some (.int .i64 0) := (blk_cell BK295.out 1).trans rfl; have hygb295_2 : wr.cell? ⟨gb295, 2, none⟩ = some (.int .i64 0) := (blk_cell BK295.out 2).trans rfl; have hwgb295_0 := blk_frozen BK295.out 0; have hwgb295_1 := blk_frozen BK295.out 1; have hwgb295_2 := blk_frozen BK295.out 2; have hygb296_0 : wr.cell? ⟨gb296, 0, none⟩ = some (.int .i64 x297000_14) := (blk_cell BK296.out 0).trans rfl; have hygb296_1 : wr.cell? ⟨gb296, 1, none⟩ = some (.int .i64 x297001_4) := (blk_cell BK296.out 1).trans rfl; have hygb296_2 : wr.cell? ⟨gb296, 2, none⟩ = some (.int .i64 0) := (blk_cell BK296.out 2).trans rfl; have hwgb296_0 := blk_frozen BK296.out 0; have hwgb296_1 := blk_frozen BK296.out 1; have hwgb296_2 := blk_frozen BK296.out 2)); have hcz37_0 : wr.cell? ⟨gb295, 0, none⟩ = some (.int .i64 0) := (blk_cell BK295.out 0).trans rfl; have hcz37_1 : wr.cell? ⟨gb295, 1, none⟩ = some (.int .i64 0) := (blk_cell BK295.out 1).trans rfl; have hcz37_2 : wr.cell? ⟨gb295, 2, none⟩ = some (.int .i64 0) := (blk_cell BK295.out 2).trans rfl; have hfz37_0 := blk_frozen BK295.out 0; have hfz37_1 := blk_frozen BK295.out 1; have hfz37_2 := blk_frozen BK295.out 2))
                        refine bodyPost_ret (results_ct rfl _ _ gb295 23 #[.int .i64 x297000_14, .int .i64 x297001_4, .int .i64 x0_4] (0, 0) _ rfl (by (with_reducible repeat (first | refine blk_drewN ?_ _ | refine blk_drew ?_ | refine blk_alloc ?_ _)); refine blk_put (cs := #[.int .i64 x297000_14, .int .i64 x297001_4, .int .i64 0]) ?_ 2 _ rfl; (with_reducible repeat (first | refine blk_drewN ?_ _ | refine blk_drew ?_ | refine blk_alloc ?_ _)); refine blk_put (cs := #[.int .i64 x297000_14, .int .i64 0, .int .i64 0]) ?_ 1 _ rfl; (with_reducible repeat (first | refine blk_drewN ?_ _ | refine blk_drew ?_ | refine blk_alloc ?_ _)); refine blk_put (cs := #[.int .i64 0, .int .i64 0, .int .i64 0]) ?_ 0 _ rfl; (with_reducible repeat (first | refine blk_drewN ?_ _ | refine blk_drew ?_ | refine blk_alloc ?_ _)); refine blk_far ?_ NB295_296.out _; (with_reducible repeat (first | refine blk_drewN ?_ _ | refine blk_drew ?_ | refine blk_alloc ?_ _)); exact BK295.out) Try.underlying23 rfl (by kernel_rfl)) rfl ?_
                        exact ⟨by first | rfl | (simp [errW_none, errW_some] <;> rfl) | (simp only [← hji7]; first | rfl | (simp [errW_none, errW_some] <;> rfl)) | (simp [*, errW_none, errW_some] <;> rfl), by repeat (first | (with_reducible first | exact HB.out | apply below_alloc | apply pw_below_drewN | apply below_drew1 | refine below_set ?_ GE295.out | refine below_set ?_ GE296.out) | exact HB.out)⟩

end Go.Proofs.Ytfikfmediheioaa.F
