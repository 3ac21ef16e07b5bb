-- Written by this session's printer (wip/tools), out of the translation's own print. Lean checks it.
import Derived.Test.YtfikfmediheioaaF0
import Derived.Test.YtfikfmediheioaaF1
import Derived.Test.YtfikfmediheioaaF4
import Derived.Test.YtfikfmediheioaaF11
import Derived.Test.YtfikfmediheioaaF16
import Derived.Test.YtfikfmediheioaaF20
import Derived.Test.YtfikfmediheioaaF30
import Derived.Test.YtfikfmediheioaaF42
namespace Go.Proofs.Ytfikfmediheioaa.F
open Go.RowKit Go.Proofs.YtfikfmediheioaaW.PrintWords Go.Proofs.YtfikfmediheioaaW.PrintLast Go.Proofs.YtfikfmediheioaaW.PrintMore Go.Proofs.YtfikfmediheioaaX
attribute [local go_sem] max2_int cell_some
attribute [local go_sem] max2_int min2_int max_two min_two max_three min_three max_four min_four   -- for this text's walks alone
set_option linter.unusedVariables false
set_option linter.unusedSimpArgs false

attribute [local go_sem high] eqA23
/-! ### chattellaw10_MonthBetween: function 10 -/
mutual
def chattellaw10_MonthBetween.j0 : Nat → Int → Int → Bool → Int → Int → Int → Int → Int → Int → Option (Bool)
  | 0, _, _, _, _, _, _, _, _, _ => none
  | k + 1, x5, x6, x28, x465000, x465001, x465002, x466000, x466001, x466002 => if x28 = true then (if x6 = 11 then (if x5 = 0 then (chattellaw10_MonthBetween.j1 k x465000 x465001 x465002 x466000 x466001 x466002) else (some false)) else (some false)) else (chattellaw10_MonthBetween.j1 k x465000 x465001 x465002 x466000 x466001 x466002)
def chattellaw10_MonthBetween.j1 : Nat → Int → Int → Int → Int → Int → Int → Option (Bool)
  | 0, _, _, _, _, _, _ => none
  | k + 1, x465000, x465001, x465002, x466000, x466001, x466002 => (chattelref09_Make.f k x465000 x465001 x465002 9999).bind fun bt470 => ((chattelref09_Make.f k x466000 x466001 x466002 9999).bind fun bt473 => ((month_Between.f k bt470.1 bt470.2.1 bt470.2.2 bt473.1 bt473.2.1 bt473.2.2).bind fun bt478 => ((month_Between.f k bt473.1 bt473.2.1 bt473.2.2 bt470.1 bt470.2.1 bt470.2.2).bind fun bt480 => ((month_AddDays.f k bt470.1 bt470.2.1 bt470.2.2 bt478.1).bind fun bt482 => ((chattellaw10_wakes.f k).bind fun t487 => (if t487 = true then (if bt478.2 = 0 then (if bt480.2 = 0 then (if bt482.2.2.2 = 0 then ((chattelref09_Number.f k bt473.1 bt473.2.1 bt473.2.2).bind fun t488 => ((chattelref09_Number.f k bt470.1 bt470.2.1 bt470.2.2).bind fun t489 => (if bt478.1 = (wrap64 (t488 - t489)) then (if bt480.1 = (wrap64 (-bt478.1)) then (some (bt482.1 == bt473.1 && (bt482.2.1 == bt473.2.1 && (bt482.2.2.1 == bt473.2.2)))) else (some false)) else (some false)))) else (some false)) else (some false)) else (some false)) else (some false)))))))
end
def chattellaw10_MonthBetween.f (k : Nat) (a0_0 : Int) (a0_1 : Int) (a0_2 : Int) (a1_0 : Int) (a1_1 : Int) (a1_2 : Int) : Option (Bool) := (month_Between.f k a0_0 a0_1 a0_2 a1_0 a1_1 a1_2).bind fun bt466 => ((chattelref09_Right.f k a0_0 a0_1 a0_2).bind fun t468 => (if t468 = true then ((chattelref09_Right.f k a1_0 a1_1 a1_2).bind fun t469 => (chattellaw10_MonthBetween.j0 k bt466.1 bt466.2 (!t469) a0_0 a0_1 a0_2 a1_0 a1_1 a1_2)) else (chattellaw10_MonthBetween.j0 k bt466.1 bt466.2 true a0_0 a0_1 a0_2 a1_0 a1_1 a1_2)))
theorem chattellaw10_MonthBetween.mono_l : ∀ k, (∀ y0 y1 y2 y3 y4 y5 y6 y7 y8, LeO (chattellaw10_MonthBetween.j0 k y0 y1 y2 y3 y4 y5 y6 y7 y8) (chattellaw10_MonthBetween.j0 (k + 1) y0 y1 y2 y3 y4 y5 y6 y7 y8)) ∧ (∀ y0 y1 y2 y3 y4 y5, LeO (chattellaw10_MonthBetween.j1 k y0 y1 y2 y3 y4 y5) (chattellaw10_MonthBetween.j1 (k + 1) y0 y1 y2 y3 y4 y5))
  | 0 => ⟨fun _ _ _ _ _ _ _ _ _ r h => by simp [chattellaw10_MonthBetween.j0] at h, fun _ _ _ _ _ _ r h => by simp [chattellaw10_MonthBetween.j1] at h⟩
  | k + 1 => by
    obtain ⟨ih0, ih1⟩ := chattellaw10_MonthBetween.mono_l k
    refine ⟨?_, ?_⟩
    · intro y0 y1 y2 y3 y4 y5 y6 y7 y8
      unfold chattellaw10_MonthBetween.j0
      repeat' first
      | (with_reducible exact ih0 _ _ _ _ _ _ _ _ _)
      | (with_reducible exact ih1 _ _ _ _ _ _)
      | (with_reducible exact chattellaw10_wakes.mono _)
      | (with_reducible exact chattelref09_Make.mono _ _ _ _ _)
      | (with_reducible exact chattelref09_Number.mono _ _ _ _)
      | (with_reducible exact chattelref09_Right.mono _ _ _ _)
      | (with_reducible exact month_AddDays.mono _ _ _ _ _)
      | (with_reducible exact month_Between.mono _ _ _ _ _ _ _)
      | (with_reducible exact LeO.refl _)
      | (with_reducible exact LeO.none _)
      | (with_reducible refine LeO.ite ?_ ?_)
      | (with_reducible refine LeO.bind ?_ (fun _ => ?_))
      | exact ih0 _ _ _ _ _ _ _ _ _
      | exact ih1 _ _ _ _ _ _
      | exact chattellaw10_wakes.mono _
      | exact chattelref09_Make.mono _ _ _ _ _
      | exact chattelref09_Number.mono _ _ _ _
      | exact chattelref09_Right.mono _ _ _ _
      | exact month_AddDays.mono _ _ _ _ _
      | exact month_Between.mono _ _ _ _ _ _ _
      | exact LeO.none _
      | refine LeO.ite ?_ ?_
      | refine LeO.bind ?_ (fun _ => ?_)
    · intro y0 y1 y2 y3 y4 y5
      unfold chattellaw10_MonthBetween.j1
      repeat' first
      | (with_reducible exact ih0 _ _ _ _ _ _ _ _ _)
      | (with_reducible exact ih1 _ _ _ _ _ _)
      | (with_reducible exact chattellaw10_wakes.mono _)
      | (with_reducible exact chattelref09_Make.mono _ _ _ _ _)
      | (with_reducible exact chattelref09_Number.mono _ _ _ _)
      | (with_reducible exact chattelref09_Right.mono _ _ _ _)
      | (with_reducible exact month_AddDays.mono _ _ _ _ _)
      | (with_reducible exact month_Between.mono _ _ _ _ _ _ _)
      | (with_reducible exact LeO.refl _)
      | (with_reducible exact LeO.none _)
      | (with_reducible refine LeO.ite ?_ ?_)
      | (with_reducible refine LeO.bind ?_ (fun _ => ?_))
      | exact ih0 _ _ _ _ _ _ _ _ _
      | exact ih1 _ _ _ _ _ _
      | exact chattellaw10_wakes.mono _
      | exact chattelref09_Make.mono _ _ _ _ _
      | exact chattelref09_Number.mono _ _ _ _
      | exact chattelref09_Right.mono _ _ _ _
      | exact month_AddDays.mono _ _ _ _ _
      | exact month_Between.mono _ _ _ _ _ _ _
      | exact LeO.none _
      | refine LeO.ite ?_ ?_
      | refine LeO.bind ?_ (fun _ => ?_)
theorem chattellaw10_MonthBetween.mono : ∀ a0 a1 a2 a3 a4 a5 k, LeO (chattellaw10_MonthBetween.f k a0 a1 a2 a3 a4 a5) (chattellaw10_MonthBetween.f (k + 1) a0 a1 a2 a3 a4 a5) := by
  intro a0 a1 a2 a3 a4 a5 k
  obtain ⟨ih0, ih1⟩ := chattellaw10_MonthBetween.mono_l k
  unfold chattellaw10_MonthBetween.f
  repeat' first
      | (with_reducible exact ih0 _ _ _ _ _ _ _ _ _)
      | (with_reducible exact ih1 _ _ _ _ _ _)
      | (with_reducible exact chattellaw10_wakes.mono _)
      | (with_reducible exact chattelref09_Make.mono _ _ _ _ _)
      | (with_reducible exact chattelref09_Number.mono _ _ _ _)
      | (with_reducible exact chattelref09_Right.mono _ _ _ _)
      | (with_reducible exact month_AddDays.mono _ _ _ _ _)
      | (with_reducible exact month_Between.mono _ _ _ _ _ _ _)
      | (with_reducible exact LeO.refl _)
      | (with_reducible exact LeO.none _)
      | (with_reducible refine LeO.ite ?_ ?_)
      | (with_reducible refine LeO.bind ?_ (fun _ => ?_))
      | exact ih0 _ _ _ _ _ _ _ _ _
      | exact ih1 _ _ _ _ _ _
      | exact chattellaw10_wakes.mono _
      | exact chattelref09_Make.mono _ _ _ _ _
      | exact chattelref09_Number.mono _ _ _ _
      | exact chattelref09_Right.mono _ _ _ _
      | exact month_AddDays.mono _ _ _ _ _
      | exact month_Between.mono _ _ _ _ _ _ _
      | exact LeO.none _
      | refine LeO.ite ?_ ?_
      | refine LeO.bind ?_ (fun _ => ?_)
def chattellaw10_MonthBetween.T5 : Bool × List (List Nat × List Nat) := (true, [([], []), ([0], [0]), ([], []), ([2], [2]), ([], []), ([4], [4]), ([1, 3, 5], [1, 3, 5]), ([6], [6]), ([], []), ([8], [8]), ([], []), ([10], [10]), ([], []), ([12], [12]), ([9, 11, 13], [9, 11, 13]), ([14, 7], [14]), ([], []), ([], []), ([16, 7, 15, 0, 1, 2, 3, 4, 5, 6, 7, 16, 17], [7, 16]), ([17, 15, 18, 0, 1, 2, 3, 4, 5, 6, 7, 8, 9, 10, 11, 12, 13, 14, 15, 16, 17, 18], [15, 17])])
def chattellaw10_MonthBetween.B5 : List Nat := [0, 1, 0, 4, 0, 16, 63, 127, 0, 256, 0, 1024, 0, 4096, 16128, 32767, 0, 0, 262143, 524287]
theorem chattellaw10_MonthBetween.tab5 : rtab .any (opsOf Try.f10 5) = chattellaw10_MonthBetween.T5 := by kernel_rfl
theorem chattellaw10_MonthBetween.bits5 : waitsOk chattellaw10_MonthBetween.T5.2 chattellaw10_MonthBetween.B5 = true := by kernel_rfl
def chattellaw10_MonthBetween.T9 : Bool × List (List Nat × List Nat) := (true, [([], []), ([0, 0], [0]), ([1], [1]), ([2, 1], [1, 2]), ([1, 3], [1, 3]), ([4, 1], [4]), ([5], [5]), ([6, 5], [5, 6]), ([5, 7], [5, 7]), ([8, 5], [8]), ([9], [9]), ([10, 9], [9, 10]), ([9, 11], [9, 11]), ([12, 9], [12]), ([13], [13]), ([13], [13]), ([15, 13, 13], [13, 15]), ([13], [13]), ([17, 16, 13], [13, 17]), ([16, 18, 13], [13, 16, 18]), ([14, 19, 13], [13, 14, 19]), ([13, 20], [13, 20]), ([21, 18], [21]), ([22], [22]), ([22], [22]), ([24, 22], [22, 24]), ([23, 25, 22], [22, 23, 25]), ([22, 26], [22, 26]), ([27, 22], [27]), ([28], [28]), ([28], [28]), ([29, 30, 28], [28, 29, 30]), ([28, 31], [28, 31]), ([32, 28, 0, 1, 2, 3, 4, 5, 6, 7, 8, 9, 10, 11, 12, 13, 14, 15, 16, 17, 18, 19, 20, 21, 22, 23, 24, 25, 26, 27, 28, 29, 30, 31, 32], [32])])
def chattellaw10_MonthBetween.B9 : List Nat := [0, 1, 3, 7, 15, 31, 63, 127, 255, 511, 1023, 2047, 4095, 8191, 16383, 16383, 49151, 16383, 245759, 507903, 1048575, 2097151, 4194303, 8388607, 8388607, 25165823, 67108863, 134217727, 268435455, 536870911, 536870911, 2147483647, 4294967295, 8589934591]
theorem chattellaw10_MonthBetween.tab9 : rtab .any (opsOf Try.f10 9) = chattellaw10_MonthBetween.T9 := by kernel_rfl
theorem chattellaw10_MonthBetween.bits9 : waitsOk chattellaw10_MonthBetween.T9.2 chattellaw10_MonthBetween.B9 = true := by kernel_rfl
set_option maxHeartbeats 8000000 in
set_option maxRecDepth 100000 in
theorem chattellaw10_MonthBetween.calls (k : Nat) (a0_0 : Int) (a0_1 : Int) (a0_2 : Int) (a1_0 : Int) (a1_1 : Int) (a1_2 : Int) (r : Bool) (w : World) (h : chattellaw10_MonthBetween.f k a0_0 a0_1 a0_2 a1_0 a1_1 a1_2 = some r) (ht_ : r = true) :
    Calls Try.prog 10 #[.agg #[.int .i64 a0_0, .int .i64 a0_1, .int .i64 a0_2], .agg #[.int .i64 a1_0, .int .i64 a1_1, .int .i64 a1_2]] w fun e w' => e = .returned (.bool r) ∧ Below w.heap.size w w' := by
  have hu23 := Try.underlying23
  have hu25 := Try.underlying25
  have HB := Aside0.mk (Below.refl w.heap.size w)
  have H : ((month_Between.f k a0_0 a0_1 a0_2 a1_0 a1_1 a1_2).bind fun bt466 => ((chattelref09_Right.f k a0_0 a0_1 a0_2).bind fun t468 => (if t468 = true then ((chattelref09_Right.f k a1_0 a1_1 a1_2).bind fun t469 => (chattellaw10_MonthBetween.j0 k bt466.1 bt466.2 (!t469) a0_0 a0_1 a0_2 a1_0 a1_1 a1_2)) else (chattellaw10_MonthBetween.j0 k bt466.1 bt466.2 true a0_0 a0_1 a0_2 a1_0 a1_1 a1_2)))) = some r := h
  clear h
  replace H := Option.bind_eq_some_iff.mp H
  obtain ⟨⟨t466, t467⟩, A30, H⟩ := H
  replace H : ((chattelref09_Right.f k a0_0 a0_1 a0_2).bind fun t468 => (if t468 = true then ((chattelref09_Right.f k a1_0 a1_1 a1_2).bind fun t469 => (chattellaw10_MonthBetween.j0 k t466 t467 (!t469) a0_0 a0_1 a0_2 a1_0 a1_1 a1_2)) else (chattellaw10_MonthBetween.j0 k t466 t467 true a0_0 a0_1 a0_2 a1_0 a1_1 a1_2))) = some r := H
  have A3 := Aside0.mk A30
  clear A30
  have HC4 := Aside0.mk H
  clear H
  go_enter Try.func10, Try.ntmps10
  go_upto_region 2 with (first | ((with_reducible refine gate_dst (N := 2) rfl ?_); refine box_event ?hg (N := 2) ?hd (cs := #[.int .i64 a0_0, .int .i64 a0_1, .int .i64 a0_2]) (t := 23) ?hr ?_; (case hd => rfl); (case hg => rfl); (case hr => first | (go_simp; done) | (go_simp; rfl)); intro gb464 hg w5 hbox hb; have n0_ := Aside0.mk (below_step (by repeat (first | (with_reducible first | exact HB.out | apply below_alloc | apply pw_below_drewN | apply below_drew1) | exact HB.out)) hb); have n1_ := Aside0.mk (hbox); have n2_ := Aside0.mk ((by rw [hg]; exact (below_size (by repeat (first | (with_reducible first | exact HB.out | apply below_alloc | apply pw_below_drewN | apply below_drew1) | exact HB.out))) : w.heap.size ≤ gb464)); have n3_ := Aside0.mk ((by rw [hg]; exact (below_size (by repeat (first | (with_reducible first | exact HB.out | apply below_alloc | apply pw_below_drewN | apply below_drew1) | exact HB.out))) : w.heap.size ≤ gb464)); clear HB; have HB := n0_; have BK464 := n1_; have GW464 := n2_; have GE464 := n3_; clear n0_ n1_ n2_ n3_; clear hb hbox hg) | ((with_reducible refine gate_dst (N := 3) rfl ?_); refine box_event ?hg (N := 3) ?hd (cs := #[.int .i64 a1_0, .int .i64 a1_1, .int .i64 a1_2]) (t := 23) ?hr ?_; (case hd => rfl); (case hg => rfl); (case hr => first | (go_simp; done) | (go_simp; rfl)); intro gb465 hg w6 hbox hb; have n0_ := Aside0.mk (bb BK464.out hb); have n1_ := Aside0.mk (bs HB.out hb); have n2_ := Aside0.mk (hbox); have n3_ := Aside0.mk ((by rw [hg]; exact (bz HB.out) : w.heap.size ≤ gb465)); have n4_ := Aside0.mk ((by rw [hg]; exact (bz HB.out) : w.heap.size ≤ gb465)); have n5_ := Aside0.mk ((by rw [hg]; exact Nat.ne_of_lt (blk_lt (g := gb464) (o := .cells #[.int .i64 a0_0, .int .i64 a0_1, .int .i64 a0_2] 23 (0, 0)) (by (with_reducible repeat (first | refine blk_drewN ?_ _ | refine blk_drew ?_ | refine blk_alloc ?_ _)); exact BK464.out)) : gb464 ≠ gb465)); have n6_ := Aside0.mk ((by rw [hg]; exact Nat.ne_of_gt (blk_lt (g := gb464) (o := .cells #[.int .i64 a0_0, .int .i64 a0_1, .int .i64 a0_2] 23 (0, 0)) (by (with_reducible repeat (first | refine blk_drewN ?_ _ | refine blk_drew ?_ | refine blk_alloc ?_ _)); exact BK464.out)) : gb465 ≠ gb464)); clear BK464; clear HB; have BK464 := n0_; have HB := n1_; have BK465 := n2_; have GW465 := n3_; have GE465 := n4_; have NB464_465 := n5_; have NB465_464 := n6_; clear n0_ n1_ n2_ n3_ n4_ n5_ n6_; clear hb hbox hg; have hnb7 := NB464_465.out; have hnc7 := NB465_464.out; have hcz8_0 : w6.cell? ⟨gb464, 0, none⟩ = some (.int .i64 a0_0) := (blk_cell BK464.out 0).trans rfl; have hcz8_1 : w6.cell? ⟨gb464, 1, none⟩ = some (.int .i64 a0_1) := (blk_cell BK464.out 1).trans rfl; have hcz8_2 : w6.cell? ⟨gb464, 2, none⟩ = some (.int .i64 a0_2) := (blk_cell BK464.out 2).trans rfl; have hfz8_0 := blk_frozen BK464.out 0; have hfz8_1 := blk_frozen BK464.out 1; have hfz8_2 := blk_frozen BK464.out 2; have hcz9_0 : w6.cell? ⟨gb465, 0, none⟩ = some (.int .i64 a1_0) := (blk_cell BK465.out 0).trans rfl; have hcz9_1 : w6.cell? ⟨gb465, 1, none⟩ = some (.int .i64 a1_1) := (blk_cell BK465.out 1).trans rfl; have hcz9_2 : w6.cell? ⟨gb465, 2, none⟩ = some (.int .i64 a1_2) := (blk_cell BK465.out 2).trans rfl; have hfz9_0 := blk_frozen BK465.out 0; have hfz9_1 := blk_frozen BK465.out 1; have hfz9_2 := blk_frozen BK465.out 2) | ((with_reducible refine gate_callee (f := 18) rfl ?_); refine goesL_ (some 18) rfl rfl Try.func18 (by kernel_rfl) rfl #[.agg #[.int .i64 a0_0, .int .i64 a0_1, .int .i64 a0_2], .agg #[.int .i64 a1_0, .int .i64 a1_1, .int .i64 a1_2]] rfl (by (try simp only [List.map_toArray, List.map_cons, List.map_nil]); first | done | rfl | (simp only [List.length_drop, List.length_take]; rfl)) ?_; (with_reducible refine (month_Between.calls k a0_0 a0_1 a0_2 a1_0 a1_1 a1_2 t466 t467 _ A3.out).mono ?_); rintro e w10 ⟨rfl, hb⟩; refine ⟨_, rfl, ?_⟩; replace BK464 := Aside0.mk (bb BK464.out hb); replace BK465 := Aside0.mk (bb BK465.out hb); replace HB := Aside0.mk (bs HB.out hb); (try clear hb); (try clear hb2); (try clear hk); (try clear hi)))
  (try simp only [Act.put, List.setIfInBounds_toArray, List.set_cons_zero, List.set_cons_succ])
  go_cut [28] (fun v28 wc => ∃ (kq : Nat) (x28_3 : Bool), v28 = .bool x28_3 ∧ Aside0 (chattellaw10_MonthBetween.j0 kq t466 t467 x28_3 a0_0 a0_1 a0_2 a1_0 a1_1 a1_2 = some r) ∧ Aside0 (kq ≤ k) ∧ Aside0 (wc.heap[gb464]? = some (.cells #[.int .i64 a0_0, .int .i64 a0_1, .int .i64 a0_2] 23 (0, 0))) ∧ Aside0 (wc.heap[gb465]? = some (.cells #[.int .i64 a1_0, .int .i64 a1_1, .int .i64 a1_2] 23 (0, 0))) ∧ Aside0 (Below w.heap.size w wc))
  case first =>
    have H := HC4.out
    clear HC4
    replace H := Option.bind_eq_some_iff.mp H
    obtain ⟨t468, A110, H⟩ := H
    replace H : (if t468 = true then ((chattelref09_Right.f k a1_0 a1_1 a1_2).bind fun t469 => (chattellaw10_MonthBetween.j0 k t466 t467 (!t469) a0_0 a0_1 a0_2 a1_0 a1_1 a1_2)) else (chattellaw10_MonthBetween.j0 k t466 t467 true a0_0 a0_1 a0_2 a1_0 a1_1 a1_2)) = some r := H
    have A11 := Aside0.mk A110
    clear A110
    by_cases c12 : t468 = true
    · subst c12
      have H1 : ((chattelref09_Right.f k a1_0 a1_1 a1_2).bind fun t469 => (chattellaw10_MonthBetween.j0 k t466 t467 (!t469) a0_0 a0_1 a0_2 a1_0 a1_1 a1_2)) = some r := by rw [if_pos rfl] at H; exact H
      clear H
      have H := H1
      clear H1
      replace H := Option.bind_eq_some_iff.mp H
      obtain ⟨t469, A130, H⟩ := H
      replace H : (chattellaw10_MonthBetween.j0 k t466 t467 (!t469) a0_0 a0_1 a0_2 a1_0 a1_1 a1_2) = some r := H
      have A13 := Aside0.mk A130
      clear A130
      have H' := Aside0.mk H
      clear H
      have hnb14 := NB464_465.out
      have hnc14 := NB465_464.out
      have hcz15_0 : w10.cell? ⟨gb464, 0, none⟩ = some (.int .i64 a0_0) := (blk_cell BK464.out 0).trans rfl
      have hcz15_1 : w10.cell? ⟨gb464, 1, none⟩ = some (.int .i64 a0_1) := (blk_cell BK464.out 1).trans rfl
      have hcz15_2 : w10.cell? ⟨gb464, 2, none⟩ = some (.int .i64 a0_2) := (blk_cell BK464.out 2).trans rfl
      have hfz15_0 := blk_frozen BK464.out 0
      have hfz15_1 := blk_frozen BK464.out 1
      have hfz15_2 := blk_frozen BK464.out 2
      go_wp2_with (first | ((with_reducible refine gate_callee (f := 21) rfl ?_); refine goesL_ (some 22) rfl rfl Try.func21 (by kernel_rfl) rfl #[.agg #[.int .i64 a0_0, .int .i64 a0_1, .int .i64 a0_2]] rfl (by (try simp only [List.map_toArray, List.map_cons, List.map_nil]); first | done | rfl | (simp only [List.length_drop, List.length_take]; rfl)) ?_; (with_reducible refine (chattelref09_Right.calls k a0_0 a0_1 a0_2 true _ A11.out).mono ?_); rintro e w16 ⟨rfl, hb⟩; refine ⟨_, rfl, ?_⟩; replace BK464 := Aside0.mk (bb BK464.out hb); replace BK465 := Aside0.mk (bb BK465.out hb); replace HB := Aside0.mk (bs HB.out hb); (try clear hb); (try clear hb2); (try clear hk); (try clear hi); have hcz17_0 : w16.cell? ⟨gb465, 0, none⟩ = some (.int .i64 a1_0) := (blk_cell BK465.out 0).trans rfl; have hcz17_1 : w16.cell? ⟨gb465, 1, none⟩ = some (.int .i64 a1_1) := (blk_cell BK465.out 1).trans rfl; have hcz17_2 : w16.cell? ⟨gb465, 2, none⟩ = some (.int .i64 a1_2) := (blk_cell BK465.out 2).trans rfl; have hfz17_0 := blk_frozen BK465.out 0; have hfz17_1 := blk_frozen BK465.out 1; have hfz17_2 := blk_frozen BK465.out 2) | (go_at_call 21; (with_reducible refine (chattelref09_Right.calls k a1_0 a1_1 a1_2 t469 _ A13.out).mono ?_); rintro e w18 ⟨rfl, hb⟩; replace BK464 := Aside0.mk (bb BK464.out hb); replace BK465 := Aside0.mk (bb BK465.out hb); replace HB := Aside0.mk (bs HB.out hb); (try clear hb); (try clear hb2); (try clear hk); (try clear hi)))
      go_meet
      case rel => exact ⟨_, (!t469), (by first | rfl | (simp; done) | (simp [*]; done)), H', ⟨by first | omega | exact Nat.le_refl _⟩, ⟨by (with_reducible repeat (first | refine blk_drewN ?_ _ | refine blk_drew ?_ | refine blk_alloc ?_ _)); exact BK464.out⟩, ⟨by (with_reducible repeat (first | refine blk_drewN ?_ _ | refine blk_drew ?_ | refine blk_alloc ?_ _)); exact BK465.out⟩, ⟨by repeat (first | (with_reducible first | exact HB.out | apply below_alloc | apply pw_below_drewN | apply below_drew1 | refine below_set ?_ GE464.out | refine below_set ?_ GE465.out) | exact HB.out)⟩⟩
    · replace c12 := Bool.eq_false_iff.mpr c12
      subst c12
      have H1 : (chattellaw10_MonthBetween.j0 k t466 t467 true a0_0 a0_1 a0_2 a1_0 a1_1 a1_2) = some r := by rw [if_neg (show ¬ (false = true) by decide)] at H; exact H
      clear H
      have H := H1
      clear H1
      have H' := Aside0.mk H
      clear H
      have hnb19 := NB464_465.out
      have hnc19 := NB465_464.out
      have hcz20_0 : w10.cell? ⟨gb464, 0, none⟩ = some (.int .i64 a0_0) := (blk_cell BK464.out 0).trans rfl
      have hcz20_1 : w10.cell? ⟨gb464, 1, none⟩ = some (.int .i64 a0_1) := (blk_cell BK464.out 1).trans rfl
      have hcz20_2 : w10.cell? ⟨gb464, 2, none⟩ = some (.int .i64 a0_2) := (blk_cell BK464.out 2).trans rfl
      have hfz20_0 := blk_frozen BK464.out 0
      have hfz20_1 := blk_frozen BK464.out 1
      have hfz20_2 := blk_frozen BK464.out 2
      go_wp2_with (first | ((with_reducible refine gate_callee (f := 21) rfl ?_); refine goesL_ (some 22) rfl rfl Try.func21 (by kernel_rfl) rfl #[.agg #[.int .i64 a0_0, .int .i64 a0_1, .int .i64 a0_2]] rfl (by (try simp only [List.map_toArray, List.map_cons, List.map_nil]); first | done | rfl | (simp only [List.length_drop, List.length_take]; rfl)) ?_; (with_reducible refine (chattelref09_Right.calls k a0_0 a0_1 a0_2 false _ A11.out).mono ?_); rintro e w21 ⟨rfl, hb⟩; refine ⟨_, rfl, ?_⟩; replace BK464 := Aside0.mk (bb BK464.out hb); replace BK465 := Aside0.mk (bb BK465.out hb); replace HB := Aside0.mk (bs HB.out hb); (try clear hb); (try clear hb2); (try clear hk); (try clear hi)))
      go_meet
      case rel => exact ⟨_, (true), (by first | rfl | (simp; done) | (simp [*]; done)), H', ⟨by first | omega | exact Nat.le_refl _⟩, ⟨by (with_reducible repeat (first | refine blk_drewN ?_ _ | refine blk_drew ?_ | refine blk_alloc ?_ _)); exact BK464.out⟩, ⟨by (with_reducible repeat (first | refine blk_drewN ?_ _ | refine blk_drew ?_ | refine blk_alloc ?_ _)); exact BK465.out⟩, ⟨by repeat (first | (with_reducible first | exact HB.out | apply below_alloc | apply pw_below_drewN | apply below_drew1 | refine below_set ?_ GE464.out | refine below_set ?_ GE465.out) | exact HB.out)⟩⟩
  case rest =>
    clear HC4
    try clear c1
    try clear c2
    try clear p2
    try clear c7
    try clear c10
    try clear c12
    try clear c14
    try clear c18
    try clear c19
    try clear c21
    try clear hcz15_0
    try clear hcz15_1
    try clear hcz15_2
    try clear hcz17_0
    try clear hcz17_1
    try clear hcz17_2
    try clear hcz20_0
    try clear hcz20_1
    try clear hcz20_2
    try clear hcz8_0
    try clear hcz8_1
    try clear hcz8_2
    try clear hcz9_0
    try clear hcz9_1
    try clear hcz9_2
    try clear hfz15_0
    try clear hfz15_1
    try clear hfz15_2
    try clear hfz17_0
    try clear hfz17_1
    try clear hfz17_2
    try clear hfz20_0
    try clear hfz20_1
    try clear hfz20_2
    try clear hfz8_0
    try clear hfz8_1
    try clear hfz8_2
    try clear hfz9_0
    try clear hfz9_1
    try clear hfz9_2
    obtain ⟨kq, x28_3, rfl, HA, HJ3, BK464, BK465, HB⟩ := hcut
    cases kq with
    | zero => exact absurd HA.out (by simp [chattellaw10_MonthBetween.j0])
    | succ kj3 =>
      have H := HA.out
      clear HA
      simp only [chattellaw10_MonthBetween.j0] at H
      have HC22 := Aside0.mk H
      clear H
      go_upto_if 28 with (fail)
      go_cut [] (fun wc => ∃ (kq : Nat), Aside0 (chattellaw10_MonthBetween.j1 kq a0_0 a0_1 a0_2 a1_0 a1_1 a1_2 = some r) ∧ Aside0 (kq ≤ kj3) ∧ Aside0 (wc.heap[gb464]? = some (.cells #[.int .i64 a0_0, .int .i64 a0_1, .int .i64 a0_2] 23 (0, 0))) ∧ Aside0 (wc.heap[gb465]? = some (.cells #[.int .i64 a1_0, .int .i64 a1_1, .int .i64 a1_2] 23 (0, 0))) ∧ Aside0 (Below w.heap.size w wc))
      case first =>
        have H := HC22.out
        clear HC22
        by_cases c23 : x28_3 = true
        · subst c23
          have H1 : (if t467 = 11 then (if t466 = 0 then (chattellaw10_MonthBetween.j1 kj3 a0_0 a0_1 a0_2 a1_0 a1_1 a1_2) else (some false)) else (some false)) = some r := by rw [if_pos rfl] at H; exact H
          clear H
          have H := H1
          clear H1
          by_cases c24 : t467 = 11
          rotate_left
          · rw [if_neg c24] at H
            have c24b0 : (t467 == 11) = false := beq_eq_false_iff_ne.mpr c24
            have c24b1 : (t467 != 11) = true := bne_iff_ne.mpr c24
            (first | rw [c24b0] | (simp only [i64_w, i32_w]; rw [c24b0]) | skip)
            exact absurd (Option.some.inj H) (by rw [ht_]; decide)
          rw [if_pos c24] at H
          have c24b0 : (t467 == 11) = true := beq_iff_eq.mpr c24
          have c24b1 : (t467 != 11) = false := bne_eq_false_iff_eq.mpr c24
          clear c24
          (first | rw [c24b0] | (simp only [i64_w, i32_w]; rw [c24b0]) | skip)
          by_cases c25 : t466 = 0
          rotate_left
          · rw [if_neg c25] at H
            have c25b0 : (t466 == 0) = false := beq_eq_false_iff_ne.mpr c25
            have c25b1 : (t466 != 0) = true := bne_iff_ne.mpr c25
            exact absurd (Option.some.inj H) (by rw [ht_]; decide)
          rw [if_pos c25] at H
          have c25b0 : (t466 == 0) = true := beq_iff_eq.mpr c25
          have c25b1 : (t466 != 0) = false := bne_eq_false_iff_eq.mpr c25
          clear c25
          have H' := Aside0.mk H
          clear H
          go_wp2
          (refine Met.intro ?_; go_step; (repeat apply Exists.intro); refine ⟨?rel, ?frame⟩)
          case frame => first | rfl | (rw [c25b1]; first | done | rfl) | (rw [c25b0]; first | done | rfl) | (rw [c24b1]; first | done | rfl) | (rw [c24b0]; first | done | rfl) | (simp only [c24b0, c24b1, c25b0, c25b1]; first | done | rfl)
          case rel => exact ⟨_, H', ⟨by have := HJ3.out; first | omega | exact Nat.le_refl _⟩, ⟨by (with_reducible repeat (first | refine blk_drewN ?_ _ | refine blk_drew ?_ | refine blk_alloc ?_ _)); exact BK464.out⟩, ⟨by (with_reducible repeat (first | refine blk_drewN ?_ _ | refine blk_drew ?_ | refine blk_alloc ?_ _)); exact BK465.out⟩, ⟨by repeat (first | (with_reducible first | exact HB.out | apply below_alloc | apply pw_below_drewN | apply below_drew1 | refine below_set ?_ GE464.out | refine below_set ?_ GE465.out) | exact HB.out)⟩⟩
        · replace c23 := Bool.eq_false_iff.mpr c23
          subst c23
          have H1 : (chattellaw10_MonthBetween.j1 kj3 a0_0 a0_1 a0_2 a1_0 a1_1 a1_2) = some r := by rw [if_neg (show ¬ (false = true) by decide)] at H; exact H
          clear H
          have H := H1
          clear H1
          have H' := Aside0.mk H
          clear H
          go_wp2
          go_meet
          case rel => exact ⟨_, H', ⟨by have := HJ3.out; first | omega | exact Nat.le_refl _⟩, ⟨by (with_reducible repeat (first | refine blk_drewN ?_ _ | refine blk_drew ?_ | refine blk_alloc ?_ _)); exact BK464.out⟩, ⟨by (with_reducible repeat (first | refine blk_drewN ?_ _ | refine blk_drew ?_ | refine blk_alloc ?_ _)); exact BK465.out⟩, ⟨by repeat (first | (with_reducible first | exact HB.out | apply below_alloc | apply pw_below_drewN | apply below_drew1 | refine below_set ?_ GE464.out | refine below_set ?_ GE465.out) | exact HB.out)⟩⟩
      case rest =>
        clear HC22
        try clear c1
        try clear c2
        try clear p2
        try clear c7
        try clear c10
        try clear c12
        try clear c14
        try clear c18
        try clear c19
        try clear c21
        try clear c23
        try clear c24
        try clear c24b0
        try clear c24b1
        try clear c25
        try clear c25b0
        try clear c25b1
        try clear hcz15_0
        try clear hcz15_1
        try clear hcz15_2
        try clear hcz17_0
        try clear hcz17_1
        try clear hcz17_2
        try clear hcz20_0
        try clear hcz20_1
        try clear hcz20_2
        try clear hcz8_0
        try clear hcz8_1
        try clear hcz8_2
        try clear hcz9_0
        try clear hcz9_1
        try clear hcz9_2
        try clear hfz15_0
        try clear hfz15_1
        try clear hfz15_2
        try clear hfz17_0
        try clear hfz17_1
        try clear hfz17_2
        try clear hfz20_0
        try clear hfz20_1
        try clear hfz20_2
        try clear hfz8_0
        try clear hfz8_1
        try clear hfz8_2
        try clear hfz9_0
        try clear hfz9_1
        try clear hfz9_2
        try clear p2
        obtain ⟨kq, HA, HJ21, BK464, BK465, HB⟩ := hcut
        cases kq with
        | zero => exact absurd HA.out (by simp [chattellaw10_MonthBetween.j1])
        | succ kj21 =>
          have H := HA.out
          clear HA
          simp only [chattellaw10_MonthBetween.j1] at H
          replace H := Option.bind_eq_some_iff.mp H
          obtain ⟨⟨t470, t471, t472⟩, A260, H⟩ := H
          replace H : ((chattelref09_Make.f kj21 a1_0 a1_1 a1_2 9999).bind fun bt473 => ((month_Between.f kj21 t470 t471 t472 bt473.1 bt473.2.1 bt473.2.2).bind fun bt478 => ((month_Between.f kj21 bt473.1 bt473.2.1 bt473.2.2 t470 t471 t472).bind fun bt480 => ((month_AddDays.f kj21 t470 t471 t472 bt478.1).bind fun bt482 => ((chattellaw10_wakes.f kj21).bind fun t487 => (if t487 = true then (if bt478.2 = 0 then (if bt480.2 = 0 then (if bt482.2.2.2 = 0 then ((chattelref09_Number.f kj21 bt473.1 bt473.2.1 bt473.2.2).bind fun t488 => ((chattelref09_Number.f kj21 t470 t471 t472).bind fun t489 => (if bt478.1 = (wrap64 (t488 - t489)) then (if bt480.1 = (wrap64 (-bt478.1)) then (some (bt482.1 == bt473.1 && (bt482.2.1 == bt473.2.1 && (bt482.2.2.1 == bt473.2.2)))) else (some false)) else (some false)))) else (some false)) else (some false)) else (some false)) else (some false))))))) = some r := H
          have A26 := Aside0.mk A260
          clear A260
          replace H := Option.bind_eq_some_iff.mp H
          obtain ⟨⟨t473, t474, t475⟩, A270, H⟩ := H
          replace H : ((month_Between.f kj21 t470 t471 t472 t473 t474 t475).bind fun bt478 => ((month_Between.f kj21 t473 t474 t475 t470 t471 t472).bind fun bt480 => ((month_AddDays.f kj21 t470 t471 t472 bt478.1).bind fun bt482 => ((chattellaw10_wakes.f kj21).bind fun t487 => (if t487 = true then (if bt478.2 = 0 then (if bt480.2 = 0 then (if bt482.2.2.2 = 0 then ((chattelref09_Number.f kj21 t473 t474 t475).bind fun t488 => ((chattelref09_Number.f kj21 t470 t471 t472).bind fun t489 => (if bt478.1 = (wrap64 (t488 - t489)) then (if bt480.1 = (wrap64 (-bt478.1)) then (some (bt482.1 == t473 && (bt482.2.1 == t474 && (bt482.2.2.1 == t475)))) else (some false)) else (some false)))) else (some false)) else (some false)) else (some false)) else (some false)))))) = some r := H
          have A27 := Aside0.mk A270
          clear A270
          replace H := Option.bind_eq_some_iff.mp H
          obtain ⟨⟨t478, t479⟩, A280, H⟩ := H
          replace H : ((month_Between.f kj21 t473 t474 t475 t470 t471 t472).bind fun bt480 => ((month_AddDays.f kj21 t470 t471 t472 t478).bind fun bt482 => ((chattellaw10_wakes.f kj21).bind fun t487 => (if t487 = true then (if t479 = 0 then (if bt480.2 = 0 then (if bt482.2.2.2 = 0 then ((chattelref09_Number.f kj21 t473 t474 t475).bind fun t488 => ((chattelref09_Number.f kj21 t470 t471 t472).bind fun t489 => (if t478 = (wrap64 (t488 - t489)) then (if bt480.1 = (wrap64 (-t478)) then (some (bt482.1 == t473 && (bt482.2.1 == t474 && (bt482.2.2.1 == t475)))) else (some false)) else (some false)))) else (some false)) else (some false)) else (some false)) else (some false))))) = some r := H
          have A28 := Aside0.mk A280
          clear A280
          replace H := Option.bind_eq_some_iff.mp H
          obtain ⟨⟨t480, t481⟩, A290, H⟩ := H
          replace H : ((month_AddDays.f kj21 t470 t471 t472 t478).bind fun bt482 => ((chattellaw10_wakes.f kj21).bind fun t487 => (if t487 = true then (if t479 = 0 then (if t481 = 0 then (if bt482.2.2.2 = 0 then ((chattelref09_Number.f kj21 t473 t474 t475).bind fun t488 => ((chattelref09_Number.f kj21 t470 t471 t472).bind fun t489 => (if t478 = (wrap64 (t488 - t489)) then (if t480 = (wrap64 (-t478)) then (some (bt482.1 == t473 && (bt482.2.1 == t474 && (bt482.2.2.1 == t475)))) else (some false)) else (some false)))) else (some false)) else (some false)) else (some false)) else (some false)))) = some r := H
          have A29 := Aside0.mk A290
          clear A290
          replace H := Option.bind_eq_some_iff.mp H
          obtain ⟨⟨t482, t483, t484, t485⟩, A300, H⟩ := H
          replace H : ((chattellaw10_wakes.f kj21).bind fun t487 => (if t487 = true then (if t479 = 0 then (if t481 = 0 then (if t485 = 0 then ((chattelref09_Number.f kj21 t473 t474 t475).bind fun t488 => ((chattelref09_Number.f kj21 t470 t471 t472).bind fun t489 => (if t478 = (wrap64 (t488 - t489)) then (if t480 = (wrap64 (-t478)) then (some (t482 == t473 && (t483 == t474 && (t484 == t475)))) else (some false)) else (some false)))) else (some false)) else (some false)) else (some false)) else (some false))) = some r := H
          have A30 := Aside0.mk A300
          clear A300
          replace H := Option.bind_eq_some_iff.mp H
          obtain ⟨t487, A310, H⟩ := H
          replace H : (if t487 = true then (if t479 = 0 then (if t481 = 0 then (if t485 = 0 then ((chattelref09_Number.f kj21 t473 t474 t475).bind fun t488 => ((chattelref09_Number.f kj21 t470 t471 t472).bind fun t489 => (if t478 = (wrap64 (t488 - t489)) then (if t480 = (wrap64 (-t478)) then (some (t482 == t473 && (t483 == t474 && (t484 == t475)))) else (some false)) else (some false)))) else (some false)) else (some false)) else (some false)) else (some false)) = some r := H
          have A31 := Aside0.mk A310
          clear A310
          by_cases c32 : t487 = true
          · subst c32
            have H1 : (if t479 = 0 then (if t481 = 0 then (if t485 = 0 then ((chattelref09_Number.f kj21 t473 t474 t475).bind fun t488 => ((chattelref09_Number.f kj21 t470 t471 t472).bind fun t489 => (if t478 = (wrap64 (t488 - t489)) then (if t480 = (wrap64 (-t478)) then (some (t482 == t473 && (t483 == t474 && (t484 == t475)))) else (some false)) else (some false)))) else (some false)) else (some false)) else (some false)) = some r := by rw [if_pos rfl] at H; exact H
            clear H
            have H := H1
            clear H1
            by_cases c33 : t479 = 0
            rotate_left
            · rw [if_neg c33] at H
              have c33b0 : (t479 == 0) = false := beq_eq_false_iff_ne.mpr c33
              have c33b1 : (t479 != 0) = true := bne_iff_ne.mpr c33
              exact absurd (Option.some.inj H) (by rw [ht_]; decide)
            rw [if_pos c33] at H
            have c33b0 : (t479 == 0) = true := beq_iff_eq.mpr c33
            have c33b1 : (t479 != 0) = false := bne_eq_false_iff_eq.mpr c33
            clear c33
            by_cases c34 : t481 = 0
            rotate_left
            · rw [if_neg c34] at H
              have c34b0 : (t481 == 0) = false := beq_eq_false_iff_ne.mpr c34
              have c34b1 : (t481 != 0) = true := bne_iff_ne.mpr c34
              exact absurd (Option.some.inj H) (by rw [ht_]; decide)
            rw [if_pos c34] at H
            have c34b0 : (t481 == 0) = true := beq_iff_eq.mpr c34
            have c34b1 : (t481 != 0) = false := bne_eq_false_iff_eq.mpr c34
            clear c34
            by_cases c35 : t485 = 0
            rotate_left
            · rw [if_neg c35] at H
              have c35b0 : (t485 == 0) = false := beq_eq_false_iff_ne.mpr c35
              have c35b1 : (t485 != 0) = true := bne_iff_ne.mpr c35
              exact absurd (Option.some.inj H) (by rw [ht_]; decide)
            rw [if_pos c35] at H
            have c35b0 : (t485 == 0) = true := beq_iff_eq.mpr c35
            have c35b1 : (t485 != 0) = false := bne_eq_false_iff_eq.mpr c35
            clear c35
            replace H := Option.bind_eq_some_iff.mp H
            obtain ⟨t488, A360, H⟩ := H
            replace H : ((chattelref09_Number.f kj21 t470 t471 t472).bind fun t489 => (if t478 = (wrap64 (t488 - t489)) then (if t480 = (wrap64 (-t478)) then (some (t482 == t473 && (t483 == t474 && (t484 == t475)))) else (some false)) else (some false))) = some r := H
            have A36 := Aside0.mk A360
            clear A360
            replace H := Option.bind_eq_some_iff.mp H
            obtain ⟨t489, A370, H⟩ := H
            replace H : (if t478 = (wrap64 (t488 - t489)) then (if t480 = (wrap64 (-t478)) then (some (t482 == t473 && (t483 == t474 && (t484 == t475)))) else (some false)) else (some false)) = some r := H
            have A37 := Aside0.mk A370
            clear A370
            by_cases c38 : t478 = (wrap64 (t488 - t489))
            rotate_left
            · rw [if_neg c38] at H
              have c38b0 : (t478 == (wrap64 (t488 - t489))) = false := beq_eq_false_iff_ne.mpr c38
              have c38b1 : (t478 != (wrap64 (t488 - t489))) = true := bne_iff_ne.mpr c38
              exact absurd (Option.some.inj H) (by rw [ht_]; decide)
            rw [if_pos c38] at H
            have c38b0 : (t478 == (wrap64 (t488 - t489))) = true := beq_iff_eq.mpr c38
            have c38b1 : (t478 != (wrap64 (t488 - t489))) = false := bne_eq_false_iff_eq.mpr c38
            clear c38
            by_cases c39 : t480 = (wrap64 (-t478))
            rotate_left
            · rw [if_neg c39] at H
              have c39b0 : (t480 == (wrap64 (-t478))) = false := beq_eq_false_iff_ne.mpr c39
              have c39b1 : (t480 != (wrap64 (-t478))) = true := bne_iff_ne.mpr c39
              exact absurd (Option.some.inj H) (by rw [ht_]; decide)
            rw [if_pos c39] at H
            have c39b0 : (t480 == (wrap64 (-t478))) = true := beq_iff_eq.mpr c39
            have c39b1 : (t480 != (wrap64 (-t478))) = false := bne_eq_false_iff_eq.mpr c39
            clear c39
            obtain rfl := Option.some.inj H
            try go_wp2
            replace BK464 := Aside0.mk (blk_drew BK464.out)
            replace BK465 := Aside0.mk (blk_drew BK465.out)
            replace HB := Aside0.mk (below_drew1 HB.out)
            refine start_ (n := 20) (S := fun w' => w'.cell? ⟨gb464, 0, none⟩ = some (.int .i64 a0_0) ∧ w'.cell? ⟨gb464, 1, none⟩ = some (.int .i64 a0_1) ∧ w'.cell? ⟨gb464, 2, none⟩ = some (.int .i64 a0_2) ∧ w'.cell? ⟨gb465, 0, none⟩ = some (.int .i64 a1_0) ∧ w'.cell? ⟨gb465, 1, none⟩ = some (.int .i64 a1_1) ∧ w'.cell? ⟨gb465, 2, none⟩ = some (.int .i64 a1_2)) (ds := []) (fl 0 20 []) (by kernel_rfl) rfl rfl ⟨(blk_cell BK464.out 0).trans rfl, (blk_cell BK464.out 1).trans rfl, (blk_cell BK464.out 2).trans rfl, (blk_cell BK465.out 0).trans rfl, (blk_cell BK465.out 1).trans rfl, (blk_cell BK465.out 2).trans rfl⟩ (fun hHeld => ?_); refine with_tabW chattellaw10_MonthBetween.tab5 chattellaw10_MonthBetween.bits5 (fun HT_ HW_ => ?_)
            generalize wc.drew = w40 at BK464 BK465 HB hHeld ⊢
            refine pure_ (i := 0) (N := some 35) (v := ?_) (a' := ?_) (fl 1 20 []) rfl rfl (any_of HT_.out (by kernel_rfl)) (fun _ _ _ h => h) (Or.inl ⟨by rfl, ?_⟩) ?_ ?_
            rotate_left
            · intro w'
              go_simp
              with_reducible rfl
            rotate_left
            · simp only [Act.put, List.setIfInBounds_toArray, List.set_cons_zero, List.set_cons_succ, i64_w, i32_w]
              rfl
            refine pure_ (i := 2) (N := some 37) (v := ?_) (a' := ?_) (fl 1 20 [2]) rfl rfl (any_of HT_.out (by kernel_rfl)) (fun _ _ _ h => h) (Or.inl ⟨by rfl, ?_⟩) ?_ ?_
            rotate_left
            · intro w'
              go_simp
              with_reducible rfl
            rotate_left
            · simp only [Act.put, List.setIfInBounds_toArray, List.set_cons_zero, List.set_cons_succ, i64_w, i32_w]
              rfl
            refine pure_ (i := 4) (N := some 39) (v := ?_) (a' := ?_) (fl 1 20 [2, 4]) rfl rfl (any_of HT_.out (by kernel_rfl)) (fun _ _ _ h => h) (Or.inl ⟨by rfl, ?_⟩) ?_ ?_
            rotate_left
            · intro w'
              go_simp
              with_reducible rfl
            rotate_left
            · simp only [Act.put, List.setIfInBounds_toArray, List.set_cons_zero, List.set_cons_succ, i64_w, i32_w]
              rfl
            refine pure_ (i := 8) (N := some 43) (v := ?_) (a' := ?_) (fl 1 20 [2, 4, 8]) rfl rfl (any_of HT_.out (by kernel_rfl)) (fun _ _ _ h => h) (Or.inl ⟨by rfl, ?_⟩) ?_ ?_
            rotate_left
            · intro w'
              go_simp
              with_reducible rfl
            rotate_left
            · simp only [Act.put, List.setIfInBounds_toArray, List.set_cons_zero, List.set_cons_succ, i64_w, i32_w]
              rfl
            refine pure_ (i := 10) (N := some 45) (v := ?_) (a' := ?_) (fl 1 20 [2, 4, 8, 10]) rfl rfl (any_of HT_.out (by kernel_rfl)) (fun _ _ _ h => h) (Or.inl ⟨by rfl, ?_⟩) ?_ ?_
            rotate_left
            · intro w'
              go_simp
              with_reducible rfl
            rotate_left
            · simp only [Act.put, List.setIfInBounds_toArray, List.set_cons_zero, List.set_cons_succ, i64_w, i32_w]
              rfl
            refine pure_ (i := 12) (N := some 47) (v := ?_) (a' := ?_) (fl 1 20 [2, 4, 8, 10, 12]) rfl rfl (any_of HT_.out (by kernel_rfl)) (fun _ _ _ h => h) (Or.inl ⟨by rfl, ?_⟩) ?_ ?_
            rotate_left
            · intro w'
              go_simp
              with_reducible rfl
            rotate_left
            · simp only [Act.put, List.setIfInBounds_toArray, List.set_cons_zero, List.set_cons_succ, i64_w, i32_w]
              rfl
            refine take_ (i := 1) (N := some 36) (v := ?_) (a' := ?_) (fl 3 20 [4, 8, 10, 12]) rfl rfl (take_ofW HT_.out HW_.out (by kernel_rfl)) (fun _ _ _ h => h) (Or.inl ⟨by rfl, ?_⟩) hHeld ?_ ?_
            rotate_left
            · rintro w' ⟨s0, s1, s2, s3, s4, s5⟩
              go_simp
              with_reducible rfl
            rotate_left
            · simp only [Act.put, List.setIfInBounds_toArray, List.set_cons_zero, List.set_cons_succ, i64_w, i32_w]
              rfl
            refine take_ (i := 3) (N := some 38) (v := ?_) (a' := ?_) (fl 5 20 [8, 10, 12]) rfl rfl (take_ofW HT_.out HW_.out (by kernel_rfl)) (fun _ _ _ h => h) (Or.inl ⟨by rfl, ?_⟩) hHeld ?_ ?_
            rotate_left
            · rintro w' ⟨s0, s1, s2, s3, s4, s5⟩
              go_simp
              with_reducible rfl
            rotate_left
            · simp only [Act.put, List.setIfInBounds_toArray, List.set_cons_zero, List.set_cons_succ, i64_w, i32_w]
              rfl
            refine take_ (i := 5) (N := some 40) (v := ?_) (a' := ?_) (fl 6 20 [8, 10, 12]) rfl rfl (take_ofW HT_.out HW_.out (by kernel_rfl)) (fun _ _ _ h => h) (Or.inl ⟨by rfl, ?_⟩) hHeld ?_ ?_
            rotate_left
            · rintro w' ⟨s0, s1, s2, s3, s4, s5⟩
              go_simp
              with_reducible rfl
            rotate_left
            · simp only [Act.put, List.setIfInBounds_toArray, List.set_cons_zero, List.set_cons_succ, i64_w, i32_w]
              rfl
            refine pure_ (i := 6) (N := some 41) (v := ?_) (a' := ?_) (fl 7 20 [8, 10, 12]) rfl rfl (any_of HT_.out (by kernel_rfl)) (fun _ _ _ h => h) (Or.inl ⟨by rfl, ?_⟩) ?_ ?_
            rotate_left
            · intro w'
              go_simp
              with_reducible rfl
            rotate_left
            · simp only [Act.put, List.setIfInBounds_toArray, List.set_cons_zero, List.set_cons_succ, i64_w, i32_w]
              rfl
            refine take_ (i := 9) (N := some 44) (v := ?_) (a' := ?_) (fl 7 20 [8, 9, 10, 12]) rfl rfl (take_ofW HT_.out HW_.out (by kernel_rfl)) (fun _ _ _ h => h) (Or.inl ⟨by rfl, ?_⟩) hHeld ?_ ?_
            rotate_left
            · rintro w' ⟨s0, s1, s2, s3, s4, s5⟩
              go_simp
              with_reducible rfl
            rotate_left
            · simp only [Act.put, List.setIfInBounds_toArray, List.set_cons_zero, List.set_cons_succ, i64_w, i32_w]
              rfl
            refine take_ (i := 11) (N := some 46) (v := ?_) (a' := ?_) (fl 7 20 [8, 9, 10, 11, 12]) rfl rfl (take_ofW HT_.out HW_.out (by kernel_rfl)) (fun _ _ _ h => h) (Or.inl ⟨by rfl, ?_⟩) hHeld ?_ ?_
            rotate_left
            · rintro w' ⟨s0, s1, s2, s3, s4, s5⟩
              go_simp
              with_reducible rfl
            rotate_left
            · simp only [Act.put, List.setIfInBounds_toArray, List.set_cons_zero, List.set_cons_succ, i64_w, i32_w]
              rfl
            refine take_ (i := 13) (N := some 48) (v := ?_) (a' := ?_) (fl 7 20 [8, 9, 10, 11, 12, 13]) rfl rfl (take_ofW HT_.out HW_.out (by kernel_rfl)) (fun _ _ _ h => h) (Or.inl ⟨by rfl, ?_⟩) hHeld ?_ ?_
            rotate_left
            · rintro w' ⟨s0, s1, s2, s3, s4, s5⟩
              go_simp
              with_reducible rfl
            rotate_left
            · simp only [Act.put, List.setIfInBounds_toArray, List.set_cons_zero, List.set_cons_succ, i64_w, i32_w]
              rfl
            refine pure_ (i := 14) (N := some 49) (v := ?_) (a' := ?_) (fl 7 20 [8, 9, 10, 11, 12, 13, 14]) rfl rfl (any_of HT_.out (by kernel_rfl)) (fun _ _ _ h => h) (Or.inl ⟨by rfl, ?_⟩) ?_ ?_
            rotate_left
            · intro w'
              go_simp
              with_reducible rfl
            rotate_left
            · simp only [Act.put, List.setIfInBounds_toArray, List.set_cons_zero, List.set_cons_succ, i64_w, i32_w]
              rfl
            refine join_ (σ := Nat × Nat) 2 (fl 18 20 []) (fun s_ => [(42, .agg #[.int .i64 t470, .int .i64 t471, .int .i64 t472]), (50, .agg #[.int .i64 t473, .int .i64 t474, .int .i64 t475]), (7, .pointer (some ⟨s_.1, 0, none⟩)), (8, .pointer (some ⟨s_.2, 0, none⟩))]) (fun s_ w' => (w'.cell? ⟨gb464, 0, none⟩ = some (.int .i64 a0_0) ∧ w'.cell? ⟨gb464, 1, none⟩ = some (.int .i64 a0_1) ∧ w'.cell? ⟨gb464, 2, none⟩ = some (.int .i64 a0_2) ∧ w'.cell? ⟨gb465, 0, none⟩ = some (.int .i64 a1_0) ∧ w'.cell? ⟨gb465, 1, none⟩ = some (.int .i64 a1_1) ∧ w'.cell? ⟨gb465, 2, none⟩ = some (.int .i64 a1_2)) ∧ (w'.heap[gb464]? = some (.cells #[.int .i64 a0_0, .int .i64 a0_1, .int .i64 a0_2] 23 (0, 0))) ∧ (w'.heap[gb465]? = some (.cells #[.int .i64 a1_0, .int .i64 a1_1, .int .i64 a1_2] 23 (0, 0))) ∧ (w'.heap[s_.1]? = some (.cells #[.int .i64 0, .int .i64 0, .int .i64 0] 23 (0, 0))) ∧ (w'.heap[s_.2]? = some (.cells #[.int .i64 0, .int .i64 0, .int .i64 0] 23 (0, 0))) ∧ (w.heap.size ≤ s_.1) ∧ (w.heap.size ≤ s_.1) ∧ (gb464 ≠ s_.1) ∧ (s_.1 ≠ gb464) ∧ (gb465 ≠ s_.1) ∧ (s_.1 ≠ gb465) ∧ (s_.2 ≠ s_.1) ∧ (s_.1 ≠ s_.2) ∧ (w.heap.size ≤ s_.2) ∧ (w.heap.size ≤ s_.2) ∧ (gb464 ≠ s_.2) ∧ (s_.2 ≠ gb464) ∧ (gb465 ≠ s_.2) ∧ (s_.2 ≠ gb465) ∧ (Below w.heap.size w w')) ?_ ?_
            rotate_left
            · intro hJ7_15_16_17
              refine join_ (σ := Nat) 3 (fl 17 20 []) (fun s_ => [(42, .agg #[.int .i64 t470, .int .i64 t471, .int .i64 t472]), (50, .agg #[.int .i64 t473, .int .i64 t474, .int .i64 t475]), (7, .pointer (some ⟨s_, 0, none⟩))]) (fun s_ w' => (w'.cell? ⟨gb464, 0, none⟩ = some (.int .i64 a0_0) ∧ w'.cell? ⟨gb464, 1, none⟩ = some (.int .i64 a0_1) ∧ w'.cell? ⟨gb464, 2, none⟩ = some (.int .i64 a0_2) ∧ w'.cell? ⟨gb465, 0, none⟩ = some (.int .i64 a1_0) ∧ w'.cell? ⟨gb465, 1, none⟩ = some (.int .i64 a1_1) ∧ w'.cell? ⟨gb465, 2, none⟩ = some (.int .i64 a1_2)) ∧ (w'.heap[gb464]? = some (.cells #[.int .i64 a0_0, .int .i64 a0_1, .int .i64 a0_2] 23 (0, 0))) ∧ (w'.heap[gb465]? = some (.cells #[.int .i64 a1_0, .int .i64 a1_1, .int .i64 a1_2] 23 (0, 0))) ∧ (w'.heap[s_]? = some (.cells #[.int .i64 0, .int .i64 0, .int .i64 0] 23 (0, 0))) ∧ (w.heap.size ≤ s_) ∧ (w.heap.size ≤ s_) ∧ (gb464 ≠ s_) ∧ (s_ ≠ gb464) ∧ (gb465 ≠ s_) ∧ (s_ ≠ gb465) ∧ (Below w.heap.size w w')) ?_ ?_
              rotate_left
              · intro hJ7_15_16
                refine join_ (σ := Nat) 3 (fl 16 20 [17]) (fun s_ => [(42, .agg #[.int .i64 t470, .int .i64 t471, .int .i64 t472]), (50, .agg #[.int .i64 t473, .int .i64 t474, .int .i64 t475]), (8, .pointer (some ⟨s_, 0, none⟩))]) (fun s_ w' => (w'.cell? ⟨gb464, 0, none⟩ = some (.int .i64 a0_0) ∧ w'.cell? ⟨gb464, 1, none⟩ = some (.int .i64 a0_1) ∧ w'.cell? ⟨gb464, 2, none⟩ = some (.int .i64 a0_2) ∧ w'.cell? ⟨gb465, 0, none⟩ = some (.int .i64 a1_0) ∧ w'.cell? ⟨gb465, 1, none⟩ = some (.int .i64 a1_1) ∧ w'.cell? ⟨gb465, 2, none⟩ = some (.int .i64 a1_2)) ∧ (w'.heap[gb464]? = some (.cells #[.int .i64 a0_0, .int .i64 a0_1, .int .i64 a0_2] 23 (0, 0))) ∧ (w'.heap[gb465]? = some (.cells #[.int .i64 a1_0, .int .i64 a1_1, .int .i64 a1_2] 23 (0, 0))) ∧ (w'.heap[s_]? = some (.cells #[.int .i64 0, .int .i64 0, .int .i64 0] 23 (0, 0))) ∧ (w.heap.size ≤ s_) ∧ (w.heap.size ≤ s_) ∧ (gb464 ≠ s_) ∧ (s_ ≠ gb464) ∧ (gb465 ≠ s_) ∧ (s_ ≠ gb465) ∧ (Below w.heap.size w w')) ?_ ?_
                rotate_left
                · intro hJ7_15_17
                  refine join_ (σ := Nat × Nat) 3 (fl 15 20 [16, 17]) (fun s_ => [(42, .agg #[.int .i64 t470, .int .i64 t471, .int .i64 t472]), (7, .pointer (some ⟨s_.1, 0, none⟩)), (8, .pointer (some ⟨s_.2, 0, none⟩))]) (fun s_ w' => (w'.cell? ⟨gb464, 0, none⟩ = some (.int .i64 a0_0) ∧ w'.cell? ⟨gb464, 1, none⟩ = some (.int .i64 a0_1) ∧ w'.cell? ⟨gb464, 2, none⟩ = some (.int .i64 a0_2) ∧ w'.cell? ⟨gb465, 0, none⟩ = some (.int .i64 a1_0) ∧ w'.cell? ⟨gb465, 1, none⟩ = some (.int .i64 a1_1) ∧ w'.cell? ⟨gb465, 2, none⟩ = some (.int .i64 a1_2)) ∧ (w'.heap[gb464]? = some (.cells #[.int .i64 a0_0, .int .i64 a0_1, .int .i64 a0_2] 23 (0, 0))) ∧ (w'.heap[gb465]? = some (.cells #[.int .i64 a1_0, .int .i64 a1_1, .int .i64 a1_2] 23 (0, 0))) ∧ (w'.heap[s_.1]? = some (.cells #[.int .i64 0, .int .i64 0, .int .i64 0] 23 (0, 0))) ∧ (w'.heap[s_.2]? = some (.cells #[.int .i64 0, .int .i64 0, .int .i64 0] 23 (0, 0))) ∧ (w.heap.size ≤ s_.1) ∧ (w.heap.size ≤ s_.1) ∧ (gb464 ≠ s_.1) ∧ (s_.1 ≠ gb464) ∧ (gb465 ≠ s_.1) ∧ (s_.1 ≠ gb465) ∧ (s_.2 ≠ s_.1) ∧ (s_.1 ≠ s_.2) ∧ (w.heap.size ≤ s_.2) ∧ (w.heap.size ≤ s_.2) ∧ (gb464 ≠ s_.2) ∧ (s_.2 ≠ gb464) ∧ (gb465 ≠ s_.2) ∧ (s_.2 ≠ gb465) ∧ (Below w.heap.size w w')) ?_ ?_
                  rotate_left
                  · intro hJ7_16_17
                    refine join_ (σ := Unit) 4 (fl 16 20 []) (fun s_ => [(42, .agg #[.int .i64 t470, .int .i64 t471, .int .i64 t472]), (50, .agg #[.int .i64 t473, .int .i64 t474, .int .i64 t475])]) (fun s_ w' => (w'.cell? ⟨gb464, 0, none⟩ = some (.int .i64 a0_0) ∧ w'.cell? ⟨gb464, 1, none⟩ = some (.int .i64 a0_1) ∧ w'.cell? ⟨gb464, 2, none⟩ = some (.int .i64 a0_2) ∧ w'.cell? ⟨gb465, 0, none⟩ = some (.int .i64 a1_0) ∧ w'.cell? ⟨gb465, 1, none⟩ = some (.int .i64 a1_1) ∧ w'.cell? ⟨gb465, 2, none⟩ = some (.int .i64 a1_2)) ∧ (w'.heap[gb464]? = some (.cells #[.int .i64 a0_0, .int .i64 a0_1, .int .i64 a0_2] 23 (0, 0))) ∧ (w'.heap[gb465]? = some (.cells #[.int .i64 a1_0, .int .i64 a1_1, .int .i64 a1_2] 23 (0, 0))) ∧ (Below w.heap.size w w')) ?_ ?_
                    rotate_left
                    · intro hJ7_15
                      refine join_ (σ := Nat) 4 (fl 15 20 [16]) (fun s_ => [(42, .agg #[.int .i64 t470, .int .i64 t471, .int .i64 t472]), (7, .pointer (some ⟨s_, 0, none⟩))]) (fun s_ w' => (w'.cell? ⟨gb464, 0, none⟩ = some (.int .i64 a0_0) ∧ w'.cell? ⟨gb464, 1, none⟩ = some (.int .i64 a0_1) ∧ w'.cell? ⟨gb464, 2, none⟩ = some (.int .i64 a0_2) ∧ w'.cell? ⟨gb465, 0, none⟩ = some (.int .i64 a1_0) ∧ w'.cell? ⟨gb465, 1, none⟩ = some (.int .i64 a1_1) ∧ w'.cell? ⟨gb465, 2, none⟩ = some (.int .i64 a1_2)) ∧ (w'.heap[gb464]? = some (.cells #[.int .i64 a0_0, .int .i64 a0_1, .int .i64 a0_2] 23 (0, 0))) ∧ (w'.heap[gb465]? = some (.cells #[.int .i64 a1_0, .int .i64 a1_1, .int .i64 a1_2] 23 (0, 0))) ∧ (w'.heap[s_]? = some (.cells #[.int .i64 0, .int .i64 0, .int .i64 0] 23 (0, 0))) ∧ (w.heap.size ≤ s_) ∧ (w.heap.size ≤ s_) ∧ (gb464 ≠ s_) ∧ (s_ ≠ gb464) ∧ (gb465 ≠ s_) ∧ (s_ ≠ gb465) ∧ (Below w.heap.size w w')) ?_ ?_
                      rotate_left
                      · intro hJ7_16
                        refine join_ (σ := Nat) 4 (fl 15 20 [17]) (fun s_ => [(42, .agg #[.int .i64 t470, .int .i64 t471, .int .i64 t472]), (8, .pointer (some ⟨s_, 0, none⟩))]) (fun s_ w' => (w'.cell? ⟨gb464, 0, none⟩ = some (.int .i64 a0_0) ∧ w'.cell? ⟨gb464, 1, none⟩ = some (.int .i64 a0_1) ∧ w'.cell? ⟨gb464, 2, none⟩ = some (.int .i64 a0_2) ∧ w'.cell? ⟨gb465, 0, none⟩ = some (.int .i64 a1_0) ∧ w'.cell? ⟨gb465, 1, none⟩ = some (.int .i64 a1_1) ∧ w'.cell? ⟨gb465, 2, none⟩ = some (.int .i64 a1_2)) ∧ (w'.heap[gb464]? = some (.cells #[.int .i64 a0_0, .int .i64 a0_1, .int .i64 a0_2] 23 (0, 0))) ∧ (w'.heap[gb465]? = some (.cells #[.int .i64 a1_0, .int .i64 a1_1, .int .i64 a1_2] 23 (0, 0))) ∧ (w'.heap[s_]? = some (.cells #[.int .i64 0, .int .i64 0, .int .i64 0] 23 (0, 0))) ∧ (w.heap.size ≤ s_) ∧ (w.heap.size ≤ s_) ∧ (gb464 ≠ s_) ∧ (s_ ≠ gb464) ∧ (gb465 ≠ s_) ∧ (s_ ≠ gb465) ∧ (Below w.heap.size w w')) ?_ ?_
                        rotate_left
                        · intro hJ7_17
                          refine join_ (σ := Nat × Nat) 4 (fl 7 20 [8, 9, 10, 11, 12, 13, 14, 16, 17]) (fun s_ => [(7, .pointer (some ⟨s_.1, 0, none⟩)), (8, .pointer (some ⟨s_.2, 0, none⟩))]) (fun s_ w' => (w'.cell? ⟨gb464, 0, none⟩ = some (.int .i64 a0_0) ∧ w'.cell? ⟨gb464, 1, none⟩ = some (.int .i64 a0_1) ∧ w'.cell? ⟨gb464, 2, none⟩ = some (.int .i64 a0_2) ∧ w'.cell? ⟨gb465, 0, none⟩ = some (.int .i64 a1_0) ∧ w'.cell? ⟨gb465, 1, none⟩ = some (.int .i64 a1_1) ∧ w'.cell? ⟨gb465, 2, none⟩ = some (.int .i64 a1_2)) ∧ (w'.heap[gb464]? = some (.cells #[.int .i64 a0_0, .int .i64 a0_1, .int .i64 a0_2] 23 (0, 0))) ∧ (w'.heap[gb465]? = some (.cells #[.int .i64 a1_0, .int .i64 a1_1, .int .i64 a1_2] 23 (0, 0))) ∧ (w'.heap[s_.1]? = some (.cells #[.int .i64 0, .int .i64 0, .int .i64 0] 23 (0, 0))) ∧ (w'.heap[s_.2]? = some (.cells #[.int .i64 0, .int .i64 0, .int .i64 0] 23 (0, 0))) ∧ (w.heap.size ≤ s_.1) ∧ (w.heap.size ≤ s_.1) ∧ (gb464 ≠ s_.1) ∧ (s_.1 ≠ gb464) ∧ (gb465 ≠ s_.1) ∧ (s_.1 ≠ gb465) ∧ (s_.2 ≠ s_.1) ∧ (s_.1 ≠ s_.2) ∧ (w.heap.size ≤ s_.2) ∧ (w.heap.size ≤ s_.2) ∧ (gb464 ≠ s_.2) ∧ (s_.2 ≠ gb464) ∧ (gb465 ≠ s_.2) ∧ (s_.2 ≠ gb465) ∧ (Below w.heap.size w w')) ?_ ?_
                          rotate_left
                          · intro hJ16_17
                            refine join_ (σ := Unit) 5 (fl 15 20 []) (fun s_ => [(42, .agg #[.int .i64 t470, .int .i64 t471, .int .i64 t472])]) (fun s_ w' => (w'.cell? ⟨gb464, 0, none⟩ = some (.int .i64 a0_0) ∧ w'.cell? ⟨gb464, 1, none⟩ = some (.int .i64 a0_1) ∧ w'.cell? ⟨gb464, 2, none⟩ = some (.int .i64 a0_2) ∧ w'.cell? ⟨gb465, 0, none⟩ = some (.int .i64 a1_0) ∧ w'.cell? ⟨gb465, 1, none⟩ = some (.int .i64 a1_1) ∧ w'.cell? ⟨gb465, 2, none⟩ = some (.int .i64 a1_2)) ∧ (w'.heap[gb464]? = some (.cells #[.int .i64 a0_0, .int .i64 a0_1, .int .i64 a0_2] 23 (0, 0))) ∧ (w'.heap[gb465]? = some (.cells #[.int .i64 a1_0, .int .i64 a1_1, .int .i64 a1_2] 23 (0, 0))) ∧ (Below w.heap.size w w')) ?_ ?_
                            rotate_left
                            · intro hJ7
                              refine join_ (σ := Nat) 5 (fl 7 20 [8, 9, 10, 11, 12, 13, 14, 16]) (fun s_ => [(7, .pointer (some ⟨s_, 0, none⟩))]) (fun s_ w' => (w'.cell? ⟨gb464, 0, none⟩ = some (.int .i64 a0_0) ∧ w'.cell? ⟨gb464, 1, none⟩ = some (.int .i64 a0_1) ∧ w'.cell? ⟨gb464, 2, none⟩ = some (.int .i64 a0_2) ∧ w'.cell? ⟨gb465, 0, none⟩ = some (.int .i64 a1_0) ∧ w'.cell? ⟨gb465, 1, none⟩ = some (.int .i64 a1_1) ∧ w'.cell? ⟨gb465, 2, none⟩ = some (.int .i64 a1_2)) ∧ (w'.heap[gb464]? = some (.cells #[.int .i64 a0_0, .int .i64 a0_1, .int .i64 a0_2] 23 (0, 0))) ∧ (w'.heap[gb465]? = some (.cells #[.int .i64 a1_0, .int .i64 a1_1, .int .i64 a1_2] 23 (0, 0))) ∧ (w'.heap[s_]? = some (.cells #[.int .i64 0, .int .i64 0, .int .i64 0] 23 (0, 0))) ∧ (w.heap.size ≤ s_) ∧ (w.heap.size ≤ s_) ∧ (gb464 ≠ s_) ∧ (s_ ≠ gb464) ∧ (gb465 ≠ s_) ∧ (s_ ≠ gb465) ∧ (Below w.heap.size w w')) ?_ ?_
                              rotate_left
                              · intro hJ16
                                refine join_ (σ := Nat) 5 (fl 7 20 [8, 9, 10, 11, 12, 13, 14, 17]) (fun s_ => [(8, .pointer (some ⟨s_, 0, none⟩))]) (fun s_ w' => (w'.cell? ⟨gb464, 0, none⟩ = some (.int .i64 a0_0) ∧ w'.cell? ⟨gb464, 1, none⟩ = some (.int .i64 a0_1) ∧ w'.cell? ⟨gb464, 2, none⟩ = some (.int .i64 a0_2) ∧ w'.cell? ⟨gb465, 0, none⟩ = some (.int .i64 a1_0) ∧ w'.cell? ⟨gb465, 1, none⟩ = some (.int .i64 a1_1) ∧ w'.cell? ⟨gb465, 2, none⟩ = some (.int .i64 a1_2)) ∧ (w'.heap[gb464]? = some (.cells #[.int .i64 a0_0, .int .i64 a0_1, .int .i64 a0_2] 23 (0, 0))) ∧ (w'.heap[gb465]? = some (.cells #[.int .i64 a1_0, .int .i64 a1_1, .int .i64 a1_2] 23 (0, 0))) ∧ (w'.heap[s_]? = some (.cells #[.int .i64 0, .int .i64 0, .int .i64 0] 23 (0, 0))) ∧ (w.heap.size ≤ s_) ∧ (w.heap.size ≤ s_) ∧ (gb464 ≠ s_) ∧ (s_ ≠ gb464) ∧ (gb465 ≠ s_) ∧ (s_ ≠ gb465) ∧ (Below w.heap.size w w')) ?_ ?_
                                rotate_left
                                · intro hJ17
                                  refine three_ (i := 7) (j := 16) (k := 17) (Ni := some 42) (Nj := some 7) (Nk := some 8) (fl 15 20 []) (fl 7 20 [8, 9, 10, 11, 12, 13, 14, 16]) (fl 7 20 [8, 9, 10, 11, 12, 13, 14, 17]) rfl rfl rfl rfl rfl rfl (three_of HT_.out (by kernel_rfl)) (by decide) (by decide) (by decide) (fun K hK => ?_) (fun K hK => ?_) (fun K hK => ?_)
                                  · skip
                                    refine goes_ Try.func12 (by kernel_rfl) rfl #[.agg #[.int .i64 a0_0, .int .i64 a0_1, .int .i64 a0_2], .int .i64 9999] (by rfl) rfl rfl (by (try simp only [List.map_toArray, List.map_cons, List.map_nil]); first | done | rfl | (simp only [List.length_drop, List.length_take]; rfl)) ?_
                                    with_reducible refine (chattelref09_Make.calls kj21 a0_0 a0_1 a0_2 9999 t470 t471 t472 _ A26.out).mono ?_
                                    rintro e w41 ⟨rfl, hb⟩
                                    refine ⟨_, rfl, ?_⟩
                                    replace BK464 := Aside0.mk (bb BK464.out hb)
                                    replace BK465 := Aside0.mk (bb BK465.out hb)
                                    replace HB := Aside0.mk (bs HB.out hb)
                                    (try clear hb)
                                    (try clear hb2)
                                    (try clear hk)
                                    (try clear hi)
                                    refine hK.out _ _ ⟨(blk_cell BK464.out 0).trans rfl, (blk_cell BK464.out 1).trans rfl, (blk_cell BK464.out 2).trans rfl, (blk_cell BK465.out 0).trans rfl, (blk_cell BK465.out 1).trans rfl, (blk_cell BK465.out 2).trans rfl⟩ (fun hHeld => ?_)
                                    clear hK K
                                    refine norm_ (a' := ?_) ?_ ?_
                                    rotate_left
                                    · show Act.put _ (some 42) _ = _
                                      simp only [Act.put, List.setIfInBounds_toArray, List.set_cons_zero, List.set_cons_succ, i64_w, i32_w]
                                      rfl
                                    exact norm_ (by first | (simp only [putAll, Act.put, List.setIfInBounds_toArray, List.set_cons_zero, List.set_cons_succ]; done) | (simp only [putAll, Act.put, List.setIfInBounds_toArray, List.set_cons_zero, List.set_cons_succ]; rfl)) (hJ7 () _ ⟨hHeld, (by (with_reducible repeat (first | refine blk_drewN ?_ _ | refine blk_drew ?_ | refine blk_alloc ?_ _)); exact BK464.out), (by (with_reducible repeat (first | refine blk_drewN ?_ _ | refine blk_drew ?_ | refine blk_alloc ?_ _)); exact BK465.out), (by repeat (first | (with_reducible first | exact HB.out | apply below_alloc | apply pw_below_drewN | apply below_drew1 | refine below_set ?_ GE464.out | refine below_set ?_ GE465.out) | exact HB.out))⟩)
                                  · skip
                                    refine box_step ?hg (N := 7) ?hd (cs := #[.int .i64 0, .int .i64 0, .int .i64 0]) (t := 23) ?hr ?_; (case hd => rfl); (case hg => rfl); (case hr => first | (go_simp; done) | (go_simp; rfl))
                                    intro gb476 hg w41 hbox hb
                                    have n0_ := Aside0.mk (bb BK464.out hb)
                                    have n1_ := Aside0.mk (bb BK465.out hb)
                                    have n2_ := Aside0.mk (bs HB.out hb)
                                    have n3_ := Aside0.mk (hbox)
                                    have n4_ := Aside0.mk ((by rw [hg]; exact (bz HB.out) : w.heap.size ≤ gb476))
                                    have n5_ := Aside0.mk ((by rw [hg]; exact (bz HB.out) : w.heap.size ≤ gb476))
                                    have n6_ := Aside0.mk ((by rw [hg]; exact Nat.ne_of_lt (blk_lt (g := gb464) (o := .cells #[.int .i64 a0_0, .int .i64 a0_1, .int .i64 a0_2] 23 (0, 0)) (by (with_reducible repeat (first | refine blk_drewN ?_ _ | refine blk_drew ?_ | refine blk_alloc ?_ _)); exact BK464.out)) : gb464 ≠ gb476))
                                    have n7_ := Aside0.mk ((by rw [hg]; exact Nat.ne_of_gt (blk_lt (g := gb464) (o := .cells #[.int .i64 a0_0, .int .i64 a0_1, .int .i64 a0_2] 23 (0, 0)) (by (with_reducible repeat (first | refine blk_drewN ?_ _ | refine blk_drew ?_ | refine blk_alloc ?_ _)); exact BK464.out)) : gb476 ≠ gb464))
                                    have n8_ := Aside0.mk ((by rw [hg]; exact Nat.ne_of_lt (blk_lt (g := gb465) (o := .cells #[.int .i64 a1_0, .int .i64 a1_1, .int .i64 a1_2] 23 (0, 0)) (by (with_reducible repeat (first | refine blk_drewN ?_ _ | refine blk_drew ?_ | refine blk_alloc ?_ _)); exact BK465.out)) : gb465 ≠ gb476))
                                    have n9_ := Aside0.mk ((by rw [hg]; exact Nat.ne_of_gt (blk_lt (g := gb465) (o := .cells #[.int .i64 a1_0, .int .i64 a1_1, .int .i64 a1_2] 23 (0, 0)) (by (with_reducible repeat (first | refine blk_drewN ?_ _ | refine blk_drew ?_ | refine blk_alloc ?_ _)); exact BK465.out)) : gb476 ≠ gb465))
                                    clear BK464
                                    clear BK465
                                    clear HB
                                    have BK464 := n0_
                                    have BK465 := n1_
                                    have HB := n2_
                                    have BK476 := n3_
                                    have GW476 := n4_
                                    have GE476 := n5_
                                    have NB464_476 := n6_
                                    have NB476_464 := n7_
                                    have NB465_476 := n8_
                                    have NB476_465 := n9_
                                    clear n0_ n1_ n2_ n3_ n4_ n5_ n6_ n7_ n8_ n9_
                                    clear hb hbox hg
                                    refine hK.out _ _ ⟨(blk_cell BK464.out 0).trans rfl, (blk_cell BK464.out 1).trans rfl, (blk_cell BK464.out 2).trans rfl, (blk_cell BK465.out 0).trans rfl, (blk_cell BK465.out 1).trans rfl, (blk_cell BK465.out 2).trans rfl⟩ (fun hHeld => ?_)
                                    clear hK K
                                    refine norm_ (a' := ?_) ?_ ?_
                                    rotate_left
                                    · show Act.put _ (some 7) _ = _
                                      simp only [Act.put, List.setIfInBounds_toArray, List.set_cons_zero, List.set_cons_succ, i64_w, i32_w]
                                      rfl
                                    exact norm_ (by first | (simp only [putAll, Act.put, List.setIfInBounds_toArray, List.set_cons_zero, List.set_cons_succ]; done) | (simp only [putAll, Act.put, List.setIfInBounds_toArray, List.set_cons_zero, List.set_cons_succ]; rfl)) (hJ16 (gb476) _ ⟨hHeld, (by (with_reducible repeat (first | refine blk_drewN ?_ _ | refine blk_drew ?_ | refine blk_alloc ?_ _)); exact BK464.out), (by (with_reducible repeat (first | refine blk_drewN ?_ _ | refine blk_drew ?_ | refine blk_alloc ?_ _)); exact BK465.out), (by (with_reducible repeat (first | refine blk_drewN ?_ _ | refine blk_drew ?_ | refine blk_alloc ?_ _)); exact BK476.out), GW476.out, GE476.out, NB464_476.out, NB476_464.out, NB465_476.out, NB476_465.out, (by repeat (first | (with_reducible first | exact HB.out | apply below_alloc | apply pw_below_drewN | apply below_drew1 | refine below_set ?_ GE464.out | refine below_set ?_ GE465.out | refine below_set ?_ GE476.out) | exact HB.out))⟩)
                                  · skip
                                    refine box_step ?hg (N := 8) ?hd (cs := #[.int .i64 0, .int .i64 0, .int .i64 0]) (t := 23) ?hr ?_; (case hd => rfl); (case hg => rfl); (case hr => first | (go_simp; done) | (go_simp; rfl))
                                    intro gb477 hg w41 hbox hb
                                    have n0_ := Aside0.mk (bb BK464.out hb)
                                    have n1_ := Aside0.mk (bb BK465.out hb)
                                    have n2_ := Aside0.mk (bs HB.out hb)
                                    have n3_ := Aside0.mk (hbox)
                                    have n4_ := Aside0.mk ((by rw [hg]; exact (bz HB.out) : w.heap.size ≤ gb477))
                                    have n5_ := Aside0.mk ((by rw [hg]; exact (bz HB.out) : w.heap.size ≤ gb477))
                                    have n6_ := Aside0.mk ((by rw [hg]; exact Nat.ne_of_lt (blk_lt (g := gb464) (o := .cells #[.int .i64 a0_0, .int .i64 a0_1, .int .i64 a0_2] 23 (0, 0)) (by (with_reducible repeat (first | refine blk_drewN ?_ _ | refine blk_drew ?_ | refine blk_alloc ?_ _)); exact BK464.out)) : gb464 ≠ gb477))
                                    have n7_ := Aside0.mk ((by rw [hg]; exact Nat.ne_of_gt (blk_lt (g := gb464) (o := .cells #[.int .i64 a0_0, .int .i64 a0_1, .int .i64 a0_2] 23 (0, 0)) (by (with_reducible repeat (first | refine blk_drewN ?_ _ | refine blk_drew ?_ | refine blk_alloc ?_ _)); exact BK464.out)) : gb477 ≠ gb464))
                                    have n8_ := Aside0.mk ((by rw [hg]; exact Nat.ne_of_lt (blk_lt (g := gb465) (o := .cells #[.int .i64 a1_0, .int .i64 a1_1, .int .i64 a1_2] 23 (0, 0)) (by (with_reducible repeat (first | refine blk_drewN ?_ _ | refine blk_drew ?_ | refine blk_alloc ?_ _)); exact BK465.out)) : gb465 ≠ gb477))
                                    have n9_ := Aside0.mk ((by rw [hg]; exact Nat.ne_of_gt (blk_lt (g := gb465) (o := .cells #[.int .i64 a1_0, .int .i64 a1_1, .int .i64 a1_2] 23 (0, 0)) (by (with_reducible repeat (first | refine blk_drewN ?_ _ | refine blk_drew ?_ | refine blk_alloc ?_ _)); exact BK465.out)) : gb477 ≠ gb465))
                                    clear BK464
                                    clear BK465
                                    clear HB
                                    have BK464 := n0_
                                    have BK465 := n1_
                                    have HB := n2_
                                    have BK477 := n3_
                                    have GW477 := n4_
                                    have GE477 := n5_
                                    have NB464_477 := n6_
                                    have NB477_464 := n7_
                                    have NB465_477 := n8_
                                    have NB477_465 := n9_
                                    clear n0_ n1_ n2_ n3_ n4_ n5_ n6_ n7_ n8_ n9_
                                    clear hb hbox hg
                                    refine hK.out _ _ ⟨(blk_cell BK464.out 0).trans rfl, (blk_cell BK464.out 1).trans rfl, (blk_cell BK464.out 2).trans rfl, (blk_cell BK465.out 0).trans rfl, (blk_cell BK465.out 1).trans rfl, (blk_cell BK465.out 2).trans rfl⟩ (fun hHeld => ?_)
                                    clear hK K
                                    refine norm_ (a' := ?_) ?_ ?_
                                    rotate_left
                                    · show Act.put _ (some 8) _ = _
                                      simp only [Act.put, List.setIfInBounds_toArray, List.set_cons_zero, List.set_cons_succ, i64_w, i32_w]
                                      rfl
                                    exact norm_ (by first | (simp only [putAll, Act.put, List.setIfInBounds_toArray, List.set_cons_zero, List.set_cons_succ]; done) | (simp only [putAll, Act.put, List.setIfInBounds_toArray, List.set_cons_zero, List.set_cons_succ]; rfl)) (hJ17 (gb477) _ ⟨hHeld, (by (with_reducible repeat (first | refine blk_drewN ?_ _ | refine blk_drew ?_ | refine blk_alloc ?_ _)); exact BK464.out), (by (with_reducible repeat (first | refine blk_drewN ?_ _ | refine blk_drew ?_ | refine blk_alloc ?_ _)); exact BK465.out), (by (with_reducible repeat (first | refine blk_drewN ?_ _ | refine blk_drew ?_ | refine blk_alloc ?_ _)); exact BK477.out), GW477.out, GE477.out, NB464_477.out, NB477_464.out, NB465_477.out, NB477_465.out, (by repeat (first | (with_reducible first | exact HB.out | apply below_alloc | apply pw_below_drewN | apply below_drew1 | refine below_set ?_ GE464.out | refine below_set ?_ GE465.out | refine below_set ?_ GE477.out) | exact HB.out))⟩)
                                · skip
                                  rintro gb477 w42 ⟨hS_, h0_, h1_, h2_, h3_, h4_, h5_, h6_, h7_, h8_, h9_⟩
                                  have n0_ : Aside0 (w42.heap[gb464]? = some (.cells #[.int .i64 a0_0, .int .i64 a0_1, .int .i64 a0_2] 23 (0, 0))) := ⟨h0_⟩
                                  have n1_ : Aside0 (w42.heap[gb465]? = some (.cells #[.int .i64 a1_0, .int .i64 a1_1, .int .i64 a1_2] 23 (0, 0))) := ⟨h1_⟩
                                  have n2_ : Aside0 (w42.heap[gb477]? = some (.cells #[.int .i64 0, .int .i64 0, .int .i64 0] 23 (0, 0))) := ⟨h2_⟩
                                  have n3_ : Aside0 (w.heap.size ≤ gb477) := ⟨h3_⟩
                                  have n4_ : Aside0 (w.heap.size ≤ gb477) := ⟨h4_⟩
                                  have n5_ : Aside0 (gb464 ≠ gb477) := ⟨h5_⟩
                                  have n6_ : Aside0 (gb477 ≠ gb464) := ⟨h6_⟩
                                  have n7_ : Aside0 (gb465 ≠ gb477) := ⟨h7_⟩
                                  have n8_ : Aside0 (gb477 ≠ gb465) := ⟨h8_⟩
                                  have n9_ : Aside0 (Below w.heap.size w w42) := ⟨h9_⟩
                                  clear BK464
                                  clear BK465
                                  clear HB
                                  clear h0_ h1_ h2_ h3_ h4_ h5_ h6_ h7_ h8_ h9_
                                  have BK464 := n0_
                                  have BK465 := n1_
                                  have BK477 := n2_
                                  have GW477 := n3_
                                  have GE477 := n4_
                                  have NB464_477 := n5_
                                  have NB477_464 := n6_
                                  have NB465_477 := n7_
                                  have NB477_465 := n8_
                                  have HB := n9_
                                  clear n0_ n1_ n2_ n3_ n4_ n5_ n6_ n7_ n8_ n9_
                                  have hHeld : w42.cell? ⟨gb464, 0, none⟩ = some (.int .i64 a0_0) ∧ w42.cell? ⟨gb464, 1, none⟩ = some (.int .i64 a0_1) ∧ w42.cell? ⟨gb464, 2, none⟩ = some (.int .i64 a0_2) ∧ w42.cell? ⟨gb465, 0, none⟩ = some (.int .i64 a1_0) ∧ w42.cell? ⟨gb465, 1, none⟩ = some (.int .i64 a1_1) ∧ w42.cell? ⟨gb465, 2, none⟩ = some (.int .i64 a1_2) := hS_
                                  refine norm_ (a' := ?_) ?_ ?_
                                  rotate_left
                                  · simp only [putAll, Act.put, List.setIfInBounds_toArray, List.set_cons_zero, List.set_cons_succ]
                                    rfl
                                  refine two_ (i := 7) (j := 16) (Ni := some 42) (Nj := some 7) (fl 15 20 [17]) (fl 7 20 [8, 9, 10, 11, 12, 13, 14, 16, 17]) rfl rfl rfl rfl (two_of HT_.out (by kernel_rfl)) (by decide) (by decide) (fun K hK => ?_) (fun K hK => ?_)
                                  · skip
                                    refine goes_ Try.func12 (by kernel_rfl) rfl #[.agg #[.int .i64 a0_0, .int .i64 a0_1, .int .i64 a0_2], .int .i64 9999] (by rfl) rfl rfl (by (try simp only [List.map_toArray, List.map_cons, List.map_nil]); first | done | rfl | (simp only [List.length_drop, List.length_take]; rfl)) ?_
                                    with_reducible refine (chattelref09_Make.calls kj21 a0_0 a0_1 a0_2 9999 t470 t471 t472 _ A26.out).mono ?_
                                    rintro e w43 ⟨rfl, hb⟩
                                    refine ⟨_, rfl, ?_⟩
                                    replace BK464 := Aside0.mk (bb BK464.out hb)
                                    replace BK465 := Aside0.mk (bb BK465.out hb)
                                    replace BK477 := Aside0.mk (bb BK477.out hb)
                                    replace HB := Aside0.mk (bs HB.out hb)
                                    (try clear hb)
                                    (try clear hb2)
                                    (try clear hk)
                                    (try clear hi)
                                    refine hK.out _ _ ⟨(blk_cell BK464.out 0).trans rfl, (blk_cell BK464.out 1).trans rfl, (blk_cell BK464.out 2).trans rfl, (blk_cell BK465.out 0).trans rfl, (blk_cell BK465.out 1).trans rfl, (blk_cell BK465.out 2).trans rfl⟩ (fun hHeld => ?_)
                                    clear hK K
                                    refine norm_ (a' := ?_) ?_ ?_
                                    rotate_left
                                    · show Act.put _ (some 42) _ = _
                                      simp only [Act.put, List.setIfInBounds_toArray, List.set_cons_zero, List.set_cons_succ, i64_w, i32_w]
                                      rfl
                                    exact norm_ (by first | (simp only [putAll, Act.put, List.setIfInBounds_toArray, List.set_cons_zero, List.set_cons_succ]; done) | (simp only [putAll, Act.put, List.setIfInBounds_toArray, List.set_cons_zero, List.set_cons_succ]; rfl)) (hJ7_17 (gb477) _ ⟨hHeld, (by (with_reducible repeat (first | refine blk_drewN ?_ _ | refine blk_drew ?_ | refine blk_alloc ?_ _)); exact BK464.out), (by (with_reducible repeat (first | refine blk_drewN ?_ _ | refine blk_drew ?_ | refine blk_alloc ?_ _)); exact BK465.out), (by (with_reducible repeat (first | refine blk_drewN ?_ _ | refine blk_drew ?_ | refine blk_alloc ?_ _)); exact BK477.out), GW477.out, GE477.out, NB464_477.out, NB477_464.out, NB465_477.out, NB477_465.out, (by repeat (first | (with_reducible first | exact HB.out | apply below_alloc | apply pw_below_drewN | apply below_drew1 | refine below_set ?_ GE464.out | refine below_set ?_ GE465.out | refine below_set ?_ GE477.out) | exact HB.out))⟩)
                                  · skip
                                    refine box_step ?hg (N := 7) ?hd (cs := #[.int .i64 0, .int .i64 0, .int .i64 0]) (t := 23) ?hr ?_; (case hd => rfl); (case hg => rfl); (case hr => first | (go_simp; done) | (go_simp; rfl))
                                    intro gb476 hg w43 hbox hb
                                    have n0_ := Aside0.mk (bb BK464.out hb)
                                    have n1_ := Aside0.mk (bb BK465.out hb)
                                    have n2_ := Aside0.mk (bb BK477.out hb)
                                    have n3_ := Aside0.mk (bs HB.out hb)
                                    have n4_ := Aside0.mk (hbox)
                                    have n5_ := Aside0.mk ((by rw [hg]; exact (bz HB.out) : w.heap.size ≤ gb476))
                                    have n6_ := Aside0.mk ((by rw [hg]; exact (bz HB.out) : w.heap.size ≤ gb476))
                                    have n7_ := Aside0.mk ((by rw [hg]; exact Nat.ne_of_lt (blk_lt (g := gb464) (o := .cells #[.int .i64 a0_0, .int .i64 a0_1, .int .i64 a0_2] 23 (0, 0)) (by (with_reducible repeat (first | refine blk_drewN ?_ _ | refine blk_drew ?_ | refine blk_alloc ?_ _)); exact BK464.out)) : gb464 ≠ gb476))
                                    have n8_ := Aside0.mk ((by rw [hg]; exact Nat.ne_of_gt (blk_lt (g := gb464) (o := .cells #[.int .i64 a0_0, .int .i64 a0_1, .int .i64 a0_2] 23 (0, 0)) (by (with_reducible repeat (first | refine blk_drewN ?_ _ | refine blk_drew ?_ | refine blk_alloc ?_ _)); exact BK464.out)) : gb476 ≠ gb464))
                                    have n9_ := Aside0.mk ((by rw [hg]; exact Nat.ne_of_lt (blk_lt (g := gb465) (o := .cells #[.int .i64 a1_0, .int .i64 a1_1, .int .i64 a1_2] 23 (0, 0)) (by (with_reducible repeat (first | refine blk_drewN ?_ _ | refine blk_drew ?_ | refine blk_alloc ?_ _)); exact BK465.out)) : gb465 ≠ gb476))
                                    have n10_ := Aside0.mk ((by rw [hg]; exact Nat.ne_of_gt (blk_lt (g := gb465) (o := .cells #[.int .i64 a1_0, .int .i64 a1_1, .int .i64 a1_2] 23 (0, 0)) (by (with_reducible repeat (first | refine blk_drewN ?_ _ | refine blk_drew ?_ | refine blk_alloc ?_ _)); exact BK465.out)) : gb476 ≠ gb465))
                                    have n11_ := Aside0.mk ((by rw [hg]; exact Nat.ne_of_lt (blk_lt (g := gb477) (o := .cells #[.int .i64 0, .int .i64 0, .int .i64 0] 23 (0, 0)) (by (with_reducible repeat (first | refine blk_drewN ?_ _ | refine blk_drew ?_ | refine blk_alloc ?_ _)); exact BK477.out)) : gb477 ≠ gb476))
                                    have n12_ := Aside0.mk ((by rw [hg]; exact Nat.ne_of_gt (blk_lt (g := gb477) (o := .cells #[.int .i64 0, .int .i64 0, .int .i64 0] 23 (0, 0)) (by (with_reducible repeat (first | refine blk_drewN ?_ _ | refine blk_drew ?_ | refine blk_alloc ?_ _)); exact BK477.out)) : gb476 ≠ gb477))
                                    clear BK464
                                    clear BK465
                                    clear BK477
                                    clear HB
                                    have BK464 := n0_
                                    have BK465 := n1_
                                    have BK477 := n2_
                                    have HB := n3_
                                    have BK476 := n4_
                                    have GW476 := n5_
                                    have GE476 := n6_
                                    have NB464_476 := n7_
                                    have NB476_464 := n8_
                                    have NB465_476 := n9_
                                    have NB476_465 := n10_
                                    have NB477_476 := n11_
                                    have NB476_477 := n12_
                                    clear n0_ n1_ n2_ n3_ n4_ n5_ n6_ n7_ n8_ n9_ n10_ n11_ n12_
                                    clear hb hbox hg
                                    refine hK.out _ _ ⟨(blk_cell BK464.out 0).trans rfl, (blk_cell BK464.out 1).trans rfl, (blk_cell BK464.out 2).trans rfl, (blk_cell BK465.out 0).trans rfl, (blk_cell BK465.out 1).trans rfl, (blk_cell BK465.out 2).trans rfl⟩ (fun hHeld => ?_)
                                    clear hK K
                                    refine norm_ (a' := ?_) ?_ ?_
                                    rotate_left
                                    · show Act.put _ (some 7) _ = _
                                      simp only [Act.put, List.setIfInBounds_toArray, List.set_cons_zero, List.set_cons_succ, i64_w, i32_w]
                                      rfl
                                    exact norm_ (by first | (simp only [putAll, Act.put, List.setIfInBounds_toArray, List.set_cons_zero, List.set_cons_succ]; done) | (simp only [putAll, Act.put, List.setIfInBounds_toArray, List.set_cons_zero, List.set_cons_succ]; rfl)) (hJ16_17 (gb476, gb477) _ ⟨hHeld, (by (with_reducible repeat (first | refine blk_drewN ?_ _ | refine blk_drew ?_ | refine blk_alloc ?_ _)); exact BK464.out), (by (with_reducible repeat (first | refine blk_drewN ?_ _ | refine blk_drew ?_ | refine blk_alloc ?_ _)); exact BK465.out), (by (with_reducible repeat (first | refine blk_drewN ?_ _ | refine blk_drew ?_ | refine blk_alloc ?_ _)); exact BK476.out), (by (with_reducible repeat (first | refine blk_drewN ?_ _ | refine blk_drew ?_ | refine blk_alloc ?_ _)); exact BK477.out), GW476.out, GE476.out, NB464_476.out, NB476_464.out, NB465_476.out, NB476_465.out, NB477_476.out, NB476_477.out, GW477.out, GE477.out, NB464_477.out, NB477_464.out, NB465_477.out, NB477_465.out, (by repeat (first | (with_reducible first | exact HB.out | apply below_alloc | apply pw_below_drewN | apply below_drew1 | refine below_set ?_ GE464.out | refine below_set ?_ GE465.out | refine below_set ?_ GE477.out | refine below_set ?_ GE476.out) | exact HB.out))⟩)
                              · skip
                                rintro gb476 w42 ⟨hS_, h0_, h1_, h2_, h3_, h4_, h5_, h6_, h7_, h8_, h9_⟩
                                have n0_ : Aside0 (w42.heap[gb464]? = some (.cells #[.int .i64 a0_0, .int .i64 a0_1, .int .i64 a0_2] 23 (0, 0))) := ⟨h0_⟩
                                have n1_ : Aside0 (w42.heap[gb465]? = some (.cells #[.int .i64 a1_0, .int .i64 a1_1, .int .i64 a1_2] 23 (0, 0))) := ⟨h1_⟩
                                have n2_ : Aside0 (w42.heap[gb476]? = some (.cells #[.int .i64 0, .int .i64 0, .int .i64 0] 23 (0, 0))) := ⟨h2_⟩
                                have n3_ : Aside0 (w.heap.size ≤ gb476) := ⟨h3_⟩
                                have n4_ : Aside0 (w.heap.size ≤ gb476) := ⟨h4_⟩
                                have n5_ : Aside0 (gb464 ≠ gb476) := ⟨h5_⟩
                                have n6_ : Aside0 (gb476 ≠ gb464) := ⟨h6_⟩
                                have n7_ : Aside0 (gb465 ≠ gb476) := ⟨h7_⟩
                                have n8_ : Aside0 (gb476 ≠ gb465) := ⟨h8_⟩
                                have n9_ : Aside0 (Below w.heap.size w w42) := ⟨h9_⟩
                                clear BK464
                                clear BK465
                                clear HB
                                clear h0_ h1_ h2_ h3_ h4_ h5_ h6_ h7_ h8_ h9_
                                have BK464 := n0_
                                have BK465 := n1_
                                have BK476 := n2_
                                have GW476 := n3_
                                have GE476 := n4_
                                have NB464_476 := n5_
                                have NB476_464 := n6_
                                have NB465_476 := n7_
                                have NB476_465 := n8_
                                have HB := n9_
                                clear n0_ n1_ n2_ n3_ n4_ n5_ n6_ n7_ n8_ n9_
                                have hHeld : w42.cell? ⟨gb464, 0, none⟩ = some (.int .i64 a0_0) ∧ w42.cell? ⟨gb464, 1, none⟩ = some (.int .i64 a0_1) ∧ w42.cell? ⟨gb464, 2, none⟩ = some (.int .i64 a0_2) ∧ w42.cell? ⟨gb465, 0, none⟩ = some (.int .i64 a1_0) ∧ w42.cell? ⟨gb465, 1, none⟩ = some (.int .i64 a1_1) ∧ w42.cell? ⟨gb465, 2, none⟩ = some (.int .i64 a1_2) := hS_
                                refine norm_ (a' := ?_) ?_ ?_
                                rotate_left
                                · simp only [putAll, Act.put, List.setIfInBounds_toArray, List.set_cons_zero, List.set_cons_succ]
                                  rfl
                                refine two_ (i := 7) (j := 17) (Ni := some 42) (Nj := some 8) (fl 15 20 [16]) (fl 7 20 [8, 9, 10, 11, 12, 13, 14, 16, 17]) rfl rfl rfl rfl (two_of HT_.out (by kernel_rfl)) (by decide) (by decide) (fun K hK => ?_) (fun K hK => ?_)
                                · skip
                                  refine goes_ Try.func12 (by kernel_rfl) rfl #[.agg #[.int .i64 a0_0, .int .i64 a0_1, .int .i64 a0_2], .int .i64 9999] (by rfl) rfl rfl (by (try simp only [List.map_toArray, List.map_cons, List.map_nil]); first | done | rfl | (simp only [List.length_drop, List.length_take]; rfl)) ?_
                                  with_reducible refine (chattelref09_Make.calls kj21 a0_0 a0_1 a0_2 9999 t470 t471 t472 _ A26.out).mono ?_
                                  rintro e w43 ⟨rfl, hb⟩
                                  refine ⟨_, rfl, ?_⟩
                                  replace BK464 := Aside0.mk (bb BK464.out hb)
                                  replace BK465 := Aside0.mk (bb BK465.out hb)
                                  replace BK476 := Aside0.mk (bb BK476.out hb)
                                  replace HB := Aside0.mk (bs HB.out hb)
                                  (try clear hb)
                                  (try clear hb2)
                                  (try clear hk)
                                  (try clear hi)
                                  refine hK.out _ _ ⟨(blk_cell BK464.out 0).trans rfl, (blk_cell BK464.out 1).trans rfl, (blk_cell BK464.out 2).trans rfl, (blk_cell BK465.out 0).trans rfl, (blk_cell BK465.out 1).trans rfl, (blk_cell BK465.out 2).trans rfl⟩ (fun hHeld => ?_)
                                  clear hK K
                                  refine norm_ (a' := ?_) ?_ ?_
                                  rotate_left
                                  · show Act.put _ (some 42) _ = _
                                    simp only [Act.put, List.setIfInBounds_toArray, List.set_cons_zero, List.set_cons_succ, i64_w, i32_w]
                                    rfl
                                  exact norm_ (by first | (simp only [putAll, Act.put, List.setIfInBounds_toArray, List.set_cons_zero, List.set_cons_succ]; done) | (simp only [putAll, Act.put, List.setIfInBounds_toArray, List.set_cons_zero, List.set_cons_succ]; rfl)) (hJ7_16 (gb476) _ ⟨hHeld, (by (with_reducible repeat (first | refine blk_drewN ?_ _ | refine blk_drew ?_ | refine blk_alloc ?_ _)); exact BK464.out), (by (with_reducible repeat (first | refine blk_drewN ?_ _ | refine blk_drew ?_ | refine blk_alloc ?_ _)); exact BK465.out), (by (with_reducible repeat (first | refine blk_drewN ?_ _ | refine blk_drew ?_ | refine blk_alloc ?_ _)); exact BK476.out), GW476.out, GE476.out, NB464_476.out, NB476_464.out, NB465_476.out, NB476_465.out, (by repeat (first | (with_reducible first | exact HB.out | apply below_alloc | apply pw_below_drewN | apply below_drew1 | refine below_set ?_ GE464.out | refine below_set ?_ GE465.out | refine below_set ?_ GE476.out) | exact HB.out))⟩)
                                · skip
                                  refine box_step ?hg (N := 8) ?hd (cs := #[.int .i64 0, .int .i64 0, .int .i64 0]) (t := 23) ?hr ?_; (case hd => rfl); (case hg => rfl); (case hr => first | (go_simp; done) | (go_simp; rfl))
                                  intro gb477 hg w43 hbox hb
                                  have n0_ := Aside0.mk (bb BK464.out hb)
                                  have n1_ := Aside0.mk (bb BK465.out hb)
                                  have n2_ := Aside0.mk (bb BK476.out hb)
                                  have n3_ := Aside0.mk (bs HB.out hb)
                                  have n4_ := Aside0.mk (hbox)
                                  have n5_ := Aside0.mk ((by rw [hg]; exact (bz HB.out) : w.heap.size ≤ gb477))
                                  have n6_ := Aside0.mk ((by rw [hg]; exact (bz HB.out) : w.heap.size ≤ gb477))
                                  have n7_ := Aside0.mk ((by rw [hg]; exact Nat.ne_of_lt (blk_lt (g := gb464) (o := .cells #[.int .i64 a0_0, .int .i64 a0_1, .int .i64 a0_2] 23 (0, 0)) (by (with_reducible repeat (first | refine blk_drewN ?_ _ | refine blk_drew ?_ | refine blk_alloc ?_ _)); exact BK464.out)) : gb464 ≠ gb477))
                                  have n8_ := Aside0.mk ((by rw [hg]; exact Nat.ne_of_gt (blk_lt (g := gb464) (o := .cells #[.int .i64 a0_0, .int .i64 a0_1, .int .i64 a0_2] 23 (0, 0)) (by (with_reducible repeat (first | refine blk_drewN ?_ _ | refine blk_drew ?_ | refine blk_alloc ?_ _)); exact BK464.out)) : gb477 ≠ gb464))
                                  have n9_ := Aside0.mk ((by rw [hg]; exact Nat.ne_of_lt (blk_lt (g := gb465) (o := .cells #[.int .i64 a1_0, .int .i64 a1_1, .int .i64 a1_2] 23 (0, 0)) (by (with_reducible repeat (first | refine blk_drewN ?_ _ | refine blk_drew ?_ | refine blk_alloc ?_ _)); exact BK465.out)) : gb465 ≠ gb477))
                                  have n10_ := Aside0.mk ((by rw [hg]; exact Nat.ne_of_gt (blk_lt (g := gb465) (o := .cells #[.int .i64 a1_0, .int .i64 a1_1, .int .i64 a1_2] 23 (0, 0)) (by (with_reducible repeat (first | refine blk_drewN ?_ _ | refine blk_drew ?_ | refine blk_alloc ?_ _)); exact BK465.out)) : gb477 ≠ gb465))
                                  have n11_ := Aside0.mk ((by rw [hg]; exact Nat.ne_of_lt (blk_lt (g := gb476) (o := .cells #[.int .i64 0, .int .i64 0, .int .i64 0] 23 (0, 0)) (by (with_reducible repeat (first | refine blk_drewN ?_ _ | refine blk_drew ?_ | refine blk_alloc ?_ _)); exact BK476.out)) : gb476 ≠ gb477))
                                  have n12_ := Aside0.mk ((by rw [hg]; exact Nat.ne_of_gt (blk_lt (g := gb476) (o := .cells #[.int .i64 0, .int .i64 0, .int .i64 0] 23 (0, 0)) (by (with_reducible repeat (first | refine blk_drewN ?_ _ | refine blk_drew ?_ | refine blk_alloc ?_ _)); exact BK476.out)) : gb477 ≠ gb476))
                                  clear BK464
                                  clear BK465
                                  clear BK476
                                  clear HB
                                  have BK464 := n0_
                                  have BK465 := n1_
                                  have BK476 := n2_
                                  have HB := n3_
                                  have BK477 := n4_
                                  have GW477 := n5_
                                  have GE477 := n6_
                                  have NB464_477 := n7_
                                  have NB477_464 := n8_
                                  have NB465_477 := n9_
                                  have NB477_465 := n10_
                                  have NB476_477 := n11_
                                  have NB477_476 := n12_
                                  clear n0_ n1_ n2_ n3_ n4_ n5_ n6_ n7_ n8_ n9_ n10_ n11_ n12_
                                  clear hb hbox hg
                                  refine hK.out _ _ ⟨(blk_cell BK464.out 0).trans rfl, (blk_cell BK464.out 1).trans rfl, (blk_cell BK464.out 2).trans rfl, (blk_cell BK465.out 0).trans rfl, (blk_cell BK465.out 1).trans rfl, (blk_cell BK465.out 2).trans rfl⟩ (fun hHeld => ?_)
                                  clear hK K
                                  refine norm_ (a' := ?_) ?_ ?_
                                  rotate_left
                                  · show Act.put _ (some 8) _ = _
                                    simp only [Act.put, List.setIfInBounds_toArray, List.set_cons_zero, List.set_cons_succ, i64_w, i32_w]
                                    rfl
                                  exact norm_ (by first | (simp only [putAll, Act.put, List.setIfInBounds_toArray, List.set_cons_zero, List.set_cons_succ]; done) | (simp only [putAll, Act.put, List.setIfInBounds_toArray, List.set_cons_zero, List.set_cons_succ]; rfl)) (hJ16_17 (gb476, gb477) _ ⟨hHeld, (by (with_reducible repeat (first | refine blk_drewN ?_ _ | refine blk_drew ?_ | refine blk_alloc ?_ _)); exact BK464.out), (by (with_reducible repeat (first | refine blk_drewN ?_ _ | refine blk_drew ?_ | refine blk_alloc ?_ _)); exact BK465.out), (by (with_reducible repeat (first | refine blk_drewN ?_ _ | refine blk_drew ?_ | refine blk_alloc ?_ _)); exact BK476.out), (by (with_reducible repeat (first | refine blk_drewN ?_ _ | refine blk_drew ?_ | refine blk_alloc ?_ _)); exact BK477.out), GW476.out, GE476.out, NB464_476.out, NB476_464.out, NB465_476.out, NB476_465.out, NB477_476.out, NB476_477.out, GW477.out, GE477.out, NB464_477.out, NB477_464.out, NB465_477.out, NB477_465.out, (by repeat (first | (with_reducible first | exact HB.out | apply below_alloc | apply pw_below_drewN | apply below_drew1 | refine below_set ?_ GE464.out | refine below_set ?_ GE465.out | refine below_set ?_ GE476.out | refine below_set ?_ GE477.out) | exact HB.out))⟩)
                            · skip
                              rintro _ w42 ⟨hS_, h0_, h1_, h2_⟩
                              have n0_ : Aside0 (w42.heap[gb464]? = some (.cells #[.int .i64 a0_0, .int .i64 a0_1, .int .i64 a0_2] 23 (0, 0))) := ⟨h0_⟩
                              have n1_ : Aside0 (w42.heap[gb465]? = some (.cells #[.int .i64 a1_0, .int .i64 a1_1, .int .i64 a1_2] 23 (0, 0))) := ⟨h1_⟩
                              have n2_ : Aside0 (Below w.heap.size w w42) := ⟨h2_⟩
                              clear BK464
                              clear BK465
                              clear HB
                              clear h0_ h1_ h2_
                              have BK464 := n0_
                              have BK465 := n1_
                              have HB := n2_
                              clear n0_ n1_ n2_
                              have hHeld : w42.cell? ⟨gb464, 0, none⟩ = some (.int .i64 a0_0) ∧ w42.cell? ⟨gb464, 1, none⟩ = some (.int .i64 a0_1) ∧ w42.cell? ⟨gb464, 2, none⟩ = some (.int .i64 a0_2) ∧ w42.cell? ⟨gb465, 0, none⟩ = some (.int .i64 a1_0) ∧ w42.cell? ⟨gb465, 1, none⟩ = some (.int .i64 a1_1) ∧ w42.cell? ⟨gb465, 2, none⟩ = some (.int .i64 a1_2) := hS_
                              refine norm_ (a' := ?_) ?_ ?_
                              rotate_left
                              · simp only [putAll, Act.put, List.setIfInBounds_toArray, List.set_cons_zero, List.set_cons_succ]
                                rfl
                              refine three_ (i := 15) (j := 16) (k := 17) (Ni := some 50) (Nj := some 7) (Nk := some 8) (fl 16 20 []) (fl 15 20 [16]) (fl 15 20 [17]) rfl rfl rfl rfl rfl rfl (three_of HT_.out (by kernel_rfl)) (by decide) (by decide) (by decide) (fun K hK => ?_) (fun K hK => ?_) (fun K hK => ?_)
                              · skip
                                refine goes_ Try.func12 (by kernel_rfl) rfl #[.agg #[.int .i64 a1_0, .int .i64 a1_1, .int .i64 a1_2], .int .i64 9999] (by rfl) rfl rfl (by (try simp only [List.map_toArray, List.map_cons, List.map_nil]); first | done | rfl | (simp only [List.length_drop, List.length_take]; rfl)) ?_
                                with_reducible refine (chattelref09_Make.calls kj21 a1_0 a1_1 a1_2 9999 t473 t474 t475 _ A27.out).mono ?_
                                rintro e w43 ⟨rfl, hb⟩
                                refine ⟨_, rfl, ?_⟩
                                replace BK464 := Aside0.mk (bb BK464.out hb)
                                replace BK465 := Aside0.mk (bb BK465.out hb)
                                replace HB := Aside0.mk (bs HB.out hb)
                                (try clear hb)
                                (try clear hb2)
                                (try clear hk)
                                (try clear hi)
                                refine hK.out _ _ ⟨(blk_cell BK464.out 0).trans rfl, (blk_cell BK464.out 1).trans rfl, (blk_cell BK464.out 2).trans rfl, (blk_cell BK465.out 0).trans rfl, (blk_cell BK465.out 1).trans rfl, (blk_cell BK465.out 2).trans rfl⟩ (fun hHeld => ?_)
                                clear hK K
                                refine norm_ (a' := ?_) ?_ ?_
                                rotate_left
                                · show Act.put _ (some 50) _ = _
                                  simp only [Act.put, List.setIfInBounds_toArray, List.set_cons_zero, List.set_cons_succ, i64_w, i32_w]
                                  rfl
                                exact norm_ (by first | (simp only [putAll, Act.put, List.setIfInBounds_toArray, List.set_cons_zero, List.set_cons_succ]; done) | (simp only [putAll, Act.put, List.setIfInBounds_toArray, List.set_cons_zero, List.set_cons_succ]; rfl)) (hJ7_15 () _ ⟨hHeld, (by (with_reducible repeat (first | refine blk_drewN ?_ _ | refine blk_drew ?_ | refine blk_alloc ?_ _)); exact BK464.out), (by (with_reducible repeat (first | refine blk_drewN ?_ _ | refine blk_drew ?_ | refine blk_alloc ?_ _)); exact BK465.out), (by repeat (first | (with_reducible first | exact HB.out | apply below_alloc | apply pw_below_drewN | apply below_drew1 | refine below_set ?_ GE464.out | refine below_set ?_ GE465.out) | exact HB.out))⟩)
                              · skip
                                refine box_step ?hg (N := 7) ?hd (cs := #[.int .i64 0, .int .i64 0, .int .i64 0]) (t := 23) ?hr ?_; (case hd => rfl); (case hg => rfl); (case hr => first | (go_simp; done) | (go_simp; rfl))
                                intro gb476 hg w43 hbox hb
                                have n0_ := Aside0.mk (bb BK464.out hb)
                                have n1_ := Aside0.mk (bb BK465.out hb)
                                have n2_ := Aside0.mk (bs HB.out hb)
                                have n3_ := Aside0.mk (hbox)
                                have n4_ := Aside0.mk ((by rw [hg]; exact (bz HB.out) : w.heap.size ≤ gb476))
                                have n5_ := Aside0.mk ((by rw [hg]; exact (bz HB.out) : w.heap.size ≤ gb476))
                                have n6_ := Aside0.mk ((by rw [hg]; exact Nat.ne_of_lt (blk_lt (g := gb464) (o := .cells #[.int .i64 a0_0, .int .i64 a0_1, .int .i64 a0_2] 23 (0, 0)) (by (with_reducible repeat (first | refine blk_drewN ?_ _ | refine blk_drew ?_ | refine blk_alloc ?_ _)); exact BK464.out)) : gb464 ≠ gb476))
                                have n7_ := Aside0.mk ((by rw [hg]; exact Nat.ne_of_gt (blk_lt (g := gb464) (o := .cells #[.int .i64 a0_0, .int .i64 a0_1, .int .i64 a0_2] 23 (0, 0)) (by (with_reducible repeat (first | refine blk_drewN ?_ _ | refine blk_drew ?_ | refine blk_alloc ?_ _)); exact BK464.out)) : gb476 ≠ gb464))
                                have n8_ := Aside0.mk ((by rw [hg]; exact Nat.ne_of_lt (blk_lt (g := gb465) (o := .cells #[.int .i64 a1_0, .int .i64 a1_1, .int .i64 a1_2] 23 (0, 0)) (by (with_reducible repeat (first | refine blk_drewN ?_ _ | refine blk_drew ?_ | refine blk_alloc ?_ _)); exact BK465.out)) : gb465 ≠ gb476))
                                have n9_ := Aside0.mk ((by rw [hg]; exact Nat.ne_of_gt (blk_lt (g := gb465) (o := .cells #[.int .i64 a1_0, .int .i64 a1_1, .int .i64 a1_2] 23 (0, 0)) (by (with_reducible repeat (first | refine blk_drewN ?_ _ | refine blk_drew ?_ | refine blk_alloc ?_ _)); exact BK465.out)) : gb476 ≠ gb465))
                                clear BK464
                                clear BK465
                                clear HB
                                have BK464 := n0_
                                have BK465 := n1_
                                have HB := n2_
                                have BK476 := n3_
                                have GW476 := n4_
                                have GE476 := n5_
                                have NB464_476 := n6_
                                have NB476_464 := n7_
                                have NB465_476 := n8_
                                have NB476_465 := n9_
                                clear n0_ n1_ n2_ n3_ n4_ n5_ n6_ n7_ n8_ n9_
                                clear hb hbox hg
                                refine hK.out _ _ ⟨(blk_cell BK464.out 0).trans rfl, (blk_cell BK464.out 1).trans rfl, (blk_cell BK464.out 2).trans rfl, (blk_cell BK465.out 0).trans rfl, (blk_cell BK465.out 1).trans rfl, (blk_cell BK465.out 2).trans rfl⟩ (fun hHeld => ?_)
                                clear hK K
                                refine norm_ (a' := ?_) ?_ ?_
                                rotate_left
                                · show Act.put _ (some 7) _ = _
                                  simp only [Act.put, List.setIfInBounds_toArray, List.set_cons_zero, List.set_cons_succ, i64_w, i32_w]
                                  rfl
                                exact norm_ (by first | (simp only [putAll, Act.put, List.setIfInBounds_toArray, List.set_cons_zero, List.set_cons_succ]; done) | (simp only [putAll, Act.put, List.setIfInBounds_toArray, List.set_cons_zero, List.set_cons_succ]; rfl)) (hJ7_16 (gb476) _ ⟨hHeld, (by (with_reducible repeat (first | refine blk_drewN ?_ _ | refine blk_drew ?_ | refine blk_alloc ?_ _)); exact BK464.out), (by (with_reducible repeat (first | refine blk_drewN ?_ _ | refine blk_drew ?_ | refine blk_alloc ?_ _)); exact BK465.out), (by (with_reducible repeat (first | refine blk_drewN ?_ _ | refine blk_drew ?_ | refine blk_alloc ?_ _)); exact BK476.out), GW476.out, GE476.out, NB464_476.out, NB476_464.out, NB465_476.out, NB476_465.out, (by repeat (first | (with_reducible first | exact HB.out | apply below_alloc | apply pw_below_drewN | apply below_drew1 | refine below_set ?_ GE464.out | refine below_set ?_ GE465.out | refine below_set ?_ GE476.out) | exact HB.out))⟩)
                              · skip
                                refine box_step ?hg (N := 8) ?hd (cs := #[.int .i64 0, .int .i64 0, .int .i64 0]) (t := 23) ?hr ?_; (case hd => rfl); (case hg => rfl); (case hr => first | (go_simp; done) | (go_simp; rfl))
                                intro gb477 hg w43 hbox hb
                                have n0_ := Aside0.mk (bb BK464.out hb)
                                have n1_ := Aside0.mk (bb BK465.out hb)
                                have n2_ := Aside0.mk (bs HB.out hb)
                                have n3_ := Aside0.mk (hbox)
                                have n4_ := Aside0.mk ((by rw [hg]; exact (bz HB.out) : w.heap.size ≤ gb477))
                                have n5_ := Aside0.mk ((by rw [hg]; exact (bz HB.out) : w.heap.size ≤ gb477))
                                have n6_ := Aside0.mk ((by rw [hg]; exact Nat.ne_of_lt (blk_lt (g := gb464) (o := .cells #[.int .i64 a0_0, .int .i64 a0_1, .int .i64 a0_2] 23 (0, 0)) (by (with_reducible repeat (first | refine blk_drewN ?_ _ | refine blk_drew ?_ | refine blk_alloc ?_ _)); exact BK464.out)) : gb464 ≠ gb477))
                                have n7_ := Aside0.mk ((by rw [hg]; exact Nat.ne_of_gt (blk_lt (g := gb464) (o := .cells #[.int .i64 a0_0, .int .i64 a0_1, .int .i64 a0_2] 23 (0, 0)) (by (with_reducible repeat (first | refine blk_drewN ?_ _ | refine blk_drew ?_ | refine blk_alloc ?_ _)); exact BK464.out)) : gb477 ≠ gb464))
                                have n8_ := Aside0.mk ((by rw [hg]; exact Nat.ne_of_lt (blk_lt (g := gb465) (o := .cells #[.int .i64 a1_0, .int .i64 a1_1, .int .i64 a1_2] 23 (0, 0)) (by (with_reducible repeat (first | refine blk_drewN ?_ _ | refine blk_drew ?_ | refine blk_alloc ?_ _)); exact BK465.out)) : gb465 ≠ gb477))
                                have n9_ := Aside0.mk ((by rw [hg]; exact Nat.ne_of_gt (blk_lt (g := gb465) (o := .cells #[.int .i64 a1_0, .int .i64 a1_1, .int .i64 a1_2] 23 (0, 0)) (by (with_reducible repeat (first | refine blk_drewN ?_ _ | refine blk_drew ?_ | refine blk_alloc ?_ _)); exact BK465.out)) : gb477 ≠ gb465))
                                clear BK464
                                clear BK465
                                clear HB
                                have BK464 := n0_
                                have BK465 := n1_
                                have HB := n2_
                                have BK477 := n3_
                                have GW477 := n4_
                                have GE477 := n5_
                                have NB464_477 := n6_
                                have NB477_464 := n7_
                                have NB465_477 := n8_
                                have NB477_465 := n9_
                                clear n0_ n1_ n2_ n3_ n4_ n5_ n6_ n7_ n8_ n9_
                                clear hb hbox hg
                                refine hK.out _ _ ⟨(blk_cell BK464.out 0).trans rfl, (blk_cell BK464.out 1).trans rfl, (blk_cell BK464.out 2).trans rfl, (blk_cell BK465.out 0).trans rfl, (blk_cell BK465.out 1).trans rfl, (blk_cell BK465.out 2).trans rfl⟩ (fun hHeld => ?_)
                                clear hK K
                                refine norm_ (a' := ?_) ?_ ?_
                                rotate_left
                                · show Act.put _ (some 8) _ = _
                                  simp only [Act.put, List.setIfInBounds_toArray, List.set_cons_zero, List.set_cons_succ, i64_w, i32_w]
                                  rfl
                                exact norm_ (by first | (simp only [putAll, Act.put, List.setIfInBounds_toArray, List.set_cons_zero, List.set_cons_succ]; done) | (simp only [putAll, Act.put, List.setIfInBounds_toArray, List.set_cons_zero, List.set_cons_succ]; rfl)) (hJ7_17 (gb477) _ ⟨hHeld, (by (with_reducible repeat (first | refine blk_drewN ?_ _ | refine blk_drew ?_ | refine blk_alloc ?_ _)); exact BK464.out), (by (with_reducible repeat (first | refine blk_drewN ?_ _ | refine blk_drew ?_ | refine blk_alloc ?_ _)); exact BK465.out), (by (with_reducible repeat (first | refine blk_drewN ?_ _ | refine blk_drew ?_ | refine blk_alloc ?_ _)); exact BK477.out), GW477.out, GE477.out, NB464_477.out, NB477_464.out, NB465_477.out, NB477_465.out, (by repeat (first | (with_reducible first | exact HB.out | apply below_alloc | apply pw_below_drewN | apply below_drew1 | refine below_set ?_ GE464.out | refine below_set ?_ GE465.out | refine below_set ?_ GE477.out) | exact HB.out))⟩)
                          · skip
                            rintro ⟨gb476, gb477⟩ w43 ⟨hS_, h0_, h1_, h2_, h3_, h4_, h5_, h6_, h7_, h8_, h9_, h10_, h11_, h12_, h13_, h14_, h15_, h16_, h17_, h18_⟩
                            have n0_ : Aside0 (w43.heap[gb464]? = some (.cells #[.int .i64 a0_0, .int .i64 a0_1, .int .i64 a0_2] 23 (0, 0))) := ⟨h0_⟩
                            have n1_ : Aside0 (w43.heap[gb465]? = some (.cells #[.int .i64 a1_0, .int .i64 a1_1, .int .i64 a1_2] 23 (0, 0))) := ⟨h1_⟩
                            have n2_ : Aside0 (w43.heap[gb476]? = some (.cells #[.int .i64 0, .int .i64 0, .int .i64 0] 23 (0, 0))) := ⟨h2_⟩
                            have n3_ : Aside0 (w43.heap[gb477]? = some (.cells #[.int .i64 0, .int .i64 0, .int .i64 0] 23 (0, 0))) := ⟨h3_⟩
                            have n4_ : Aside0 (w.heap.size ≤ gb476) := ⟨h4_⟩
                            have n5_ : Aside0 (w.heap.size ≤ gb476) := ⟨h5_⟩
                            have n6_ : Aside0 (gb464 ≠ gb476) := ⟨h6_⟩
                            have n7_ : Aside0 (gb476 ≠ gb464) := ⟨h7_⟩
                            have n8_ : Aside0 (gb465 ≠ gb476) := ⟨h8_⟩
                            have n9_ : Aside0 (gb476 ≠ gb465) := ⟨h9_⟩
                            have n10_ : Aside0 (gb477 ≠ gb476) := ⟨h10_⟩
                            have n11_ : Aside0 (gb476 ≠ gb477) := ⟨h11_⟩
                            have n12_ : Aside0 (w.heap.size ≤ gb477) := ⟨h12_⟩
                            have n13_ : Aside0 (w.heap.size ≤ gb477) := ⟨h13_⟩
                            have n14_ : Aside0 (gb464 ≠ gb477) := ⟨h14_⟩
                            have n15_ : Aside0 (gb477 ≠ gb464) := ⟨h15_⟩
                            have n16_ : Aside0 (gb465 ≠ gb477) := ⟨h16_⟩
                            have n17_ : Aside0 (gb477 ≠ gb465) := ⟨h17_⟩
                            have n18_ : Aside0 (Below w.heap.size w w43) := ⟨h18_⟩
                            clear BK464
                            clear BK465
                            clear HB
                            clear h0_ h1_ h2_ h3_ h4_ h5_ h6_ h7_ h8_ h9_ h10_ h11_ h12_ h13_ h14_ h15_ h16_ h17_ h18_
                            have BK464 := n0_
                            have BK465 := n1_
                            have BK476 := n2_
                            have BK477 := n3_
                            have GW476 := n4_
                            have GE476 := n5_
                            have NB464_476 := n6_
                            have NB476_464 := n7_
                            have NB465_476 := n8_
                            have NB476_465 := n9_
                            have NB477_476 := n10_
                            have NB476_477 := n11_
                            have GW477 := n12_
                            have GE477 := n13_
                            have NB464_477 := n14_
                            have NB477_464 := n15_
                            have NB465_477 := n16_
                            have NB477_465 := n17_
                            have HB := n18_
                            clear n0_ n1_ n2_ n3_ n4_ n5_ n6_ n7_ n8_ n9_ n10_ n11_ n12_ n13_ n14_ n15_ n16_ n17_ n18_
                            have hHeld : w43.cell? ⟨gb464, 0, none⟩ = some (.int .i64 a0_0) ∧ w43.cell? ⟨gb464, 1, none⟩ = some (.int .i64 a0_1) ∧ w43.cell? ⟨gb464, 2, none⟩ = some (.int .i64 a0_2) ∧ w43.cell? ⟨gb465, 0, none⟩ = some (.int .i64 a1_0) ∧ w43.cell? ⟨gb465, 1, none⟩ = some (.int .i64 a1_1) ∧ w43.cell? ⟨gb465, 2, none⟩ = some (.int .i64 a1_2) := hS_
                            refine norm_ (a' := ?_) ?_ ?_
                            rotate_left
                            · simp only [putAll, Act.put, List.setIfInBounds_toArray, List.set_cons_zero, List.set_cons_succ]
                              rfl
                            refine one_ (i := 7) (N := some 42) (fl 15 20 [16, 17]) rfl rfl (one_of HT_.out (by kernel_rfl)) (by decide) (fun K hK => ?_)
                            refine goes_ Try.func12 (by kernel_rfl) rfl #[.agg #[.int .i64 a0_0, .int .i64 a0_1, .int .i64 a0_2], .int .i64 9999] (by rfl) rfl rfl (by (try simp only [List.map_toArray, List.map_cons, List.map_nil]); first | done | rfl | (simp only [List.length_drop, List.length_take]; rfl)) ?_
                            with_reducible refine (chattelref09_Make.calls kj21 a0_0 a0_1 a0_2 9999 t470 t471 t472 _ A26.out).mono ?_
                            rintro e w44 ⟨rfl, hb⟩
                            refine ⟨_, rfl, ?_⟩
                            replace BK464 := Aside0.mk (bb BK464.out hb)
                            replace BK465 := Aside0.mk (bb BK465.out hb)
                            replace BK476 := Aside0.mk (bb BK476.out hb)
                            replace BK477 := Aside0.mk (bb BK477.out hb)
                            replace HB := Aside0.mk (bs HB.out hb)
                            (try clear hb)
                            (try clear hb2)
                            (try clear hk)
                            (try clear hi)
                            refine hK.out _ _ ⟨(blk_cell BK464.out 0).trans rfl, (blk_cell BK464.out 1).trans rfl, (blk_cell BK464.out 2).trans rfl, (blk_cell BK465.out 0).trans rfl, (blk_cell BK465.out 1).trans rfl, (blk_cell BK465.out 2).trans rfl⟩ (fun hHeld => ?_)
                            clear hK K
                            refine norm_ (a' := ?_) ?_ ?_
                            rotate_left
                            · show Act.put _ (some 42) _ = _
                              simp only [Act.put, List.setIfInBounds_toArray, List.set_cons_zero, List.set_cons_succ, i64_w, i32_w]
                              rfl
                            exact norm_ (by first | (simp only [putAll, Act.put, List.setIfInBounds_toArray, List.set_cons_zero, List.set_cons_succ]; done) | (simp only [putAll, Act.put, List.setIfInBounds_toArray, List.set_cons_zero, List.set_cons_succ]; rfl)) (hJ7_16_17 (gb476, gb477) _ ⟨hHeld, (by (with_reducible repeat (first | refine blk_drewN ?_ _ | refine blk_drew ?_ | refine blk_alloc ?_ _)); exact BK464.out), (by (with_reducible repeat (first | refine blk_drewN ?_ _ | refine blk_drew ?_ | refine blk_alloc ?_ _)); exact BK465.out), (by (with_reducible repeat (first | refine blk_drewN ?_ _ | refine blk_drew ?_ | refine blk_alloc ?_ _)); exact BK476.out), (by (with_reducible repeat (first | refine blk_drewN ?_ _ | refine blk_drew ?_ | refine blk_alloc ?_ _)); exact BK477.out), GW476.out, GE476.out, NB464_476.out, NB476_464.out, NB465_476.out, NB476_465.out, NB477_476.out, NB476_477.out, GW477.out, GE477.out, NB464_477.out, NB477_464.out, NB465_477.out, NB477_465.out, (by repeat (first | (with_reducible first | exact HB.out | apply below_alloc | apply pw_below_drewN | apply below_drew1 | refine below_set ?_ GE464.out | refine below_set ?_ GE465.out | refine below_set ?_ GE476.out | refine below_set ?_ GE477.out) | exact HB.out))⟩)
                        · skip
                          rintro gb477 w43 ⟨hS_, h0_, h1_, h2_, h3_, h4_, h5_, h6_, h7_, h8_, h9_⟩
                          have n0_ : Aside0 (w43.heap[gb464]? = some (.cells #[.int .i64 a0_0, .int .i64 a0_1, .int .i64 a0_2] 23 (0, 0))) := ⟨h0_⟩
                          have n1_ : Aside0 (w43.heap[gb465]? = some (.cells #[.int .i64 a1_0, .int .i64 a1_1, .int .i64 a1_2] 23 (0, 0))) := ⟨h1_⟩
                          have n2_ : Aside0 (w43.heap[gb477]? = some (.cells #[.int .i64 0, .int .i64 0, .int .i64 0] 23 (0, 0))) := ⟨h2_⟩
                          have n3_ : Aside0 (w.heap.size ≤ gb477) := ⟨h3_⟩
                          have n4_ : Aside0 (w.heap.size ≤ gb477) := ⟨h4_⟩
                          have n5_ : Aside0 (gb464 ≠ gb477) := ⟨h5_⟩
                          have n6_ : Aside0 (gb477 ≠ gb464) := ⟨h6_⟩
                          have n7_ : Aside0 (gb465 ≠ gb477) := ⟨h7_⟩
                          have n8_ : Aside0 (gb477 ≠ gb465) := ⟨h8_⟩
                          have n9_ : Aside0 (Below w.heap.size w w43) := ⟨h9_⟩
                          clear BK464
                          clear BK465
                          clear HB
                          clear h0_ h1_ h2_ h3_ h4_ h5_ h6_ h7_ h8_ h9_
                          have BK464 := n0_
                          have BK465 := n1_
                          have BK477 := n2_
                          have GW477 := n3_
                          have GE477 := n4_
                          have NB464_477 := n5_
                          have NB477_464 := n6_
                          have NB465_477 := n7_
                          have NB477_465 := n8_
                          have HB := n9_
                          clear n0_ n1_ n2_ n3_ n4_ n5_ n6_ n7_ n8_ n9_
                          have hHeld : w43.cell? ⟨gb464, 0, none⟩ = some (.int .i64 a0_0) ∧ w43.cell? ⟨gb464, 1, none⟩ = some (.int .i64 a0_1) ∧ w43.cell? ⟨gb464, 2, none⟩ = some (.int .i64 a0_2) ∧ w43.cell? ⟨gb465, 0, none⟩ = some (.int .i64 a1_0) ∧ w43.cell? ⟨gb465, 1, none⟩ = some (.int .i64 a1_1) ∧ w43.cell? ⟨gb465, 2, none⟩ = some (.int .i64 a1_2) := hS_
                          refine norm_ (a' := ?_) ?_ ?_
                          rotate_left
                          · simp only [putAll, Act.put, List.setIfInBounds_toArray, List.set_cons_zero, List.set_cons_succ]
                            rfl
                          refine two_ (i := 15) (j := 16) (Ni := some 50) (Nj := some 7) (fl 16 20 [17]) (fl 15 20 [16, 17]) rfl rfl rfl rfl (two_of HT_.out (by kernel_rfl)) (by decide) (by decide) (fun K hK => ?_) (fun K hK => ?_)
                          · skip
                            refine goes_ Try.func12 (by kernel_rfl) rfl #[.agg #[.int .i64 a1_0, .int .i64 a1_1, .int .i64 a1_2], .int .i64 9999] (by rfl) rfl rfl (by (try simp only [List.map_toArray, List.map_cons, List.map_nil]); first | done | rfl | (simp only [List.length_drop, List.length_take]; rfl)) ?_
                            with_reducible refine (chattelref09_Make.calls kj21 a1_0 a1_1 a1_2 9999 t473 t474 t475 _ A27.out).mono ?_
                            rintro e w44 ⟨rfl, hb⟩
                            refine ⟨_, rfl, ?_⟩
                            replace BK464 := Aside0.mk (bb BK464.out hb)
                            replace BK465 := Aside0.mk (bb BK465.out hb)
                            replace BK477 := Aside0.mk (bb BK477.out hb)
                            replace HB := Aside0.mk (bs HB.out hb)
                            (try clear hb)
                            (try clear hb2)
                            (try clear hk)
                            (try clear hi)
                            refine hK.out _ _ ⟨(blk_cell BK464.out 0).trans rfl, (blk_cell BK464.out 1).trans rfl, (blk_cell BK464.out 2).trans rfl, (blk_cell BK465.out 0).trans rfl, (blk_cell BK465.out 1).trans rfl, (blk_cell BK465.out 2).trans rfl⟩ (fun hHeld => ?_)
                            clear hK K
                            refine norm_ (a' := ?_) ?_ ?_
                            rotate_left
                            · show Act.put _ (some 50) _ = _
                              simp only [Act.put, List.setIfInBounds_toArray, List.set_cons_zero, List.set_cons_succ, i64_w, i32_w]
                              rfl
                            exact norm_ (by first | (simp only [putAll, Act.put, List.setIfInBounds_toArray, List.set_cons_zero, List.set_cons_succ]; done) | (simp only [putAll, Act.put, List.setIfInBounds_toArray, List.set_cons_zero, List.set_cons_succ]; rfl)) (hJ7_15_17 (gb477) _ ⟨hHeld, (by (with_reducible repeat (first | refine blk_drewN ?_ _ | refine blk_drew ?_ | refine blk_alloc ?_ _)); exact BK464.out), (by (with_reducible repeat (first | refine blk_drewN ?_ _ | refine blk_drew ?_ | refine blk_alloc ?_ _)); exact BK465.out), (by (with_reducible repeat (first | refine blk_drewN ?_ _ | refine blk_drew ?_ | refine blk_alloc ?_ _)); exact BK477.out), GW477.out, GE477.out, NB464_477.out, NB477_464.out, NB465_477.out, NB477_465.out, (by repeat (first | (with_reducible first | exact HB.out | apply below_alloc | apply pw_below_drewN | apply below_drew1 | refine below_set ?_ GE464.out | refine below_set ?_ GE465.out | refine below_set ?_ GE477.out) | exact HB.out))⟩)
                          · skip
                            refine box_step ?hg (N := 7) ?hd (cs := #[.int .i64 0, .int .i64 0, .int .i64 0]) (t := 23) ?hr ?_; (case hd => rfl); (case hg => rfl); (case hr => first | (go_simp; done) | (go_simp; rfl))
                            intro gb476 hg w44 hbox hb
                            have n0_ := Aside0.mk (bb BK464.out hb)
                            have n1_ := Aside0.mk (bb BK465.out hb)
                            have n2_ := Aside0.mk (bb BK477.out hb)
                            have n3_ := Aside0.mk (bs HB.out hb)
                            have n4_ := Aside0.mk (hbox)
                            have n5_ := Aside0.mk ((by rw [hg]; exact (bz HB.out) : w.heap.size ≤ gb476))
                            have n6_ := Aside0.mk ((by rw [hg]; exact (bz HB.out) : w.heap.size ≤ gb476))
                            have n7_ := Aside0.mk ((by rw [hg]; exact Nat.ne_of_lt (blk_lt (g := gb464) (o := .cells #[.int .i64 a0_0, .int .i64 a0_1, .int .i64 a0_2] 23 (0, 0)) (by (with_reducible repeat (first | refine blk_drewN ?_ _ | refine blk_drew ?_ | refine blk_alloc ?_ _)); exact BK464.out)) : gb464 ≠ gb476))
                            have n8_ := Aside0.mk ((by rw [hg]; exact Nat.ne_of_gt (blk_lt (g := gb464) (o := .cells #[.int .i64 a0_0, .int .i64 a0_1, .int .i64 a0_2] 23 (0, 0)) (by (with_reducible repeat (first | refine blk_drewN ?_ _ | refine blk_drew ?_ | refine blk_alloc ?_ _)); exact BK464.out)) : gb476 ≠ gb464))
                            have n9_ := Aside0.mk ((by rw [hg]; exact Nat.ne_of_lt (blk_lt (g := gb465) (o := .cells #[.int .i64 a1_0, .int .i64 a1_1, .int .i64 a1_2] 23 (0, 0)) (by (with_reducible repeat (first | refine blk_drewN ?_ _ | refine blk_drew ?_ | refine blk_alloc ?_ _)); exact BK465.out)) : gb465 ≠ gb476))
                            have n10_ := Aside0.mk ((by rw [hg]; exact Nat.ne_of_gt (blk_lt (g := gb465) (o := .cells #[.int .i64 a1_0, .int .i64 a1_1, .int .i64 a1_2] 23 (0, 0)) (by (with_reducible repeat (first | refine blk_drewN ?_ _ | refine blk_drew ?_ | refine blk_alloc ?_ _)); exact BK465.out)) : gb476 ≠ gb465))
                            have n11_ := Aside0.mk ((by rw [hg]; exact Nat.ne_of_lt (blk_lt (g := gb477) (o := .cells #[.int .i64 0, .int .i64 0, .int .i64 0] 23 (0, 0)) (by (with_reducible repeat (first | refine blk_drewN ?_ _ | refine blk_drew ?_ | refine blk_alloc ?_ _)); exact BK477.out)) : gb477 ≠ gb476))
                            have n12_ := Aside0.mk ((by rw [hg]; exact Nat.ne_of_gt (blk_lt (g := gb477) (o := .cells #[.int .i64 0, .int .i64 0, .int .i64 0] 23 (0, 0)) (by (with_reducible repeat (first | refine blk_drewN ?_ _ | refine blk_drew ?_ | refine blk_alloc ?_ _)); exact BK477.out)) : gb476 ≠ gb477))
                            clear BK464
                            clear BK465
                            clear BK477
                            clear HB
                            have BK464 := n0_
                            have BK465 := n1_
                            have BK477 := n2_
                            have HB := n3_
                            have BK476 := n4_
                            have GW476 := n5_
                            have GE476 := n6_
                            have NB464_476 := n7_
                            have NB476_464 := n8_
                            have NB465_476 := n9_
                            have NB476_465 := n10_
                            have NB477_476 := n11_
                            have NB476_477 := n12_
                            clear n0_ n1_ n2_ n3_ n4_ n5_ n6_ n7_ n8_ n9_ n10_ n11_ n12_
                            clear hb hbox hg
                            refine hK.out _ _ ⟨(blk_cell BK464.out 0).trans rfl, (blk_cell BK464.out 1).trans rfl, (blk_cell BK464.out 2).trans rfl, (blk_cell BK465.out 0).trans rfl, (blk_cell BK465.out 1).trans rfl, (blk_cell BK465.out 2).trans rfl⟩ (fun hHeld => ?_)
                            clear hK K
                            refine norm_ (a' := ?_) ?_ ?_
                            rotate_left
                            · show Act.put _ (some 7) _ = _
                              simp only [Act.put, List.setIfInBounds_toArray, List.set_cons_zero, List.set_cons_succ, i64_w, i32_w]
                              rfl
                            exact norm_ (by first | (simp only [putAll, Act.put, List.setIfInBounds_toArray, List.set_cons_zero, List.set_cons_succ]; done) | (simp only [putAll, Act.put, List.setIfInBounds_toArray, List.set_cons_zero, List.set_cons_succ]; rfl)) (hJ7_16_17 (gb476, gb477) _ ⟨hHeld, (by (with_reducible repeat (first | refine blk_drewN ?_ _ | refine blk_drew ?_ | refine blk_alloc ?_ _)); exact BK464.out), (by (with_reducible repeat (first | refine blk_drewN ?_ _ | refine blk_drew ?_ | refine blk_alloc ?_ _)); exact BK465.out), (by (with_reducible repeat (first | refine blk_drewN ?_ _ | refine blk_drew ?_ | refine blk_alloc ?_ _)); exact BK476.out), (by (with_reducible repeat (first | refine blk_drewN ?_ _ | refine blk_drew ?_ | refine blk_alloc ?_ _)); exact BK477.out), GW476.out, GE476.out, NB464_476.out, NB476_464.out, NB465_476.out, NB476_465.out, NB477_476.out, NB476_477.out, GW477.out, GE477.out, NB464_477.out, NB477_464.out, NB465_477.out, NB477_465.out, (by repeat (first | (with_reducible first | exact HB.out | apply below_alloc | apply pw_below_drewN | apply below_drew1 | refine below_set ?_ GE464.out | refine below_set ?_ GE465.out | refine below_set ?_ GE477.out | refine below_set ?_ GE476.out) | exact HB.out))⟩)
                      · skip
                        rintro gb476 w43 ⟨hS_, h0_, h1_, h2_, h3_, h4_, h5_, h6_, h7_, h8_, h9_⟩
                        have n0_ : Aside0 (w43.heap[gb464]? = some (.cells #[.int .i64 a0_0, .int .i64 a0_1, .int .i64 a0_2] 23 (0, 0))) := ⟨h0_⟩
                        have n1_ : Aside0 (w43.heap[gb465]? = some (.cells #[.int .i64 a1_0, .int .i64 a1_1, .int .i64 a1_2] 23 (0, 0))) := ⟨h1_⟩
                        have n2_ : Aside0 (w43.heap[gb476]? = some (.cells #[.int .i64 0, .int .i64 0, .int .i64 0] 23 (0, 0))) := ⟨h2_⟩
                        have n3_ : Aside0 (w.heap.size ≤ gb476) := ⟨h3_⟩
                        have n4_ : Aside0 (w.heap.size ≤ gb476) := ⟨h4_⟩
                        have n5_ : Aside0 (gb464 ≠ gb476) := ⟨h5_⟩
                        have n6_ : Aside0 (gb476 ≠ gb464) := ⟨h6_⟩
                        have n7_ : Aside0 (gb465 ≠ gb476) := ⟨h7_⟩
                        have n8_ : Aside0 (gb476 ≠ gb465) := ⟨h8_⟩
                        have n9_ : Aside0 (Below w.heap.size w w43) := ⟨h9_⟩
                        clear BK464
                        clear BK465
                        clear HB
                        clear h0_ h1_ h2_ h3_ h4_ h5_ h6_ h7_ h8_ h9_
                        have BK464 := n0_
                        have BK465 := n1_
                        have BK476 := n2_
                        have GW476 := n3_
                        have GE476 := n4_
                        have NB464_476 := n5_
                        have NB476_464 := n6_
                        have NB465_476 := n7_
                        have NB476_465 := n8_
                        have HB := n9_
                        clear n0_ n1_ n2_ n3_ n4_ n5_ n6_ n7_ n8_ n9_
                        have hHeld : w43.cell? ⟨gb464, 0, none⟩ = some (.int .i64 a0_0) ∧ w43.cell? ⟨gb464, 1, none⟩ = some (.int .i64 a0_1) ∧ w43.cell? ⟨gb464, 2, none⟩ = some (.int .i64 a0_2) ∧ w43.cell? ⟨gb465, 0, none⟩ = some (.int .i64 a1_0) ∧ w43.cell? ⟨gb465, 1, none⟩ = some (.int .i64 a1_1) ∧ w43.cell? ⟨gb465, 2, none⟩ = some (.int .i64 a1_2) := hS_
                        refine norm_ (a' := ?_) ?_ ?_
                        rotate_left
                        · simp only [putAll, Act.put, List.setIfInBounds_toArray, List.set_cons_zero, List.set_cons_succ]
                          rfl
                        refine two_ (i := 15) (j := 17) (Ni := some 50) (Nj := some 8) (fl 17 20 []) (fl 15 20 [16, 17]) rfl rfl rfl rfl (two_of HT_.out (by kernel_rfl)) (by decide) (by decide) (fun K hK => ?_) (fun K hK => ?_)
                        · skip
                          refine goes_ Try.func12 (by kernel_rfl) rfl #[.agg #[.int .i64 a1_0, .int .i64 a1_1, .int .i64 a1_2], .int .i64 9999] (by rfl) rfl rfl (by (try simp only [List.map_toArray, List.map_cons, List.map_nil]); first | done | rfl | (simp only [List.length_drop, List.length_take]; rfl)) ?_
                          with_reducible refine (chattelref09_Make.calls kj21 a1_0 a1_1 a1_2 9999 t473 t474 t475 _ A27.out).mono ?_
                          rintro e w44 ⟨rfl, hb⟩
                          refine ⟨_, rfl, ?_⟩
                          replace BK464 := Aside0.mk (bb BK464.out hb)
                          replace BK465 := Aside0.mk (bb BK465.out hb)
                          replace BK476 := Aside0.mk (bb BK476.out hb)
                          replace HB := Aside0.mk (bs HB.out hb)
                          (try clear hb)
                          (try clear hb2)
                          (try clear hk)
                          (try clear hi)
                          refine hK.out _ _ ⟨(blk_cell BK464.out 0).trans rfl, (blk_cell BK464.out 1).trans rfl, (blk_cell BK464.out 2).trans rfl, (blk_cell BK465.out 0).trans rfl, (blk_cell BK465.out 1).trans rfl, (blk_cell BK465.out 2).trans rfl⟩ (fun hHeld => ?_)
                          clear hK K
                          refine norm_ (a' := ?_) ?_ ?_
                          rotate_left
                          · show Act.put _ (some 50) _ = _
                            simp only [Act.put, List.setIfInBounds_toArray, List.set_cons_zero, List.set_cons_succ, i64_w, i32_w]
                            rfl
                          exact norm_ (by first | (simp only [putAll, Act.put, List.setIfInBounds_toArray, List.set_cons_zero, List.set_cons_succ]; done) | (simp only [putAll, Act.put, List.setIfInBounds_toArray, List.set_cons_zero, List.set_cons_succ]; rfl)) (hJ7_15_16 (gb476) _ ⟨hHeld, (by (with_reducible repeat (first | refine blk_drewN ?_ _ | refine blk_drew ?_ | refine blk_alloc ?_ _)); exact BK464.out), (by (with_reducible repeat (first | refine blk_drewN ?_ _ | refine blk_drew ?_ | refine blk_alloc ?_ _)); exact BK465.out), (by (with_reducible repeat (first | refine blk_drewN ?_ _ | refine blk_drew ?_ | refine blk_alloc ?_ _)); exact BK476.out), GW476.out, GE476.out, NB464_476.out, NB476_464.out, NB465_476.out, NB476_465.out, (by repeat (first | (with_reducible first | exact HB.out | apply below_alloc | apply pw_below_drewN | apply below_drew1 | refine below_set ?_ GE464.out | refine below_set ?_ GE465.out | refine below_set ?_ GE476.out) | exact HB.out))⟩)
                        · skip
                          refine box_step ?hg (N := 8) ?hd (cs := #[.int .i64 0, .int .i64 0, .int .i64 0]) (t := 23) ?hr ?_; (case hd => rfl); (case hg => rfl); (case hr => first | (go_simp; done) | (go_simp; rfl))
                          intro gb477 hg w44 hbox hb
                          have n0_ := Aside0.mk (bb BK464.out hb)
                          have n1_ := Aside0.mk (bb BK465.out hb)
                          have n2_ := Aside0.mk (bb BK476.out hb)
                          have n3_ := Aside0.mk (bs HB.out hb)
                          have n4_ := Aside0.mk (hbox)
                          have n5_ := Aside0.mk ((by rw [hg]; exact (bz HB.out) : w.heap.size ≤ gb477))
                          have n6_ := Aside0.mk ((by rw [hg]; exact (bz HB.out) : w.heap.size ≤ gb477))
                          have n7_ := Aside0.mk ((by rw [hg]; exact Nat.ne_of_lt (blk_lt (g := gb464) (o := .cells #[.int .i64 a0_0, .int .i64 a0_1, .int .i64 a0_2] 23 (0, 0)) (by (with_reducible repeat (first | refine blk_drewN ?_ _ | refine blk_drew ?_ | refine blk_alloc ?_ _)); exact BK464.out)) : gb464 ≠ gb477))
                          have n8_ := Aside0.mk ((by rw [hg]; exact Nat.ne_of_gt (blk_lt (g := gb464) (o := .cells #[.int .i64 a0_0, .int .i64 a0_1, .int .i64 a0_2] 23 (0, 0)) (by (with_reducible repeat (first | refine blk_drewN ?_ _ | refine blk_drew ?_ | refine blk_alloc ?_ _)); exact BK464.out)) : gb477 ≠ gb464))
                          have n9_ := Aside0.mk ((by rw [hg]; exact Nat.ne_of_lt (blk_lt (g := gb465) (o := .cells #[.int .i64 a1_0, .int .i64 a1_1, .int .i64 a1_2] 23 (0, 0)) (by (with_reducible repeat (first | refine blk_drewN ?_ _ | refine blk_drew ?_ | refine blk_alloc ?_ _)); exact BK465.out)) : gb465 ≠ gb477))
                          have n10_ := Aside0.mk ((by rw [hg]; exact Nat.ne_of_gt (blk_lt (g := gb465) (o := .cells #[.int .i64 a1_0, .int .i64 a1_1, .int .i64 a1_2] 23 (0, 0)) (by (with_reducible repeat (first | refine blk_drewN ?_ _ | refine blk_drew ?_ | refine blk_alloc ?_ _)); exact BK465.out)) : gb477 ≠ gb465))
                          have n11_ := Aside0.mk ((by rw [hg]; exact Nat.ne_of_lt (blk_lt (g := gb476) (o := .cells #[.int .i64 0, .int .i64 0, .int .i64 0] 23 (0, 0)) (by (with_reducible repeat (first | refine blk_drewN ?_ _ | refine blk_drew ?_ | refine blk_alloc ?_ _)); exact BK476.out)) : gb476 ≠ gb477))
                          have n12_ := Aside0.mk ((by rw [hg]; exact Nat.ne_of_gt (blk_lt (g := gb476) (o := .cells #[.int .i64 0, .int .i64 0, .int .i64 0] 23 (0, 0)) (by (with_reducible repeat (first | refine blk_drewN ?_ _ | refine blk_drew ?_ | refine blk_alloc ?_ _)); exact BK476.out)) : gb477 ≠ gb476))
                          clear BK464
                          clear BK465
                          clear BK476
                          clear HB
                          have BK464 := n0_
                          have BK465 := n1_
                          have BK476 := n2_
                          have HB := n3_
                          have BK477 := n4_
                          have GW477 := n5_
                          have GE477 := n6_
                          have NB464_477 := n7_
                          have NB477_464 := n8_
                          have NB465_477 := n9_
                          have NB477_465 := n10_
                          have NB476_477 := n11_
                          have NB477_476 := n12_
                          clear n0_ n1_ n2_ n3_ n4_ n5_ n6_ n7_ n8_ n9_ n10_ n11_ n12_
                          clear hb hbox hg
                          refine hK.out _ _ ⟨(blk_cell BK464.out 0).trans rfl, (blk_cell BK464.out 1).trans rfl, (blk_cell BK464.out 2).trans rfl, (blk_cell BK465.out 0).trans rfl, (blk_cell BK465.out 1).trans rfl, (blk_cell BK465.out 2).trans rfl⟩ (fun hHeld => ?_)
                          clear hK K
                          refine norm_ (a' := ?_) ?_ ?_
                          rotate_left
                          · show Act.put _ (some 8) _ = _
                            simp only [Act.put, List.setIfInBounds_toArray, List.set_cons_zero, List.set_cons_succ, i64_w, i32_w]
                            rfl
                          exact norm_ (by first | (simp only [putAll, Act.put, List.setIfInBounds_toArray, List.set_cons_zero, List.set_cons_succ]; done) | (simp only [putAll, Act.put, List.setIfInBounds_toArray, List.set_cons_zero, List.set_cons_succ]; rfl)) (hJ7_16_17 (gb476, gb477) _ ⟨hHeld, (by (with_reducible repeat (first | refine blk_drewN ?_ _ | refine blk_drew ?_ | refine blk_alloc ?_ _)); exact BK464.out), (by (with_reducible repeat (first | refine blk_drewN ?_ _ | refine blk_drew ?_ | refine blk_alloc ?_ _)); exact BK465.out), (by (with_reducible repeat (first | refine blk_drewN ?_ _ | refine blk_drew ?_ | refine blk_alloc ?_ _)); exact BK476.out), (by (with_reducible repeat (first | refine blk_drewN ?_ _ | refine blk_drew ?_ | refine blk_alloc ?_ _)); exact BK477.out), GW476.out, GE476.out, NB464_476.out, NB476_464.out, NB465_476.out, NB476_465.out, NB477_476.out, NB476_477.out, GW477.out, GE477.out, NB464_477.out, NB477_464.out, NB465_477.out, NB477_465.out, (by repeat (first | (with_reducible first | exact HB.out | apply below_alloc | apply pw_below_drewN | apply below_drew1 | refine below_set ?_ GE464.out | refine below_set ?_ GE465.out | refine below_set ?_ GE476.out | refine below_set ?_ GE477.out) | exact HB.out))⟩)
                    · skip
                      rintro _ w43 ⟨hS_, h0_, h1_, h2_⟩
                      have n0_ : Aside0 (w43.heap[gb464]? = some (.cells #[.int .i64 a0_0, .int .i64 a0_1, .int .i64 a0_2] 23 (0, 0))) := ⟨h0_⟩
                      have n1_ : Aside0 (w43.heap[gb465]? = some (.cells #[.int .i64 a1_0, .int .i64 a1_1, .int .i64 a1_2] 23 (0, 0))) := ⟨h1_⟩
                      have n2_ : Aside0 (Below w.heap.size w w43) := ⟨h2_⟩
                      clear BK464
                      clear BK465
                      clear HB
                      clear h0_ h1_ h2_
                      have BK464 := n0_
                      have BK465 := n1_
                      have HB := n2_
                      clear n0_ n1_ n2_
                      have hHeld : w43.cell? ⟨gb464, 0, none⟩ = some (.int .i64 a0_0) ∧ w43.cell? ⟨gb464, 1, none⟩ = some (.int .i64 a0_1) ∧ w43.cell? ⟨gb464, 2, none⟩ = some (.int .i64 a0_2) ∧ w43.cell? ⟨gb465, 0, none⟩ = some (.int .i64 a1_0) ∧ w43.cell? ⟨gb465, 1, none⟩ = some (.int .i64 a1_1) ∧ w43.cell? ⟨gb465, 2, none⟩ = some (.int .i64 a1_2) := hS_
                      refine norm_ (a' := ?_) ?_ ?_
                      rotate_left
                      · simp only [putAll, Act.put, List.setIfInBounds_toArray, List.set_cons_zero, List.set_cons_succ]
                        rfl
                      refine two_ (i := 16) (j := 17) (Ni := some 7) (Nj := some 8) (fl 17 20 []) (fl 16 20 [17]) rfl rfl rfl rfl (two_of HT_.out (by kernel_rfl)) (by decide) (by decide) (fun K hK => ?_) (fun K hK => ?_)
                      · skip
                        refine box_step ?hg (N := 7) ?hd (cs := #[.int .i64 0, .int .i64 0, .int .i64 0]) (t := 23) ?hr ?_; (case hd => rfl); (case hg => rfl); (case hr => first | (go_simp; done) | (go_simp; rfl))
                        intro gb476 hg w44 hbox hb
                        have n0_ := Aside0.mk (bb BK464.out hb)
                        have n1_ := Aside0.mk (bb BK465.out hb)
                        have n2_ := Aside0.mk (bs HB.out hb)
                        have n3_ := Aside0.mk (hbox)
                        have n4_ := Aside0.mk ((by rw [hg]; exact (bz HB.out) : w.heap.size ≤ gb476))
                        have n5_ := Aside0.mk ((by rw [hg]; exact (bz HB.out) : w.heap.size ≤ gb476))
                        have n6_ := Aside0.mk ((by rw [hg]; exact Nat.ne_of_lt (blk_lt (g := gb464) (o := .cells #[.int .i64 a0_0, .int .i64 a0_1, .int .i64 a0_2] 23 (0, 0)) (by (with_reducible repeat (first | refine blk_drewN ?_ _ | refine blk_drew ?_ | refine blk_alloc ?_ _)); exact BK464.out)) : gb464 ≠ gb476))
                        have n7_ := Aside0.mk ((by rw [hg]; exact Nat.ne_of_gt (blk_lt (g := gb464) (o := .cells #[.int .i64 a0_0, .int .i64 a0_1, .int .i64 a0_2] 23 (0, 0)) (by (with_reducible repeat (first | refine blk_drewN ?_ _ | refine blk_drew ?_ | refine blk_alloc ?_ _)); exact BK464.out)) : gb476 ≠ gb464))
                        have n8_ := Aside0.mk ((by rw [hg]; exact Nat.ne_of_lt (blk_lt (g := gb465) (o := .cells #[.int .i64 a1_0, .int .i64 a1_1, .int .i64 a1_2] 23 (0, 0)) (by (with_reducible repeat (first | refine blk_drewN ?_ _ | refine blk_drew ?_ | refine blk_alloc ?_ _)); exact BK465.out)) : gb465 ≠ gb476))
                        have n9_ := Aside0.mk ((by rw [hg]; exact Nat.ne_of_gt (blk_lt (g := gb465) (o := .cells #[.int .i64 a1_0, .int .i64 a1_1, .int .i64 a1_2] 23 (0, 0)) (by (with_reducible repeat (first | refine blk_drewN ?_ _ | refine blk_drew ?_ | refine blk_alloc ?_ _)); exact BK465.out)) : gb476 ≠ gb465))
                        clear BK464
                        clear BK465
                        clear HB
                        have BK464 := n0_
                        have BK465 := n1_
                        have HB := n2_
                        have BK476 := n3_
                        have GW476 := n4_
                        have GE476 := n5_
                        have NB464_476 := n6_
                        have NB476_464 := n7_
                        have NB465_476 := n8_
                        have NB476_465 := n9_
                        clear n0_ n1_ n2_ n3_ n4_ n5_ n6_ n7_ n8_ n9_
                        clear hb hbox hg
                        refine hK.out _ _ ⟨(blk_cell BK464.out 0).trans rfl, (blk_cell BK464.out 1).trans rfl, (blk_cell BK464.out 2).trans rfl, (blk_cell BK465.out 0).trans rfl, (blk_cell BK465.out 1).trans rfl, (blk_cell BK465.out 2).trans rfl⟩ (fun hHeld => ?_)
                        clear hK K
                        refine norm_ (a' := ?_) ?_ ?_
                        rotate_left
                        · show Act.put _ (some 7) _ = _
                          simp only [Act.put, List.setIfInBounds_toArray, List.set_cons_zero, List.set_cons_succ, i64_w, i32_w]
                          rfl
                        exact norm_ (by first | (simp only [putAll, Act.put, List.setIfInBounds_toArray, List.set_cons_zero, List.set_cons_succ]; done) | (simp only [putAll, Act.put, List.setIfInBounds_toArray, List.set_cons_zero, List.set_cons_succ]; rfl)) (hJ7_15_16 (gb476) _ ⟨hHeld, (by (with_reducible repeat (first | refine blk_drewN ?_ _ | refine blk_drew ?_ | refine blk_alloc ?_ _)); exact BK464.out), (by (with_reducible repeat (first | refine blk_drewN ?_ _ | refine blk_drew ?_ | refine blk_alloc ?_ _)); exact BK465.out), (by (with_reducible repeat (first | refine blk_drewN ?_ _ | refine blk_drew ?_ | refine blk_alloc ?_ _)); exact BK476.out), GW476.out, GE476.out, NB464_476.out, NB476_464.out, NB465_476.out, NB476_465.out, (by repeat (first | (with_reducible first | exact HB.out | apply below_alloc | apply pw_below_drewN | apply below_drew1 | refine below_set ?_ GE464.out | refine below_set ?_ GE465.out | refine below_set ?_ GE476.out) | exact HB.out))⟩)
                      · skip
                        refine box_step ?hg (N := 8) ?hd (cs := #[.int .i64 0, .int .i64 0, .int .i64 0]) (t := 23) ?hr ?_; (case hd => rfl); (case hg => rfl); (case hr => first | (go_simp; done) | (go_simp; rfl))
                        intro gb477 hg w44 hbox hb
                        have n0_ := Aside0.mk (bb BK464.out hb)
                        have n1_ := Aside0.mk (bb BK465.out hb)
                        have n2_ := Aside0.mk (bs HB.out hb)
                        have n3_ := Aside0.mk (hbox)
                        have n4_ := Aside0.mk ((by rw [hg]; exact (bz HB.out) : w.heap.size ≤ gb477))
                        have n5_ := Aside0.mk ((by rw [hg]; exact (bz HB.out) : w.heap.size ≤ gb477))
                        have n6_ := Aside0.mk ((by rw [hg]; exact Nat.ne_of_lt (blk_lt (g := gb464) (o := .cells #[.int .i64 a0_0, .int .i64 a0_1, .int .i64 a0_2] 23 (0, 0)) (by (with_reducible repeat (first | refine blk_drewN ?_ _ | refine blk_drew ?_ | refine blk_alloc ?_ _)); exact BK464.out)) : gb464 ≠ gb477))
                        have n7_ := Aside0.mk ((by rw [hg]; exact Nat.ne_of_gt (blk_lt (g := gb464) (o := .cells #[.int .i64 a0_0, .int .i64 a0_1, .int .i64 a0_2] 23 (0, 0)) (by (with_reducible repeat (first | refine blk_drewN ?_ _ | refine blk_drew ?_ | refine blk_alloc ?_ _)); exact BK464.out)) : gb477 ≠ gb464))
                        have n8_ := Aside0.mk ((by rw [hg]; exact Nat.ne_of_lt (blk_lt (g := gb465) (o := .cells #[.int .i64 a1_0, .int .i64 a1_1, .int .i64 a1_2] 23 (0, 0)) (by (with_reducible repeat (first | refine blk_drewN ?_ _ | refine blk_drew ?_ | refine blk_alloc ?_ _)); exact BK465.out)) : gb465 ≠ gb477))
                        have n9_ := Aside0.mk ((by rw [hg]; exact Nat.ne_of_gt (blk_lt (g := gb465) (o := .cells #[.int .i64 a1_0, .int .i64 a1_1, .int .i64 a1_2] 23 (0, 0)) (by (with_reducible repeat (first | refine blk_drewN ?_ _ | refine blk_drew ?_ | refine blk_alloc ?_ _)); exact BK465.out)) : gb477 ≠ gb465))
                        clear BK464
                        clear BK465
                        clear HB
                        have BK464 := n0_
                        have BK465 := n1_
                        have HB := n2_
                        have BK477 := n3_
                        have GW477 := n4_
                        have GE477 := n5_
                        have NB464_477 := n6_
                        have NB477_464 := n7_
                        have NB465_477 := n8_
                        have NB477_465 := n9_
                        clear n0_ n1_ n2_ n3_ n4_ n5_ n6_ n7_ n8_ n9_
                        clear hb hbox hg
                        refine hK.out _ _ ⟨(blk_cell BK464.out 0).trans rfl, (blk_cell BK464.out 1).trans rfl, (blk_cell BK464.out 2).trans rfl, (blk_cell BK465.out 0).trans rfl, (blk_cell BK465.out 1).trans rfl, (blk_cell BK465.out 2).trans rfl⟩ (fun hHeld => ?_)
                        clear hK K
                        refine norm_ (a' := ?_) ?_ ?_
                        rotate_left
                        · show Act.put _ (some 8) _ = _
                          simp only [Act.put, List.setIfInBounds_toArray, List.set_cons_zero, List.set_cons_succ, i64_w, i32_w]
                          rfl
                        exact norm_ (by first | (simp only [putAll, Act.put, List.setIfInBounds_toArray, List.set_cons_zero, List.set_cons_succ]; done) | (simp only [putAll, Act.put, List.setIfInBounds_toArray, List.set_cons_zero, List.set_cons_succ]; rfl)) (hJ7_15_17 (gb477) _ ⟨hHeld, (by (with_reducible repeat (first | refine blk_drewN ?_ _ | refine blk_drew ?_ | refine blk_alloc ?_ _)); exact BK464.out), (by (with_reducible repeat (first | refine blk_drewN ?_ _ | refine blk_drew ?_ | refine blk_alloc ?_ _)); exact BK465.out), (by (with_reducible repeat (first | refine blk_drewN ?_ _ | refine blk_drew ?_ | refine blk_alloc ?_ _)); exact BK477.out), GW477.out, GE477.out, NB464_477.out, NB477_464.out, NB465_477.out, NB477_465.out, (by repeat (first | (with_reducible first | exact HB.out | apply below_alloc | apply pw_below_drewN | apply below_drew1 | refine below_set ?_ GE464.out | refine below_set ?_ GE465.out | refine below_set ?_ GE477.out) | exact HB.out))⟩)
                  · skip
                    rintro ⟨gb476, gb477⟩ w44 ⟨hS_, h0_, h1_, h2_, h3_, h4_, h5_, h6_, h7_, h8_, h9_, h10_, h11_, h12_, h13_, h14_, h15_, h16_, h17_, h18_⟩
                    have n0_ : Aside0 (w44.heap[gb464]? = some (.cells #[.int .i64 a0_0, .int .i64 a0_1, .int .i64 a0_2] 23 (0, 0))) := ⟨h0_⟩
                    have n1_ : Aside0 (w44.heap[gb465]? = some (.cells #[.int .i64 a1_0, .int .i64 a1_1, .int .i64 a1_2] 23 (0, 0))) := ⟨h1_⟩
                    have n2_ : Aside0 (w44.heap[gb476]? = some (.cells #[.int .i64 0, .int .i64 0, .int .i64 0] 23 (0, 0))) := ⟨h2_⟩
                    have n3_ : Aside0 (w44.heap[gb477]? = some (.cells #[.int .i64 0, .int .i64 0, .int .i64 0] 23 (0, 0))) := ⟨h3_⟩
                    have n4_ : Aside0 (w.heap.size ≤ gb476) := ⟨h4_⟩
                    have n5_ : Aside0 (w.heap.size ≤ gb476) := ⟨h5_⟩
                    have n6_ : Aside0 (gb464 ≠ gb476) := ⟨h6_⟩
                    have n7_ : Aside0 (gb476 ≠ gb464) := ⟨h7_⟩
                    have n8_ : Aside0 (gb465 ≠ gb476) := ⟨h8_⟩
                    have n9_ : Aside0 (gb476 ≠ gb465) := ⟨h9_⟩
                    have n10_ : Aside0 (gb477 ≠ gb476) := ⟨h10_⟩
                    have n11_ : Aside0 (gb476 ≠ gb477) := ⟨h11_⟩
                    have n12_ : Aside0 (w.heap.size ≤ gb477) := ⟨h12_⟩
                    have n13_ : Aside0 (w.heap.size ≤ gb477) := ⟨h13_⟩
                    have n14_ : Aside0 (gb464 ≠ gb477) := ⟨h14_⟩
                    have n15_ : Aside0 (gb477 ≠ gb464) := ⟨h15_⟩
                    have n16_ : Aside0 (gb465 ≠ gb477) := ⟨h16_⟩
                    have n17_ : Aside0 (gb477 ≠ gb465) := ⟨h17_⟩
                    have n18_ : Aside0 (Below w.heap.size w w44) := ⟨h18_⟩
                    clear BK464
                    clear BK465
                    clear HB
                    clear h0_ h1_ h2_ h3_ h4_ h5_ h6_ h7_ h8_ h9_ h10_ h11_ h12_ h13_ h14_ h15_ h16_ h17_ h18_
                    have BK464 := n0_
                    have BK465 := n1_
                    have BK476 := n2_
                    have BK477 := n3_
                    have GW476 := n4_
                    have GE476 := n5_
                    have NB464_476 := n6_
                    have NB476_464 := n7_
                    have NB465_476 := n8_
                    have NB476_465 := n9_
                    have NB477_476 := n10_
                    have NB476_477 := n11_
                    have GW477 := n12_
                    have GE477 := n13_
                    have NB464_477 := n14_
                    have NB477_464 := n15_
                    have NB465_477 := n16_
                    have NB477_465 := n17_
                    have HB := n18_
                    clear n0_ n1_ n2_ n3_ n4_ n5_ n6_ n7_ n8_ n9_ n10_ n11_ n12_ n13_ n14_ n15_ n16_ n17_ n18_
                    have hHeld : w44.cell? ⟨gb464, 0, none⟩ = some (.int .i64 a0_0) ∧ w44.cell? ⟨gb464, 1, none⟩ = some (.int .i64 a0_1) ∧ w44.cell? ⟨gb464, 2, none⟩ = some (.int .i64 a0_2) ∧ w44.cell? ⟨gb465, 0, none⟩ = some (.int .i64 a1_0) ∧ w44.cell? ⟨gb465, 1, none⟩ = some (.int .i64 a1_1) ∧ w44.cell? ⟨gb465, 2, none⟩ = some (.int .i64 a1_2) := hS_
                    refine norm_ (a' := ?_) ?_ ?_
                    rotate_left
                    · simp only [putAll, Act.put, List.setIfInBounds_toArray, List.set_cons_zero, List.set_cons_succ]
                      rfl
                    refine one_ (i := 15) (N := some 50) (fl 18 20 []) rfl rfl (one_of HT_.out (by kernel_rfl)) (by decide) (fun K hK => ?_)
                    refine goes_ Try.func12 (by kernel_rfl) rfl #[.agg #[.int .i64 a1_0, .int .i64 a1_1, .int .i64 a1_2], .int .i64 9999] (by rfl) rfl rfl (by (try simp only [List.map_toArray, List.map_cons, List.map_nil]); first | done | rfl | (simp only [List.length_drop, List.length_take]; rfl)) ?_
                    with_reducible refine (chattelref09_Make.calls kj21 a1_0 a1_1 a1_2 9999 t473 t474 t475 _ A27.out).mono ?_
                    rintro e w45 ⟨rfl, hb⟩
                    refine ⟨_, rfl, ?_⟩
                    replace BK464 := Aside0.mk (bb BK464.out hb)
                    replace BK465 := Aside0.mk (bb BK465.out hb)
                    replace BK476 := Aside0.mk (bb BK476.out hb)
                    replace BK477 := Aside0.mk (bb BK477.out hb)
                    replace HB := Aside0.mk (bs HB.out hb)
                    (try clear hb)
                    (try clear hb2)
                    (try clear hk)
                    (try clear hi)
                    refine hK.out _ _ ⟨(blk_cell BK464.out 0).trans rfl, (blk_cell BK464.out 1).trans rfl, (blk_cell BK464.out 2).trans rfl, (blk_cell BK465.out 0).trans rfl, (blk_cell BK465.out 1).trans rfl, (blk_cell BK465.out 2).trans rfl⟩ (fun hHeld => ?_)
                    clear hK K
                    refine norm_ (a' := ?_) ?_ ?_
                    rotate_left
                    · show Act.put _ (some 50) _ = _
                      simp only [Act.put, List.setIfInBounds_toArray, List.set_cons_zero, List.set_cons_succ, i64_w, i32_w]
                      rfl
                    exact norm_ (by first | (simp only [putAll, Act.put, List.setIfInBounds_toArray, List.set_cons_zero, List.set_cons_succ]; done) | (simp only [putAll, Act.put, List.setIfInBounds_toArray, List.set_cons_zero, List.set_cons_succ]; rfl)) (hJ7_15_16_17 (gb476, gb477) _ ⟨hHeld, (by (with_reducible repeat (first | refine blk_drewN ?_ _ | refine blk_drew ?_ | refine blk_alloc ?_ _)); exact BK464.out), (by (with_reducible repeat (first | refine blk_drewN ?_ _ | refine blk_drew ?_ | refine blk_alloc ?_ _)); exact BK465.out), (by (with_reducible repeat (first | refine blk_drewN ?_ _ | refine blk_drew ?_ | refine blk_alloc ?_ _)); exact BK476.out), (by (with_reducible repeat (first | refine blk_drewN ?_ _ | refine blk_drew ?_ | refine blk_alloc ?_ _)); exact BK477.out), GW476.out, GE476.out, NB464_476.out, NB476_464.out, NB465_476.out, NB476_465.out, NB477_476.out, NB476_477.out, GW477.out, GE477.out, NB464_477.out, NB477_464.out, NB465_477.out, NB477_465.out, (by repeat (first | (with_reducible first | exact HB.out | apply below_alloc | apply pw_below_drewN | apply below_drew1 | refine below_set ?_ GE464.out | refine below_set ?_ GE465.out | refine below_set ?_ GE476.out | refine below_set ?_ GE477.out) | exact HB.out))⟩)
                · skip
                  rintro gb477 w44 ⟨hS_, h0_, h1_, h2_, h3_, h4_, h5_, h6_, h7_, h8_, h9_⟩
                  have n0_ : Aside0 (w44.heap[gb464]? = some (.cells #[.int .i64 a0_0, .int .i64 a0_1, .int .i64 a0_2] 23 (0, 0))) := ⟨h0_⟩
                  have n1_ : Aside0 (w44.heap[gb465]? = some (.cells #[.int .i64 a1_0, .int .i64 a1_1, .int .i64 a1_2] 23 (0, 0))) := ⟨h1_⟩
                  have n2_ : Aside0 (w44.heap[gb477]? = some (.cells #[.int .i64 0, .int .i64 0, .int .i64 0] 23 (0, 0))) := ⟨h2_⟩
                  have n3_ : Aside0 (w.heap.size ≤ gb477) := ⟨h3_⟩
                  have n4_ : Aside0 (w.heap.size ≤ gb477) := ⟨h4_⟩
                  have n5_ : Aside0 (gb464 ≠ gb477) := ⟨h5_⟩
                  have n6_ : Aside0 (gb477 ≠ gb464) := ⟨h6_⟩
                  have n7_ : Aside0 (gb465 ≠ gb477) := ⟨h7_⟩
                  have n8_ : Aside0 (gb477 ≠ gb465) := ⟨h8_⟩
                  have n9_ : Aside0 (Below w.heap.size w w44) := ⟨h9_⟩
                  clear BK464
                  clear BK465
                  clear HB
                  clear h0_ h1_ h2_ h3_ h4_ h5_ h6_ h7_ h8_ h9_
                  have BK464 := n0_
                  have BK465 := n1_
                  have BK477 := n2_
                  have GW477 := n3_
                  have GE477 := n4_
                  have NB464_477 := n5_
                  have NB477_464 := n6_
                  have NB465_477 := n7_
                  have NB477_465 := n8_
                  have HB := n9_
                  clear n0_ n1_ n2_ n3_ n4_ n5_ n6_ n7_ n8_ n9_
                  have hHeld : w44.cell? ⟨gb464, 0, none⟩ = some (.int .i64 a0_0) ∧ w44.cell? ⟨gb464, 1, none⟩ = some (.int .i64 a0_1) ∧ w44.cell? ⟨gb464, 2, none⟩ = some (.int .i64 a0_2) ∧ w44.cell? ⟨gb465, 0, none⟩ = some (.int .i64 a1_0) ∧ w44.cell? ⟨gb465, 1, none⟩ = some (.int .i64 a1_1) ∧ w44.cell? ⟨gb465, 2, none⟩ = some (.int .i64 a1_2) := hS_
                  refine norm_ (a' := ?_) ?_ ?_
                  rotate_left
                  · simp only [putAll, Act.put, List.setIfInBounds_toArray, List.set_cons_zero, List.set_cons_succ]
                    rfl
                  refine one_ (i := 16) (N := some 7) (fl 18 20 []) rfl rfl (one_of HT_.out (by kernel_rfl)) (by decide) (fun K hK => ?_)
                  refine box_step ?hg (N := 7) ?hd (cs := #[.int .i64 0, .int .i64 0, .int .i64 0]) (t := 23) ?hr ?_; (case hd => rfl); (case hg => rfl); (case hr => first | (go_simp; done) | (go_simp; rfl))
                  intro gb476 hg w45 hbox hb
                  have n0_ := Aside0.mk (bb BK464.out hb)
                  have n1_ := Aside0.mk (bb BK465.out hb)
                  have n2_ := Aside0.mk (bb BK477.out hb)
                  have n3_ := Aside0.mk (bs HB.out hb)
                  have n4_ := Aside0.mk (hbox)
                  have n5_ := Aside0.mk ((by rw [hg]; exact (bz HB.out) : w.heap.size ≤ gb476))
                  have n6_ := Aside0.mk ((by rw [hg]; exact (bz HB.out) : w.heap.size ≤ gb476))
                  have n7_ := Aside0.mk ((by rw [hg]; exact Nat.ne_of_lt (blk_lt (g := gb464) (o := .cells #[.int .i64 a0_0, .int .i64 a0_1, .int .i64 a0_2] 23 (0, 0)) (by (with_reducible repeat (first | refine blk_drewN ?_ _ | refine blk_drew ?_ | refine blk_alloc ?_ _)); exact BK464.out)) : gb464 ≠ gb476))
                  have n8_ := Aside0.mk ((by rw [hg]; exact Nat.ne_of_gt (blk_lt (g := gb464) (o := .cells #[.int .i64 a0_0, .int .i64 a0_1, .int .i64 a0_2] 23 (0, 0)) (by (with_reducible repeat (first | refine blk_drewN ?_ _ | refine blk_drew ?_ | refine blk_alloc ?_ _)); exact BK464.out)) : gb476 ≠ gb464))
                  have n9_ := Aside0.mk ((by rw [hg]; exact Nat.ne_of_lt (blk_lt (g := gb465) (o := .cells #[.int .i64 a1_0, .int .i64 a1_1, .int .i64 a1_2] 23 (0, 0)) (by (with_reducible repeat (first | refine blk_drewN ?_ _ | refine blk_drew ?_ | refine blk_alloc ?_ _)); exact BK465.out)) : gb465 ≠ gb476))
                  have n10_ := Aside0.mk ((by rw [hg]; exact Nat.ne_of_gt (blk_lt (g := gb465) (o := .cells #[.int .i64 a1_0, .int .i64 a1_1, .int .i64 a1_2] 23 (0, 0)) (by (with_reducible repeat (first | refine blk_drewN ?_ _ | refine blk_drew ?_ | refine blk_alloc ?_ _)); exact BK465.out)) : gb476 ≠ gb465))
                  have n11_ := Aside0.mk ((by rw [hg]; exact Nat.ne_of_lt (blk_lt (g := gb477) (o := .cells #[.int .i64 0, .int .i64 0, .int .i64 0] 23 (0, 0)) (by (with_reducible repeat (first | refine blk_drewN ?_ _ | refine blk_drew ?_ | refine blk_alloc ?_ _)); exact BK477.out)) : gb477 ≠ gb476))
                  have n12_ := Aside0.mk ((by rw [hg]; exact Nat.ne_of_gt (blk_lt (g := gb477) (o := .cells #[.int .i64 0, .int .i64 0, .int .i64 0] 23 (0, 0)) (by (with_reducible repeat (first | refine blk_drewN ?_ _ | refine blk_drew ?_ | refine blk_alloc ?_ _)); exact BK477.out)) : gb476 ≠ gb477))
                  clear BK464
                  clear BK465
                  clear BK477
                  clear HB
                  have BK464 := n0_
                  have BK465 := n1_
                  have BK477 := n2_
                  have HB := n3_
                  have BK476 := n4_
                  have GW476 := n5_
                  have GE476 := n6_
                  have NB464_476 := n7_
                  have NB476_464 := n8_
                  have NB465_476 := n9_
                  have NB476_465 := n10_
                  have NB477_476 := n11_
                  have NB476_477 := n12_
                  clear n0_ n1_ n2_ n3_ n4_ n5_ n6_ n7_ n8_ n9_ n10_ n11_ n12_
                  clear hb hbox hg
                  refine hK.out _ _ ⟨(blk_cell BK464.out 0).trans rfl, (blk_cell BK464.out 1).trans rfl, (blk_cell BK464.out 2).trans rfl, (blk_cell BK465.out 0).trans rfl, (blk_cell BK465.out 1).trans rfl, (blk_cell BK465.out 2).trans rfl⟩ (fun hHeld => ?_)
                  clear hK K
                  refine norm_ (a' := ?_) ?_ ?_
                  rotate_left
                  · show Act.put _ (some 7) _ = _
                    simp only [Act.put, List.setIfInBounds_toArray, List.set_cons_zero, List.set_cons_succ, i64_w, i32_w]
                    rfl
                  exact norm_ (by first | (simp only [putAll, Act.put, List.setIfInBounds_toArray, List.set_cons_zero, List.set_cons_succ]; done) | (simp only [putAll, Act.put, List.setIfInBounds_toArray, List.set_cons_zero, List.set_cons_succ]; rfl)) (hJ7_15_16_17 (gb476, gb477) _ ⟨hHeld, (by (with_reducible repeat (first | refine blk_drewN ?_ _ | refine blk_drew ?_ | refine blk_alloc ?_ _)); exact BK464.out), (by (with_reducible repeat (first | refine blk_drewN ?_ _ | refine blk_drew ?_ | refine blk_alloc ?_ _)); exact BK465.out), (by (with_reducible repeat (first | refine blk_drewN ?_ _ | refine blk_drew ?_ | refine blk_alloc ?_ _)); exact BK476.out), (by (with_reducible repeat (first | refine blk_drewN ?_ _ | refine blk_drew ?_ | refine blk_alloc ?_ _)); exact BK477.out), GW476.out, GE476.out, NB464_476.out, NB476_464.out, NB465_476.out, NB476_465.out, NB477_476.out, NB476_477.out, GW477.out, GE477.out, NB464_477.out, NB477_464.out, NB465_477.out, NB477_465.out, (by repeat (first | (with_reducible first | exact HB.out | apply below_alloc | apply pw_below_drewN | apply below_drew1 | refine below_set ?_ GE464.out | refine below_set ?_ GE465.out | refine below_set ?_ GE477.out | refine below_set ?_ GE476.out) | exact HB.out))⟩)
              · skip
                rintro gb476 w44 ⟨hS_, h0_, h1_, h2_, h3_, h4_, h5_, h6_, h7_, h8_, h9_⟩
                have n0_ : Aside0 (w44.heap[gb464]? = some (.cells #[.int .i64 a0_0, .int .i64 a0_1, .int .i64 a0_2] 23 (0, 0))) := ⟨h0_⟩
                have n1_ : Aside0 (w44.heap[gb465]? = some (.cells #[.int .i64 a1_0, .int .i64 a1_1, .int .i64 a1_2] 23 (0, 0))) := ⟨h1_⟩
                have n2_ : Aside0 (w44.heap[gb476]? = some (.cells #[.int .i64 0, .int .i64 0, .int .i64 0] 23 (0, 0))) := ⟨h2_⟩
                have n3_ : Aside0 (w.heap.size ≤ gb476) := ⟨h3_⟩
                have n4_ : Aside0 (w.heap.size ≤ gb476) := ⟨h4_⟩
                have n5_ : Aside0 (gb464 ≠ gb476) := ⟨h5_⟩
                have n6_ : Aside0 (gb476 ≠ gb464) := ⟨h6_⟩
                have n7_ : Aside0 (gb465 ≠ gb476) := ⟨h7_⟩
                have n8_ : Aside0 (gb476 ≠ gb465) := ⟨h8_⟩
                have n9_ : Aside0 (Below w.heap.size w w44) := ⟨h9_⟩
                clear BK464
                clear BK465
                clear HB
                clear h0_ h1_ h2_ h3_ h4_ h5_ h6_ h7_ h8_ h9_
                have BK464 := n0_
                have BK465 := n1_
                have BK476 := n2_
                have GW476 := n3_
                have GE476 := n4_
                have NB464_476 := n5_
                have NB476_464 := n6_
                have NB465_476 := n7_
                have NB476_465 := n8_
                have HB := n9_
                clear n0_ n1_ n2_ n3_ n4_ n5_ n6_ n7_ n8_ n9_
                have hHeld : w44.cell? ⟨gb464, 0, none⟩ = some (.int .i64 a0_0) ∧ w44.cell? ⟨gb464, 1, none⟩ = some (.int .i64 a0_1) ∧ w44.cell? ⟨gb464, 2, none⟩ = some (.int .i64 a0_2) ∧ w44.cell? ⟨gb465, 0, none⟩ = some (.int .i64 a1_0) ∧ w44.cell? ⟨gb465, 1, none⟩ = some (.int .i64 a1_1) ∧ w44.cell? ⟨gb465, 2, none⟩ = some (.int .i64 a1_2) := hS_
                refine norm_ (a' := ?_) ?_ ?_
                rotate_left
                · simp only [putAll, Act.put, List.setIfInBounds_toArray, List.set_cons_zero, List.set_cons_succ]
                  rfl
                refine one_ (i := 17) (N := some 8) (fl 18 20 []) rfl rfl (one_of HT_.out (by kernel_rfl)) (by decide) (fun K hK => ?_)
                refine box_step ?hg (N := 8) ?hd (cs := #[.int .i64 0, .int .i64 0, .int .i64 0]) (t := 23) ?hr ?_; (case hd => rfl); (case hg => rfl); (case hr => first | (go_simp; done) | (go_simp; rfl))
                intro gb477 hg w45 hbox hb
                have n0_ := Aside0.mk (bb BK464.out hb)
                have n1_ := Aside0.mk (bb BK465.out hb)
                have n2_ := Aside0.mk (bb BK476.out hb)
                have n3_ := Aside0.mk (bs HB.out hb)
                have n4_ := Aside0.mk (hbox)
                have n5_ := Aside0.mk ((by rw [hg]; exact (bz HB.out) : w.heap.size ≤ gb477))
                have n6_ := Aside0.mk ((by rw [hg]; exact (bz HB.out) : w.heap.size ≤ gb477))
                have n7_ := Aside0.mk ((by rw [hg]; exact Nat.ne_of_lt (blk_lt (g := gb464) (o := .cells #[.int .i64 a0_0, .int .i64 a0_1, .int .i64 a0_2] 23 (0, 0)) (by (with_reducible repeat (first | refine blk_drewN ?_ _ | refine blk_drew ?_ | refine blk_alloc ?_ _)); exact BK464.out)) : gb464 ≠ gb477))
                have n8_ := Aside0.mk ((by rw [hg]; exact Nat.ne_of_gt (blk_lt (g := gb464) (o := .cells #[.int .i64 a0_0, .int .i64 a0_1, .int .i64 a0_2] 23 (0, 0)) (by (with_reducible repeat (first | refine blk_drewN ?_ _ | refine blk_drew ?_ | refine blk_alloc ?_ _)); exact BK464.out)) : gb477 ≠ gb464))
                have n9_ := Aside0.mk ((by rw [hg]; exact Nat.ne_of_lt (blk_lt (g := gb465) (o := .cells #[.int .i64 a1_0, .int .i64 a1_1, .int .i64 a1_2] 23 (0, 0)) (by (with_reducible repeat (first | refine blk_drewN ?_ _ | refine blk_drew ?_ | refine blk_alloc ?_ _)); exact BK465.out)) : gb465 ≠ gb477))
                have n10_ := Aside0.mk ((by rw [hg]; exact Nat.ne_of_gt (blk_lt (g := gb465) (o := .cells #[.int .i64 a1_0, .int .i64 a1_1, .int .i64 a1_2] 23 (0, 0)) (by (with_reducible repeat (first | refine blk_drewN ?_ _ | refine blk_drew ?_ | refine blk_alloc ?_ _)); exact BK465.out)) : gb477 ≠ gb465))
                have n11_ := Aside0.mk ((by rw [hg]; exact Nat.ne_of_lt (blk_lt (g := gb476) (o := .cells #[.int .i64 0, .int .i64 0, .int .i64 0] 23 (0, 0)) (by (with_reducible repeat (first | refine blk_drewN ?_ _ | refine blk_drew ?_ | refine blk_alloc ?_ _)); exact BK476.out)) : gb476 ≠ gb477))
                have n12_ := Aside0.mk ((by rw [hg]; exact Nat.ne_of_gt (blk_lt (g := gb476) (o := .cells #[.int .i64 0, .int .i64 0, .int .i64 0] 23 (0, 0)) (by (with_reducible repeat (first | refine blk_drewN ?_ _ | refine blk_drew ?_ | refine blk_alloc ?_ _)); exact BK476.out)) : gb477 ≠ gb476))
                clear BK464
                clear BK465
                clear BK476
                clear HB
                have BK464 := n0_
                have BK465 := n1_
                have BK476 := n2_
                have HB := n3_
                have BK477 := n4_
                have GW477 := n5_
                have GE477 := n6_
                have NB464_477 := n7_
                have NB477_464 := n8_
                have NB465_477 := n9_
                have NB477_465 := n10_
                have NB476_477 := n11_
                have NB477_476 := n12_
                clear n0_ n1_ n2_ n3_ n4_ n5_ n6_ n7_ n8_ n9_ n10_ n11_ n12_
                clear hb hbox hg
                refine hK.out _ _ ⟨(blk_cell BK464.out 0).trans rfl, (blk_cell BK464.out 1).trans rfl, (blk_cell BK464.out 2).trans rfl, (blk_cell BK465.out 0).trans rfl, (blk_cell BK465.out 1).trans rfl, (blk_cell BK465.out 2).trans rfl⟩ (fun hHeld => ?_)
                clear hK K
                refine norm_ (a' := ?_) ?_ ?_
                rotate_left
                · show Act.put _ (some 8) _ = _
                  simp only [Act.put, List.setIfInBounds_toArray, List.set_cons_zero, List.set_cons_succ, i64_w, i32_w]
                  rfl
                exact norm_ (by first | (simp only [putAll, Act.put, List.setIfInBounds_toArray, List.set_cons_zero, List.set_cons_succ]; done) | (simp only [putAll, Act.put, List.setIfInBounds_toArray, List.set_cons_zero, List.set_cons_succ]; rfl)) (hJ7_15_16_17 (gb476, gb477) _ ⟨hHeld, (by (with_reducible repeat (first | refine blk_drewN ?_ _ | refine blk_drew ?_ | refine blk_alloc ?_ _)); exact BK464.out), (by (with_reducible repeat (first | refine blk_drewN ?_ _ | refine blk_drew ?_ | refine blk_alloc ?_ _)); exact BK465.out), (by (with_reducible repeat (first | refine blk_drewN ?_ _ | refine blk_drew ?_ | refine blk_alloc ?_ _)); exact BK476.out), (by (with_reducible repeat (first | refine blk_drewN ?_ _ | refine blk_drew ?_ | refine blk_alloc ?_ _)); exact BK477.out), GW476.out, GE476.out, NB464_476.out, NB476_464.out, NB465_476.out, NB476_465.out, NB477_476.out, NB476_477.out, GW477.out, GE477.out, NB464_477.out, NB477_464.out, NB465_477.out, NB477_465.out, (by repeat (first | (with_reducible first | exact HB.out | apply below_alloc | apply pw_below_drewN | apply below_drew1 | refine below_set ?_ GE464.out | refine below_set ?_ GE465.out | refine below_set ?_ GE476.out | refine below_set ?_ GE477.out) | exact HB.out))⟩)
            rintro ⟨gb476, gb477⟩ w45 ⟨hS_, h0_, h1_, h2_, h3_, h4_, h5_, h6_, h7_, h8_, h9_, h10_, h11_, h12_, h13_, h14_, h15_, h16_, h17_, h18_⟩
            have n0_ : Aside0 (w45.heap[gb464]? = some (.cells #[.int .i64 a0_0, .int .i64 a0_1, .int .i64 a0_2] 23 (0, 0))) := ⟨h0_⟩
            have n1_ : Aside0 (w45.heap[gb465]? = some (.cells #[.int .i64 a1_0, .int .i64 a1_1, .int .i64 a1_2] 23 (0, 0))) := ⟨h1_⟩
            have n2_ : Aside0 (w45.heap[gb476]? = some (.cells #[.int .i64 0, .int .i64 0, .int .i64 0] 23 (0, 0))) := ⟨h2_⟩
            have n3_ : Aside0 (w45.heap[gb477]? = some (.cells #[.int .i64 0, .int .i64 0, .int .i64 0] 23 (0, 0))) := ⟨h3_⟩
            have n4_ : Aside0 (w.heap.size ≤ gb476) := ⟨h4_⟩
            have n5_ : Aside0 (w.heap.size ≤ gb476) := ⟨h5_⟩
            have n6_ : Aside0 (gb464 ≠ gb476) := ⟨h6_⟩
            have n7_ : Aside0 (gb476 ≠ gb464) := ⟨h7_⟩
            have n8_ : Aside0 (gb465 ≠ gb476) := ⟨h8_⟩
            have n9_ : Aside0 (gb476 ≠ gb465) := ⟨h9_⟩
            have n10_ : Aside0 (gb477 ≠ gb476) := ⟨h10_⟩
            have n11_ : Aside0 (gb476 ≠ gb477) := ⟨h11_⟩
            have n12_ : Aside0 (w.heap.size ≤ gb477) := ⟨h12_⟩
            have n13_ : Aside0 (w.heap.size ≤ gb477) := ⟨h13_⟩
            have n14_ : Aside0 (gb464 ≠ gb477) := ⟨h14_⟩
            have n15_ : Aside0 (gb477 ≠ gb464) := ⟨h15_⟩
            have n16_ : Aside0 (gb465 ≠ gb477) := ⟨h16_⟩
            have n17_ : Aside0 (gb477 ≠ gb465) := ⟨h17_⟩
            have n18_ : Aside0 (Below w.heap.size w w45) := ⟨h18_⟩
            clear BK464
            clear BK465
            clear HB
            clear h0_ h1_ h2_ h3_ h4_ h5_ h6_ h7_ h8_ h9_ h10_ h11_ h12_ h13_ h14_ h15_ h16_ h17_ h18_
            have BK464 := n0_
            have BK465 := n1_
            have BK476 := n2_
            have BK477 := n3_
            have GW476 := n4_
            have GE476 := n5_
            have NB464_476 := n6_
            have NB476_464 := n7_
            have NB465_476 := n8_
            have NB476_465 := n9_
            have NB477_476 := n10_
            have NB476_477 := n11_
            have GW477 := n12_
            have GE477 := n13_
            have NB464_477 := n14_
            have NB477_464 := n15_
            have NB465_477 := n16_
            have NB477_465 := n17_
            have HB := n18_
            clear n0_ n1_ n2_ n3_ n4_ n5_ n6_ n7_ n8_ n9_ n10_ n11_ n12_ n13_ n14_ n15_ n16_ n17_ n18_
            have hHeld : w45.cell? ⟨gb464, 0, none⟩ = some (.int .i64 a0_0) ∧ w45.cell? ⟨gb464, 1, none⟩ = some (.int .i64 a0_1) ∧ w45.cell? ⟨gb464, 2, none⟩ = some (.int .i64 a0_2) ∧ w45.cell? ⟨gb465, 0, none⟩ = some (.int .i64 a1_0) ∧ w45.cell? ⟨gb465, 1, none⟩ = some (.int .i64 a1_1) ∧ w45.cell? ⟨gb465, 2, none⟩ = some (.int .i64 a1_2) := hS_
            refine norm_ (a' := ?_) ?_ ?_
            rotate_left
            · simp only [putAll, Act.put, List.setIfInBounds_toArray, List.set_cons_zero, List.set_cons_succ]
              rfl
            refine one_ (i := 18) (N := none) (fl 19 20 []) rfl rfl (one_of HT_.out (by kernel_rfl)) (by decide) (fun K hK => ?_)
            have hs46 : w45.cell? ⟨gb476, 0, none⟩ = some (.int .i64 0) := (blk_cell BK476.out 0).trans rfl
            have hfs46 := blk_frozen BK476.out 0
            have hns46_0 := NB464_476.out
            have hns46_1 := NB465_476.out
            have hns46_3 := NB477_476.out
            have hms46_0 := NB476_464.out
            have hms46_1 := NB476_465.out
            have hms46_3 := NB476_477.out
            have hs47 : w45.cell? ⟨gb476, 1, none⟩ = some (.int .i64 0) := (blk_cell BK476.out 1).trans rfl
            have hfs47 := blk_frozen BK476.out 1
            have hns47_0 := NB464_476.out
            have hns47_1 := NB465_476.out
            have hns47_3 := NB477_476.out
            have hms47_0 := NB476_464.out
            have hms47_1 := NB476_465.out
            have hms47_3 := NB476_477.out
            have hs48 : w45.cell? ⟨gb476, 2, none⟩ = some (.int .i64 0) := (blk_cell BK476.out 2).trans rfl
            have hfs48 := blk_frozen BK476.out 2
            have hns48_0 := NB464_476.out
            have hns48_1 := NB465_476.out
            have hns48_3 := NB477_476.out
            have hms48_0 := NB476_464.out
            have hms48_1 := NB476_465.out
            have hms48_3 := NB476_477.out
            refine skip_ (w1 := ?_) (by rfl) rfl ?_ ?_
            rotate_left
            · go_simp
              rfl
            refine hK.out _ _ ⟨((cell_far (p := ⟨gb476, _, none⟩) NB464_476.out _).trans (((cell_far (p := ⟨gb476, _, none⟩) NB464_476.out _).trans (((cell_far (p := ⟨gb476, _, none⟩) NB464_476.out _).trans (hHeld.1)))))), ((cell_far (p := ⟨gb476, _, none⟩) NB464_476.out _).trans (((cell_far (p := ⟨gb476, _, none⟩) NB464_476.out _).trans (((cell_far (p := ⟨gb476, _, none⟩) NB464_476.out _).trans (hHeld.2.1)))))), ((cell_far (p := ⟨gb476, _, none⟩) NB464_476.out _).trans (((cell_far (p := ⟨gb476, _, none⟩) NB464_476.out _).trans (((cell_far (p := ⟨gb476, _, none⟩) NB464_476.out _).trans (hHeld.2.2.1)))))), ((cell_far (p := ⟨gb476, _, none⟩) NB465_476.out _).trans (((cell_far (p := ⟨gb476, _, none⟩) NB465_476.out _).trans (((cell_far (p := ⟨gb476, _, none⟩) NB465_476.out _).trans (hHeld.2.2.2.1)))))), ((cell_far (p := ⟨gb476, _, none⟩) NB465_476.out _).trans (((cell_far (p := ⟨gb476, _, none⟩) NB465_476.out _).trans (((cell_far (p := ⟨gb476, _, none⟩) NB465_476.out _).trans (hHeld.2.2.2.2.1)))))), ((cell_far (p := ⟨gb476, _, none⟩) NB465_476.out _).trans (((cell_far (p := ⟨gb476, _, none⟩) NB465_476.out _).trans (((cell_far (p := ⟨gb476, _, none⟩) NB465_476.out _).trans (hHeld.2.2.2.2.2))))))⟩ (fun hHeld => ?_)
            clear hK K
            refine one_ (i := 19) (N := none) (fl 20 20 []) rfl rfl (one_of HT_.out (by kernel_rfl)) (by decide) (fun K hK => ?_)
            have hs49 : w45.cell? ⟨gb477, 0, none⟩ = some (.int .i64 0) := (blk_cell BK477.out 0).trans rfl
            have hfs49 := blk_frozen BK477.out 0
            have hns49_0 := NB464_477.out
            have hns49_1 := NB465_477.out
            have hns49_2 := NB476_477.out
            have hms49_0 := NB477_464.out
            have hms49_1 := NB477_465.out
            have hms49_2 := NB477_476.out
            have hs50 : w45.cell? ⟨gb477, 1, none⟩ = some (.int .i64 0) := (blk_cell BK477.out 1).trans rfl
            have hfs50 := blk_frozen BK477.out 1
            have hns50_0 := NB464_477.out
            have hns50_1 := NB465_477.out
            have hns50_2 := NB476_477.out
            have hms50_0 := NB477_464.out
            have hms50_1 := NB477_465.out
            have hms50_2 := NB477_476.out
            have hs51 : w45.cell? ⟨gb477, 2, none⟩ = some (.int .i64 0) := (blk_cell BK477.out 2).trans rfl
            have hfs51 := blk_frozen BK477.out 2
            have hns51_0 := NB464_477.out
            have hns51_1 := NB465_477.out
            have hns51_2 := NB476_477.out
            have hms51_0 := NB477_464.out
            have hms51_1 := NB477_465.out
            have hms51_2 := NB477_476.out
            refine skip_ (w1 := ?_) (by rfl) rfl ?_ ?_
            rotate_left
            · go_simp
              rfl
            refine hK.out _ _ ⟨((cell_far (p := ⟨gb477, _, none⟩) NB464_477.out _).trans (((cell_far (p := ⟨gb477, _, none⟩) NB464_477.out _).trans (((cell_far (p := ⟨gb477, _, none⟩) NB464_477.out _).trans (hHeld.1)))))), ((cell_far (p := ⟨gb477, _, none⟩) NB464_477.out _).trans (((cell_far (p := ⟨gb477, _, none⟩) NB464_477.out _).trans (((cell_far (p := ⟨gb477, _, none⟩) NB464_477.out _).trans (hHeld.2.1)))))), ((cell_far (p := ⟨gb477, _, none⟩) NB464_477.out _).trans (((cell_far (p := ⟨gb477, _, none⟩) NB464_477.out _).trans (((cell_far (p := ⟨gb477, _, none⟩) NB464_477.out _).trans (hHeld.2.2.1)))))), ((cell_far (p := ⟨gb477, _, none⟩) NB465_477.out _).trans (((cell_far (p := ⟨gb477, _, none⟩) NB465_477.out _).trans (((cell_far (p := ⟨gb477, _, none⟩) NB465_477.out _).trans (hHeld.2.2.2.1)))))), ((cell_far (p := ⟨gb477, _, none⟩) NB465_477.out _).trans (((cell_far (p := ⟨gb477, _, none⟩) NB465_477.out _).trans (((cell_far (p := ⟨gb477, _, none⟩) NB465_477.out _).trans (hHeld.2.2.2.2.1)))))), ((cell_far (p := ⟨gb477, _, none⟩) NB465_477.out _).trans (((cell_far (p := ⟨gb477, _, none⟩) NB465_477.out _).trans (((cell_far (p := ⟨gb477, _, none⟩) NB465_477.out _).trans (hHeld.2.2.2.2.2))))))⟩ (fun hHeld => ?_)
            clear hK K
            refine done_ (done_of HT_.out (by kernel_rfl)) ?_
            have hnb52 := NB476_464.out
            have hnc52 := NB464_476.out
            have hnb53 := NB476_465.out
            have hnc53 := NB465_476.out
            have hnb54 := NB476_477.out
            have hnc54 := NB477_476.out
            have hcz55_0 : w45.cell? ⟨gb476, 0, none⟩ = some (.int .i64 0) := (blk_cell BK476.out 0).trans rfl
            have hcz55_1 : w45.cell? ⟨gb476, 1, none⟩ = some (.int .i64 0) := (blk_cell BK476.out 1).trans rfl
            have hcz55_2 : w45.cell? ⟨gb476, 2, none⟩ = some (.int .i64 0) := (blk_cell BK476.out 2).trans rfl
            have hfz55_0 := blk_frozen BK476.out 0
            have hfz55_1 := blk_frozen BK476.out 1
            have hfz55_2 := blk_frozen BK476.out 2
            have hnb56 := NB477_464.out
            have hnc56 := NB464_477.out
            have hnb57 := NB477_465.out
            have hnc57 := NB465_477.out
            have hcz58_0 : w45.cell? ⟨gb477, 0, none⟩ = some (.int .i64 0) := (blk_cell BK477.out 0).trans rfl
            have hcz58_1 : w45.cell? ⟨gb477, 1, none⟩ = some (.int .i64 0) := (blk_cell BK477.out 1).trans rfl
            have hcz58_2 : w45.cell? ⟨gb477, 2, none⟩ = some (.int .i64 0) := (blk_cell BK477.out 2).trans rfl
            have hfz58_0 := blk_frozen BK477.out 0
            have hfz58_1 := blk_frozen BK477.out 1
            have hfz58_2 := blk_frozen BK477.out 2
            try go_wp2_with (first | ((with_reducible refine gate_callee (f := 18) rfl ?_); refine goesL_ (some 54) rfl rfl Try.func18 (by kernel_rfl) rfl #[.agg #[.int .i64 t470, .int .i64 t471, .int .i64 t472], .agg #[.int .i64 t473, .int .i64 t474, .int .i64 t475]] rfl (by (try simp only [List.map_toArray, List.map_cons, List.map_nil]); first | done | rfl | (simp only [List.length_drop, List.length_take]; rfl)) ?_; (with_reducible refine (month_Between.calls kj21 t470 t471 t472 t473 t474 t475 t478 t479 _ A28.out).mono ?_); rintro e w59 ⟨rfl, hb⟩; refine ⟨_, rfl, ?_⟩; replace BK464 := Aside0.mk (blk_below (g := gb464) (o := .cells #[.int .i64 a0_0, .int .i64 a0_1, .int .i64 a0_2] 23 (0, 0)) (by (with_reducible repeat (first | refine blk_drewN ?_ _ | refine blk_drew ?_ | refine blk_alloc ?_ _)); refine blk_far ?_ NB464_477.out _; (with_reducible repeat (first | refine blk_drewN ?_ _ | refine blk_drew ?_ | refine blk_alloc ?_ _)); refine blk_far ?_ NB464_477.out _; (with_reducible repeat (first | refine blk_drewN ?_ _ | refine blk_drew ?_ | refine blk_alloc ?_ _)); refine blk_far ?_ NB464_477.out _; (with_reducible repeat (first | refine blk_drewN ?_ _ | refine blk_drew ?_ | refine blk_alloc ?_ _)); refine blk_far ?_ NB464_476.out _; (with_reducible repeat (first | refine blk_drewN ?_ _ | refine blk_drew ?_ | refine blk_alloc ?_ _)); refine blk_far ?_ NB464_476.out _; (with_reducible repeat (first | refine blk_drewN ?_ _ | refine blk_drew ?_ | refine blk_alloc ?_ _)); refine blk_far ?_ NB464_476.out _; (with_reducible repeat (first | refine blk_drewN ?_ _ | refine blk_drew ?_ | refine blk_alloc ?_ _)); exact BK464.out) hb); replace BK465 := Aside0.mk (blk_below (g := gb465) (o := .cells #[.int .i64 a1_0, .int .i64 a1_1, .int .i64 a1_2] 23 (0, 0)) (by (with_reducible repeat (first | refine blk_drewN ?_ _ | refine blk_drew ?_ | refine blk_alloc ?_ _)); refine blk_far ?_ NB465_477.out _; (with_reducible repeat (first | refine blk_drewN ?_ _ | refine blk_drew ?_ | refine blk_alloc ?_ _)); refine blk_far ?_ NB465_477.out _; (with_reducible repeat (first | refine blk_drewN ?_ _ | refine blk_drew ?_ | refine blk_alloc ?_ _)); refine blk_far ?_ NB465_477.out _; (with_reducible repeat (first | refine blk_drewN ?_ _ | refine blk_drew ?_ | refine blk_alloc ?_ _)); refine blk_far ?_ NB465_476.out _; (with_reducible repeat (first | refine blk_drewN ?_ _ | refine blk_drew ?_ | refine blk_alloc ?_ _)); refine blk_far ?_ NB465_476.out _; (with_reducible repeat (first | refine blk_drewN ?_ _ | refine blk_drew ?_ | refine blk_alloc ?_ _)); refine blk_far ?_ NB465_476.out _; (with_reducible repeat (first | refine blk_drewN ?_ _ | refine blk_drew ?_ | refine blk_alloc ?_ _)); exact BK465.out) hb); replace BK476 := Aside0.mk (blk_below (g := gb476) (o := .cells #[.int .i64 t470, .int .i64 t471, .int .i64 t472] 23 (0, 0)) (by (with_reducible repeat (first | refine blk_drewN ?_ _ | refine blk_drew ?_ | refine blk_alloc ?_ _)); refine blk_far ?_ NB476_477.out _; (with_reducible repeat (first | refine blk_drewN ?_ _ | refine blk_drew ?_ | refine blk_alloc ?_ _)); refine blk_far ?_ NB476_477.out _; (with_reducible repeat (first | refine blk_drewN ?_ _ | refine blk_drew ?_ | refine blk_alloc ?_ _)); refine blk_far ?_ NB476_477.out _; (with_reducible repeat (first | refine blk_drewN ?_ _ | refine blk_drew ?_ | refine blk_alloc ?_ _)); refine blk_put (cs := #[.int .i64 t470, .int .i64 t471, .int .i64 0]) ?_ 2 _ rfl; (with_reducible repeat (first | refine blk_drewN ?_ _ | refine blk_drew ?_ | refine blk_alloc ?_ _)); refine blk_put (cs := #[.int .i64 t470, .int .i64 0, .int .i64 0]) ?_ 1 _ rfl; (with_reducible repeat (first | refine blk_drewN ?_ _ | refine blk_drew ?_ | refine blk_alloc ?_ _)); refine blk_put (cs := #[.int .i64 0, .int .i64 0, .int .i64 0]) ?_ 0 _ rfl; (with_reducible repeat (first | refine blk_drewN ?_ _ | refine blk_drew ?_ | refine blk_alloc ?_ _)); exact BK476.out) hb); replace BK477 := Aside0.mk (blk_below (g := gb477) (o := .cells #[.int .i64 t473, .int .i64 t474, .int .i64 t475] 23 (0, 0)) (by (with_reducible repeat (first | refine blk_drewN ?_ _ | refine blk_drew ?_ | refine blk_alloc ?_ _)); refine blk_put (cs := #[.int .i64 t473, .int .i64 t474, .int .i64 0]) ?_ 2 _ rfl; (with_reducible repeat (first | refine blk_drewN ?_ _ | refine blk_drew ?_ | refine blk_alloc ?_ _)); refine blk_put (cs := #[.int .i64 t473, .int .i64 0, .int .i64 0]) ?_ 1 _ rfl; (with_reducible repeat (first | refine blk_drewN ?_ _ | refine blk_drew ?_ | refine blk_alloc ?_ _)); refine blk_put (cs := #[.int .i64 0, .int .i64 0, .int .i64 0]) ?_ 0 _ rfl; (with_reducible repeat (first | refine blk_drewN ?_ _ | refine blk_drew ?_ | refine blk_alloc ?_ _)); refine blk_far ?_ NB477_476.out _; (with_reducible repeat (first | refine blk_drewN ?_ _ | refine blk_drew ?_ | refine blk_alloc ?_ _)); refine blk_far ?_ NB477_476.out _; (with_reducible repeat (first | refine blk_drewN ?_ _ | refine blk_drew ?_ | refine blk_alloc ?_ _)); refine blk_far ?_ NB477_476.out _; (with_reducible repeat (first | refine blk_drewN ?_ _ | refine blk_drew ?_ | refine blk_alloc ?_ _)); exact BK477.out) hb); replace HB := Aside0.mk (below_step (by repeat (first | (with_reducible first | exact HB.out | apply below_alloc | apply pw_below_drewN | apply below_drew1 | refine below_set ?_ GE464.out | refine below_set ?_ GE465.out | refine below_set ?_ GE476.out | refine below_set ?_ GE477.out) | exact HB.out)) hb); (try clear hb); (try clear hb2); (try clear hk); (try clear hi); have hcz60_0 : w59.cell? ⟨gb477, 0, none⟩ = some (.int .i64 t473) := (blk_cell BK477.out 0).trans rfl; have hcz60_1 : w59.cell? ⟨gb477, 1, none⟩ = some (.int .i64 t474) := (blk_cell BK477.out 1).trans rfl; have hcz60_2 : w59.cell? ⟨gb477, 2, none⟩ = some (.int .i64 t475) := (blk_cell BK477.out 2).trans rfl; have hfz60_0 := blk_frozen BK477.out 0; have hfz60_1 := blk_frozen BK477.out 1; have hfz60_2 := blk_frozen BK477.out 2; have hcz61_0 : w59.cell? ⟨gb476, 0, none⟩ = some (.int .i64 t470) := (blk_cell BK476.out 0).trans rfl; have hcz61_1 : w59.cell? ⟨gb476, 1, none⟩ = some (.int .i64 t471) := (blk_cell BK476.out 1).trans rfl; have hcz61_2 : w59.cell? ⟨gb476, 2, none⟩ = some (.int .i64 t472) := (blk_cell BK476.out 2).trans rfl; have hfz61_0 := blk_frozen BK476.out 0; have hfz61_1 := blk_frozen BK476.out 1; have hfz61_2 := blk_frozen BK476.out 2) | ((with_reducible refine gate_callee (f := 18) rfl ?_); refine goesL_ (some 60) rfl rfl Try.func18 (by kernel_rfl) rfl #[.agg #[.int .i64 t473, .int .i64 t474, .int .i64 t475], .agg #[.int .i64 t470, .int .i64 t471, .int .i64 t472]] rfl (by (try simp only [List.map_toArray, List.map_cons, List.map_nil]); first | done | rfl | (simp only [List.length_drop, List.length_take]; rfl)) ?_; (with_reducible refine (month_Between.calls kj21 t473 t474 t475 t470 t471 t472 t480 t481 _ A29.out).mono ?_); rintro e w62 ⟨rfl, hb⟩; refine ⟨_, rfl, ?_⟩; replace BK464 := Aside0.mk (bb BK464.out hb); replace BK465 := Aside0.mk (bb BK465.out hb); replace BK476 := Aside0.mk (bb BK476.out hb); replace BK477 := Aside0.mk (bb BK477.out hb); replace HB := Aside0.mk (bs HB.out hb); (try clear hb); (try clear hb2); (try clear hk); (try clear hi); have hcz63_0 : w62.cell? ⟨gb476, 0, none⟩ = some (.int .i64 t470) := (blk_cell BK476.out 0).trans rfl; have hcz63_1 : w62.cell? ⟨gb476, 1, none⟩ = some (.int .i64 t471) := (blk_cell BK476.out 1).trans rfl; have hcz63_2 : w62.cell? ⟨gb476, 2, none⟩ = some (.int .i64 t472) := (blk_cell BK476.out 2).trans rfl; have hfz63_0 := blk_frozen BK476.out 0; have hfz63_1 := blk_frozen BK476.out 1; have hfz63_2 := blk_frozen BK476.out 2) | ((with_reducible refine gate_callee (f := 37) rfl ?_); refine goesL_ (some 66) rfl rfl Try.func37 (by kernel_rfl) rfl #[.agg #[.int .i64 t470, .int .i64 t471, .int .i64 t472], .int .i64 t478] rfl (by (try simp only [List.map_toArray, List.map_cons, List.map_nil]); first | done | rfl | (simp only [List.length_drop, List.length_take]; rfl)) ?_; (with_reducible refine (month_AddDays.calls kj21 t470 t471 t472 t478 t482 t483 t484 t485 _ A30.out).mono ?_); rintro e w64 ⟨rfl, hb⟩; refine ⟨_, rfl, ?_⟩; replace BK464 := Aside0.mk (bb BK464.out hb); replace BK465 := Aside0.mk (bb BK465.out hb); replace BK476 := Aside0.mk (bb BK476.out hb); replace BK477 := Aside0.mk (bb BK477.out hb); replace HB := Aside0.mk (bs HB.out hb); (try clear hb); (try clear hb2); (try clear hk); (try clear hi)) | ((with_reducible refine gate_dst (N := 13) rfl ?_); refine box_event ?hg (N := 13) ?hd (cs := #[.int .i64 0, .int .i64 0, .int .i64 0]) (t := 23) ?hr ?_; (case hd => rfl); (case hg => rfl); (case hr => first | (go_simp; done) | (go_simp; rfl)); intro gb486 hg w65 hbox hb; have n0_ := Aside0.mk (bb BK464.out hb); have n1_ := Aside0.mk (bb BK465.out hb); have n2_ := Aside0.mk (bb BK476.out hb); have n3_ := Aside0.mk (bb BK477.out hb); have n4_ := Aside0.mk (bs HB.out hb); have n5_ := Aside0.mk (hbox); have n6_ := Aside0.mk ((by rw [hg]; exact (bz HB.out) : w.heap.size ≤ gb486)); have n7_ := Aside0.mk ((by rw [hg]; exact (bz HB.out) : w.heap.size ≤ gb486)); have n8_ := Aside0.mk ((by rw [hg]; exact Nat.ne_of_lt (blk_lt (g := gb464) (o := .cells #[.int .i64 a0_0, .int .i64 a0_1, .int .i64 a0_2] 23 (0, 0)) (by (with_reducible repeat (first | refine blk_drewN ?_ _ | refine blk_drew ?_ | refine blk_alloc ?_ _)); exact BK464.out)) : gb464 ≠ gb486)); have n9_ := Aside0.mk ((by rw [hg]; exact Nat.ne_of_gt (blk_lt (g := gb464) (o := .cells #[.int .i64 a0_0, .int .i64 a0_1, .int .i64 a0_2] 23 (0, 0)) (by (with_reducible repeat (first | refine blk_drewN ?_ _ | refine blk_drew ?_ | refine blk_alloc ?_ _)); exact BK464.out)) : gb486 ≠ gb464)); have n10_ := Aside0.mk ((by rw [hg]; exact Nat.ne_of_lt (blk_lt (g := gb465) (o := .cells #[.int .i64 a1_0, .int .i64 a1_1, .int .i64 a1_2] 23 (0, 0)) (by (with_reducible repeat (first | refine blk_drewN ?_ _ | refine blk_drew ?_ | refine blk_alloc ?_ _)); exact BK465.out)) : gb465 ≠ gb486)); have n11_ := Aside0.mk ((by rw [hg]; exact Nat.ne_of_gt (blk_lt (g := gb465) (o := .cells #[.int .i64 a1_0, .int .i64 a1_1, .int .i64 a1_2] 23 (0, 0)) (by (with_reducible repeat (first | refine blk_drewN ?_ _ | refine blk_drew ?_ | refine blk_alloc ?_ _)); exact BK465.out)) : gb486 ≠ gb465)); have n12_ := Aside0.mk ((by rw [hg]; exact Nat.ne_of_lt (blk_lt (g := gb476) (o := .cells #[.int .i64 t470, .int .i64 t471, .int .i64 t472] 23 (0, 0)) (by (with_reducible repeat (first | refine blk_drewN ?_ _ | refine blk_drew ?_ | refine blk_alloc ?_ _)); exact BK476.out)) : gb476 ≠ gb486)); have n13_ := Aside0.mk ((by rw [hg]; exact Nat.ne_of_gt (blk_lt (g := gb476) (o := .cells #[.int .i64 t470, .int .i64 t471, .int .i64 t472] 23 (0, 0)) (by (with_reducible repeat (first | refine blk_drewN ?_ _ | refine blk_drew ?_ | refine blk_alloc ?_ _)); exact BK476.out)) : gb486 ≠ gb476)); have n14_ := Aside0.mk ((by rw [hg]; exact Nat.ne_of_lt (blk_lt (g := gb477) (o := .cells #[.int .i64 t473, .int .i64 t474, .int .i64 t475] 23 (0, 0)) (by (with_reducible repeat (first | refine blk_drewN ?_ _ | refine blk_drew ?_ | refine blk_alloc ?_ _)); exact BK477.out)) : gb477 ≠ gb486)); have n15_ := Aside0.mk ((by rw [hg]; exact Nat.ne_of_gt (blk_lt (g := gb477) (o := .cells #[.int .i64 t473, .int .i64 t474, .int .i64 t475] 23 (0, 0)) (by (with_reducible repeat (first | refine blk_drewN ?_ _ | refine blk_drew ?_ | refine blk_alloc ?_ _)); exact BK477.out)) : gb486 ≠ gb477)); clear BK464; clear BK465; clear BK476; clear BK477; clear HB; have BK464 := n0_; have BK465 := n1_; have BK476 := n2_; have BK477 := n3_; have HB := n4_; have BK486 := n5_; have GW486 := n6_; have GE486 := n7_; have NB464_486 := n8_; have NB486_464 := n9_; have NB465_486 := n10_; have NB486_465 := n11_; have NB476_486 := n12_; have NB486_476 := n13_; have NB477_486 := n14_; have NB486_477 := n15_; clear n0_ n1_ n2_ n3_ n4_ n5_ n6_ n7_ n8_ n9_ n10_ n11_ n12_ n13_ n14_ n15_; clear hb hbox hg; have hnb66 := NB486_464.out; have hnc66 := NB464_486.out; have hnb67 := NB486_465.out; have hnc67 := NB465_486.out; have hnb68 := NB486_476.out; have hnc68 := NB476_486.out; have hnb69 := NB486_477.out; have hnc69 := NB477_486.out; have hcz70_0 : w65.cell? ⟨gb486, 0, none⟩ = some (.int .i64 0) := (blk_cell BK486.out 0).trans rfl; have hcz70_1 : w65.cell? ⟨gb486, 1, none⟩ = some (.int .i64 0) := (blk_cell BK486.out 1).trans rfl; have hcz70_2 : w65.cell? ⟨gb486, 2, none⟩ = some (.int .i64 0) := (blk_cell BK486.out 2).trans rfl; have hfz70_0 := blk_frozen BK486.out 0; have hfz70_1 := blk_frozen BK486.out 1; have hfz70_2 := blk_frozen BK486.out 2))
            have n0_ : Aside0 ((((w65.setCell ⟨gb486, 0, none⟩ (.int .i64 t482)).setCell ⟨gb486, 1, none⟩ (.int .i64 t483)).setCell ⟨gb486, 2, none⟩ (.int .i64 t484)).heap[gb464]? = some (.cells #[.int .i64 a0_0, .int .i64 a0_1, .int .i64 a0_2] 23 (0, 0))) := ⟨by (with_reducible repeat (first | refine blk_drewN ?_ _ | refine blk_drew ?_ | refine blk_alloc ?_ _)); refine blk_far ?_ NB464_486.out _; (with_reducible repeat (first | refine blk_drewN ?_ _ | refine blk_drew ?_ | refine blk_alloc ?_ _)); refine blk_far ?_ NB464_486.out _; (with_reducible repeat (first | refine blk_drewN ?_ _ | refine blk_drew ?_ | refine blk_alloc ?_ _)); refine blk_far ?_ NB464_486.out _; (with_reducible repeat (first | refine blk_drewN ?_ _ | refine blk_drew ?_ | refine blk_alloc ?_ _)); exact BK464.out⟩
            have n1_ : Aside0 ((((w65.setCell ⟨gb486, 0, none⟩ (.int .i64 t482)).setCell ⟨gb486, 1, none⟩ (.int .i64 t483)).setCell ⟨gb486, 2, none⟩ (.int .i64 t484)).heap[gb465]? = some (.cells #[.int .i64 a1_0, .int .i64 a1_1, .int .i64 a1_2] 23 (0, 0))) := ⟨by (with_reducible repeat (first | refine blk_drewN ?_ _ | refine blk_drew ?_ | refine blk_alloc ?_ _)); refine blk_far ?_ NB465_486.out _; (with_reducible repeat (first | refine blk_drewN ?_ _ | refine blk_drew ?_ | refine blk_alloc ?_ _)); refine blk_far ?_ NB465_486.out _; (with_reducible repeat (first | refine blk_drewN ?_ _ | refine blk_drew ?_ | refine blk_alloc ?_ _)); refine blk_far ?_ NB465_486.out _; (with_reducible repeat (first | refine blk_drewN ?_ _ | refine blk_drew ?_ | refine blk_alloc ?_ _)); exact BK465.out⟩
            have n2_ : Aside0 ((((w65.setCell ⟨gb486, 0, none⟩ (.int .i64 t482)).setCell ⟨gb486, 1, none⟩ (.int .i64 t483)).setCell ⟨gb486, 2, none⟩ (.int .i64 t484)).heap[gb476]? = some (.cells #[.int .i64 t470, .int .i64 t471, .int .i64 t472] 23 (0, 0))) := ⟨by (with_reducible repeat (first | refine blk_drewN ?_ _ | refine blk_drew ?_ | refine blk_alloc ?_ _)); refine blk_far ?_ NB476_486.out _; (with_reducible repeat (first | refine blk_drewN ?_ _ | refine blk_drew ?_ | refine blk_alloc ?_ _)); refine blk_far ?_ NB476_486.out _; (with_reducible repeat (first | refine blk_drewN ?_ _ | refine blk_drew ?_ | refine blk_alloc ?_ _)); refine blk_far ?_ NB476_486.out _; (with_reducible repeat (first | refine blk_drewN ?_ _ | refine blk_drew ?_ | refine blk_alloc ?_ _)); exact BK476.out⟩
            have n3_ : Aside0 ((((w65.setCell ⟨gb486, 0, none⟩ (.int .i64 t482)).setCell ⟨gb486, 1, none⟩ (.int .i64 t483)).setCell ⟨gb486, 2, none⟩ (.int .i64 t484)).heap[gb477]? = some (.cells #[.int .i64 t473, .int .i64 t474, .int .i64 t475] 23 (0, 0))) := ⟨by (with_reducible repeat (first | refine blk_drewN ?_ _ | refine blk_drew ?_ | refine blk_alloc ?_ _)); refine blk_far ?_ NB477_486.out _; (with_reducible repeat (first | refine blk_drewN ?_ _ | refine blk_drew ?_ | refine blk_alloc ?_ _)); refine blk_far ?_ NB477_486.out _; (with_reducible repeat (first | refine blk_drewN ?_ _ | refine blk_drew ?_ | refine blk_alloc ?_ _)); refine blk_far ?_ NB477_486.out _; (with_reducible repeat (first | refine blk_drewN ?_ _ | refine blk_drew ?_ | refine blk_alloc ?_ _)); exact BK477.out⟩
            have n4_ : Aside0 ((((w65.setCell ⟨gb486, 0, none⟩ (.int .i64 t482)).setCell ⟨gb486, 1, none⟩ (.int .i64 t483)).setCell ⟨gb486, 2, none⟩ (.int .i64 t484)).heap[gb486]? = some (.cells #[.int .i64 t482, .int .i64 t483, .int .i64 t484] 23 (0, 0))) := ⟨by (with_reducible repeat (first | refine blk_drewN ?_ _ | refine blk_drew ?_ | refine blk_alloc ?_ _)); refine blk_put (cs := #[.int .i64 t482, .int .i64 t483, .int .i64 0]) ?_ 2 _ rfl; (with_reducible repeat (first | refine blk_drewN ?_ _ | refine blk_drew ?_ | refine blk_alloc ?_ _)); refine blk_put (cs := #[.int .i64 t482, .int .i64 0, .int .i64 0]) ?_ 1 _ rfl; (with_reducible repeat (first | refine blk_drewN ?_ _ | refine blk_drew ?_ | refine blk_alloc ?_ _)); refine blk_put (cs := #[.int .i64 0, .int .i64 0, .int .i64 0]) ?_ 0 _ rfl; (with_reducible repeat (first | refine blk_drewN ?_ _ | refine blk_drew ?_ | refine blk_alloc ?_ _)); exact BK486.out⟩
            have n5_ : Aside0 (Below w.heap.size w (((w65.setCell ⟨gb486, 0, none⟩ (.int .i64 t482)).setCell ⟨gb486, 1, none⟩ (.int .i64 t483)).setCell ⟨gb486, 2, none⟩ (.int .i64 t484))) := ⟨by repeat (first | (with_reducible first | exact HB.out | apply below_alloc | apply pw_below_drewN | apply below_drew1 | refine below_set ?_ GE464.out | refine below_set ?_ GE465.out | refine below_set ?_ GE476.out | refine below_set ?_ GE477.out | refine below_set ?_ GE486.out) | exact HB.out)⟩
            (try clear BK464)
            (try clear BK465)
            (try clear BK476)
            (try clear BK477)
            (try clear BK486)
            (try clear HB)
            generalize (((w65.setCell ⟨gb486, 0, none⟩ (.int .i64 t482)).setCell ⟨gb486, 1, none⟩ (.int .i64 t483)).setCell ⟨gb486, 2, none⟩ (.int .i64 t484)) = w71 at n0_ n1_ n2_ n3_ n4_ n5_ ⊢
            have BK464 := n0_
            have BK465 := n1_
            have BK476 := n2_
            have BK477 := n3_
            have BK486 := n4_
            have HB := n5_
            clear n0_ n1_ n2_ n3_ n4_ n5_
            replace BK464 := Aside0.mk (blk_drew BK464.out)
            replace BK465 := Aside0.mk (blk_drew BK465.out)
            replace BK476 := Aside0.mk (blk_drew BK476.out)
            replace BK477 := Aside0.mk (blk_drew BK477.out)
            replace BK486 := Aside0.mk (blk_drew BK486.out)
            replace HB := Aside0.mk (below_drew1 HB.out)
            refine start_ (n := 34) (S := fun w' => w'.cell? ⟨gb477, 0, none⟩ = some (.int .i64 t473) ∧ w'.cell? ⟨gb477, 1, none⟩ = some (.int .i64 t474) ∧ w'.cell? ⟨gb477, 2, none⟩ = some (.int .i64 t475) ∧ w'.cell? ⟨gb476, 0, none⟩ = some (.int .i64 t470) ∧ w'.cell? ⟨gb476, 1, none⟩ = some (.int .i64 t471) ∧ w'.cell? ⟨gb476, 2, none⟩ = some (.int .i64 t472) ∧ w'.cell? ⟨gb486, 0, none⟩ = some (.int .i64 t482) ∧ w'.cell? ⟨gb486, 1, none⟩ = some (.int .i64 t483) ∧ w'.cell? ⟨gb486, 2, none⟩ = some (.int .i64 t484)) (ds := []) (fl 0 34 []) (by kernel_rfl) rfl rfl ⟨(blk_cell BK477.out 0).trans rfl, (blk_cell BK477.out 1).trans rfl, (blk_cell BK477.out 2).trans rfl, (blk_cell BK476.out 0).trans rfl, (blk_cell BK476.out 1).trans rfl, (blk_cell BK476.out 2).trans rfl, (blk_cell BK486.out 0).trans rfl, (blk_cell BK486.out 1).trans rfl, (blk_cell BK486.out 2).trans rfl⟩ (fun hHeld => ?_); refine with_tabW chattellaw10_MonthBetween.tab9 chattellaw10_MonthBetween.bits9 (fun HT_ HW_ => ?_)
            generalize w71.drew = w72 at BK464 BK465 BK476 BK477 BK486 HB hHeld ⊢
            refine one_ (i := 0) (N := some 69) (fl 1 34 []) rfl rfl (one_of HT_.out (by kernel_rfl)) (by decide) (fun K hK => ?_)
            refine goes_ Try.func16 (by kernel_rfl) rfl #[] (by rfl) rfl rfl (by (try simp only [List.map_toArray, List.map_cons, List.map_nil]); first | done | rfl | (simp only [List.length_drop, List.length_take]; rfl)) ?_
            with_reducible refine (chattellaw10_wakes.calls kj21  true _ A31.out).mono ?_
            rintro e w73 ⟨rfl, hb⟩
            refine ⟨_, rfl, ?_⟩
            replace BK464 := Aside0.mk (bb BK464.out hb)
            replace BK465 := Aside0.mk (bb BK465.out hb)
            replace BK476 := Aside0.mk (bb BK476.out hb)
            replace BK477 := Aside0.mk (bb BK477.out hb)
            replace BK486 := Aside0.mk (bb BK486.out hb)
            replace HB := Aside0.mk (bs HB.out hb)
            (try clear hb)
            (try clear hb2)
            (try clear hk)
            (try clear hi)
            refine hK.out _ _ ⟨(blk_cell BK477.out 0).trans rfl, (blk_cell BK477.out 1).trans rfl, (blk_cell BK477.out 2).trans rfl, (blk_cell BK476.out 0).trans rfl, (blk_cell BK476.out 1).trans rfl, (blk_cell BK476.out 2).trans rfl, (blk_cell BK486.out 0).trans rfl, (blk_cell BK486.out 1).trans rfl, (blk_cell BK486.out 2).trans rfl⟩ (fun hHeld => ?_)
            clear hK K
            refine norm_ (a' := ?_) ?_ ?_
            rotate_left
            · show Act.put _ (some 69) _ = _
              simp only [Act.put, List.setIfInBounds_toArray, List.set_cons_zero, List.set_cons_succ, i64_w, i32_w]
              rfl
            refine pure_ (i := 1) (N := some 70) (v := ?_) (a' := ?_) (fl 2 34 []) rfl rfl (any_of HT_.out (by kernel_rfl)) (fun _ _ _ h => h) (Or.inl ⟨by rfl, ?_⟩) ?_ ?_
            rotate_left
            · intro w'
              go_simp
              with_reducible rfl
            rotate_left
            · simp only [Act.put, List.setIfInBounds_toArray, List.set_cons_zero, List.set_cons_succ, i64_w, i32_w]
              rfl
            refine pure_ (i := 2) (N := some 71) (v := ?_) (a' := ?_) (fl 3 34 []) rfl rfl (any_of HT_.out (by kernel_rfl)) (fun _ _ _ h => h) (Or.inl ⟨by rfl, ?_⟩) ?_ ?_
            rotate_left
            · intro w'
              go_simp
              with_reducible rfl
            rotate_left
            · simp only [Act.put, List.setIfInBounds_toArray, List.set_cons_zero, List.set_cons_succ, i64_w, i32_w]
              rfl
            refine pure_ (i := 3) (N := some 72) (v := ?_) (a' := ?_) (fl 4 34 []) rfl rfl (any_of HT_.out (by kernel_rfl)) (fun _ _ _ h => h) (Or.inl ⟨by rfl, ?_⟩) ?_ ?_
            rotate_left
            · intro w'
              go_simp
              with_reducible rfl
            rotate_left
            · simp only [Act.put, List.setIfInBounds_toArray, List.set_cons_zero, List.set_cons_succ, i64_w, i32_w]
              rfl
            refine pure_ (i := 4) (N := some 73) (v := ?_) (a' := ?_) (fl 5 34 []) rfl rfl (any_of HT_.out (by kernel_rfl)) (fun _ _ _ h => h) (Or.inl ⟨by rfl, ?_⟩) ?_ ?_
            rotate_left
            · intro w'
              go_simp
              with_reducible rfl
            rotate_left
            · simp only [Act.put, List.setIfInBounds_toArray, List.set_cons_zero, List.set_cons_succ, i64_w, i32_w]
              rfl
            refine pure_ (i := 5) (N := some 74) (v := ?_) (a' := ?_) (fl 6 34 []) rfl rfl (any_of HT_.out (by kernel_rfl)) (fun _ _ _ h => h) (Or.inl ⟨by rfl, ?_⟩) ?_ ?_
            rotate_left
            · intro w'
              go_simp
              with_reducible rfl
            rotate_left
            · simp only [Act.put, List.setIfInBounds_toArray, List.set_cons_zero, List.set_cons_succ, i64_w, i32_w]
              rfl
            refine pure_ (i := 6) (N := some 75) (v := ?_) (a' := ?_) (fl 7 34 []) rfl rfl (any_of HT_.out (by kernel_rfl)) (fun _ _ _ h => h) (Or.inl ⟨by rfl, ?_⟩) ?_ ?_
            rotate_left
            · intro w'
              go_simp
              with_reducible rfl
            rotate_left
            · simp only [Act.put, List.setIfInBounds_toArray, List.set_cons_zero, List.set_cons_succ, i64_w, i32_w]
              rfl
            refine pure_ (i := 7) (N := some 76) (v := ?_) (a' := ?_) (fl 8 34 []) rfl rfl (any_of HT_.out (by kernel_rfl)) (fun _ _ _ h => h) (Or.inl ⟨by rfl, ?_⟩) ?_ ?_
            rotate_left
            · intro w'
              go_simp
              with_reducible rfl
            rotate_left
            · simp only [Act.put, List.setIfInBounds_toArray, List.set_cons_zero, List.set_cons_succ, i64_w, i32_w]
              rfl
            refine pure_ (i := 8) (N := some 77) (v := ?_) (a' := ?_) (fl 9 34 []) rfl rfl (any_of HT_.out (by kernel_rfl)) (fun _ _ _ h => h) (Or.inl ⟨by rfl, ?_⟩) ?_ ?_
            rotate_left
            · intro w'
              go_simp
              with_reducible rfl
            rotate_left
            · simp only [Act.put, List.setIfInBounds_toArray, List.set_cons_zero, List.set_cons_succ, i64_w, i32_w]
              rfl
            refine pure_ (i := 9) (N := some 78) (v := ?_) (a' := ?_) (fl 10 34 []) rfl rfl (any_of HT_.out (by kernel_rfl)) (fun _ _ _ h => h) (Or.inl ⟨by rfl, ?_⟩) ?_ ?_
            rotate_left
            · intro w'
              go_simp
              with_reducible rfl
            rotate_left
            · simp only [Act.put, List.setIfInBounds_toArray, List.set_cons_zero, List.set_cons_succ, i64_w, i32_w]
              rfl
            refine pure_ (i := 10) (N := some 79) (v := ?_) (a' := ?_) (fl 11 34 []) rfl rfl (any_of HT_.out (by kernel_rfl)) (fun _ _ _ h => h) (Or.inl ⟨by rfl, ?_⟩) ?_ ?_
            rotate_left
            · intro w'
              go_simp
              with_reducible rfl
            rotate_left
            · simp only [Act.put, List.setIfInBounds_toArray, List.set_cons_zero, List.set_cons_succ, i64_w, i32_w]
              rfl
            refine pure_ (i := 11) (N := some 80) (v := ?_) (a' := ?_) (fl 12 34 []) rfl rfl (any_of HT_.out (by kernel_rfl)) (fun _ _ _ h => h) (Or.inl ⟨by rfl, ?_⟩) ?_ ?_
            rotate_left
            · intro w'
              go_simp
              with_reducible rfl
            rotate_left
            · simp only [Act.put, List.setIfInBounds_toArray, List.set_cons_zero, List.set_cons_succ, i64_w, i32_w]
              rfl
            refine pure_ (i := 12) (N := some 81) (v := ?_) (a' := ?_) (fl 13 34 []) rfl rfl (any_of HT_.out (by kernel_rfl)) (fun _ _ _ h => h) (Or.inl ⟨by rfl, ?_⟩) ?_ ?_
            rotate_left
            · intro w'
              go_simp
              with_reducible rfl
            rotate_left
            · simp only [Act.put, List.setIfInBounds_toArray, List.set_cons_zero, List.set_cons_succ, i64_w, i32_w]
              rfl
            refine pure_ (i := 13) (N := some 82) (v := ?_) (a' := ?_) (fl 14 34 []) rfl rfl (any_of HT_.out (by kernel_rfl)) (fun _ _ _ h => h) (Or.inl ⟨by rfl, ?_⟩) ?_ ?_
            rotate_left
            · intro w'
              go_simp
              with_reducible rfl
            rotate_left
            · simp only [Act.put, List.setIfInBounds_toArray, List.set_cons_zero, List.set_cons_succ, i64_w, i32_w]
              rfl
            refine pure_ (i := 14) (N := some 83) (v := ?_) (a' := ?_) (fl 15 34 []) rfl rfl (any_of HT_.out (by kernel_rfl)) (fun _ _ _ h => h) (Or.inl ⟨by rfl, ?_⟩) ?_ ?_
            rotate_left
            · intro w'
              go_simp
              with_reducible rfl
            rotate_left
            · simp only [Act.put, List.setIfInBounds_toArray, List.set_cons_zero, List.set_cons_succ, i64_w, i32_w]
              rfl
            refine take_ (i := 15) (N := some 84) (v := ?_) (a' := ?_) (fl 16 34 []) rfl rfl (take_ofW HT_.out HW_.out (by kernel_rfl)) (fun _ _ _ h => h) (Or.inl ⟨by rfl, ?_⟩) hHeld ?_ ?_
            rotate_left
            · rintro w' ⟨s0, s1, s2, s3, s4, s5, s6, s7, s8⟩
              go_simp
              with_reducible rfl
            rotate_left
            · simp only [Act.put, List.setIfInBounds_toArray, List.set_cons_zero, List.set_cons_succ, i64_w, i32_w]
              rfl
            refine take_ (i := 17) (N := some 86) (v := ?_) (a' := ?_) (fl 16 34 [17]) rfl rfl (take_ofW HT_.out HW_.out (by kernel_rfl)) (fun _ _ _ h => h) (Or.inl ⟨by rfl, ?_⟩) hHeld ?_ ?_
            rotate_left
            · rintro w' ⟨s0, s1, s2, s3, s4, s5, s6, s7, s8⟩
              go_simp
              with_reducible rfl
            rotate_left
            · simp only [Act.put, List.setIfInBounds_toArray, List.set_cons_zero, List.set_cons_succ, i64_w, i32_w]
              rfl
            refine one_ (i := 16) (N := some 85) (fl 18 34 []) rfl rfl (one_of HT_.out (by kernel_rfl)) (by decide) (fun K hK => ?_)
            refine goes_ Try.func30 (by kernel_rfl) rfl #[.agg #[.int .i64 t473, .int .i64 t474, .int .i64 t475]] (by rfl) rfl rfl (by (try simp only [List.map_toArray, List.map_cons, List.map_nil]); first | done | rfl | (simp only [List.length_drop, List.length_take]; rfl)) ?_
            with_reducible refine (chattelref09_Number.calls kj21 t473 t474 t475 t488 _ A36.out).mono ?_
            rintro e w74 ⟨rfl, hb⟩
            refine ⟨_, rfl, ?_⟩
            replace BK464 := Aside0.mk (bb BK464.out hb)
            replace BK465 := Aside0.mk (bb BK465.out hb)
            replace BK476 := Aside0.mk (bb BK476.out hb)
            replace BK477 := Aside0.mk (bb BK477.out hb)
            replace BK486 := Aside0.mk (bb BK486.out hb)
            replace HB := Aside0.mk (bs HB.out hb)
            (try clear hb)
            (try clear hb2)
            (try clear hk)
            (try clear hi)
            refine hK.out _ _ ⟨(blk_cell BK477.out 0).trans rfl, (blk_cell BK477.out 1).trans rfl, (blk_cell BK477.out 2).trans rfl, (blk_cell BK476.out 0).trans rfl, (blk_cell BK476.out 1).trans rfl, (blk_cell BK476.out 2).trans rfl, (blk_cell BK486.out 0).trans rfl, (blk_cell BK486.out 1).trans rfl, (blk_cell BK486.out 2).trans rfl⟩ (fun hHeld => ?_)
            clear hK K
            refine norm_ (a' := ?_) ?_ ?_
            rotate_left
            · show Act.put _ (some 85) _ = _
              simp only [Act.put, List.setIfInBounds_toArray, List.set_cons_zero, List.set_cons_succ, i64_w, i32_w]
              rfl
            refine one_ (i := 18) (N := some 87) (fl 19 34 []) rfl rfl (one_of HT_.out (by kernel_rfl)) (by decide) (fun K hK => ?_)
            refine goes_ Try.func30 (by kernel_rfl) rfl #[.agg #[.int .i64 t470, .int .i64 t471, .int .i64 t472]] (by rfl) rfl rfl (by (try simp only [List.map_toArray, List.map_cons, List.map_nil]); first | done | rfl | (simp only [List.length_drop, List.length_take]; rfl)) ?_
            with_reducible refine (chattelref09_Number.calls kj21 t470 t471 t472 t489 _ A37.out).mono ?_
            rintro e w75 ⟨rfl, hb⟩
            refine ⟨_, rfl, ?_⟩
            replace BK464 := Aside0.mk (bb BK464.out hb)
            replace BK465 := Aside0.mk (bb BK465.out hb)
            replace BK476 := Aside0.mk (bb BK476.out hb)
            replace BK477 := Aside0.mk (bb BK477.out hb)
            replace BK486 := Aside0.mk (bb BK486.out hb)
            replace HB := Aside0.mk (bs HB.out hb)
            (try clear hb)
            (try clear hb2)
            (try clear hk)
            (try clear hi)
            refine hK.out _ _ ⟨(blk_cell BK477.out 0).trans rfl, (blk_cell BK477.out 1).trans rfl, (blk_cell BK477.out 2).trans rfl, (blk_cell BK476.out 0).trans rfl, (blk_cell BK476.out 1).trans rfl, (blk_cell BK476.out 2).trans rfl, (blk_cell BK486.out 0).trans rfl, (blk_cell BK486.out 1).trans rfl, (blk_cell BK486.out 2).trans rfl⟩ (fun hHeld => ?_)
            clear hK K
            refine norm_ (a' := ?_) ?_ ?_
            rotate_left
            · show Act.put _ (some 87) _ = _
              simp only [Act.put, List.setIfInBounds_toArray, List.set_cons_zero, List.set_cons_succ, i64_w, i32_w]
              rfl
            refine pure_ (i := 19) (N := some 88) (v := ?_) (a' := ?_) (fl 20 34 []) rfl rfl (any_of HT_.out (by kernel_rfl)) (fun _ _ _ h => h) (Or.inl ⟨by rfl, ?_⟩) ?_ ?_
            rotate_left
            · intro w'
              go_simp
              with_reducible rfl
            rotate_left
            · simp only [Act.put, List.setIfInBounds_toArray, List.set_cons_zero, List.set_cons_succ, i64_w, i32_w]
              rfl
            refine pure_ (i := 20) (N := some 89) (v := ?_) (a' := ?_) (fl 21 34 []) rfl rfl (any_of HT_.out (by kernel_rfl)) (fun _ _ _ h => h) (Or.inl ⟨by rfl, ?_⟩) ?_ ?_
            rotate_left
            · intro w'
              go_simp
              with_reducible rfl
            rotate_left
            · simp only [Act.put, List.setIfInBounds_toArray, List.set_cons_zero, List.set_cons_succ, i64_w, i32_w]
              rfl
            refine pure_ (i := 21) (N := some 90) (v := ?_) (a' := ?_) (fl 22 34 []) rfl rfl (any_of HT_.out (by kernel_rfl)) (fun _ _ _ h => h) (Or.inl ⟨by rfl, ?_⟩) ?_ ?_
            rotate_left
            · intro w'
              go_simp
              with_reducible rfl
            rotate_left
            · simp only [Act.put, List.setIfInBounds_toArray, List.set_cons_zero, List.set_cons_succ, i64_w, i32_w]
              rfl
            refine pure_ (i := 22) (N := some 91) (v := ?_) (a' := ?_) (fl 23 34 []) rfl rfl (any_of HT_.out (by kernel_rfl)) (fun _ _ _ h => h) (Or.inl ⟨by rfl, ?_⟩) ?_ ?_
            rotate_left
            · intro w'
              go_simp
              with_reducible rfl
            rotate_left
            · simp only [Act.put, List.setIfInBounds_toArray, List.set_cons_zero, List.set_cons_succ, i64_w, i32_w]
              rfl
            refine pure_ (i := 23) (N := some 92) (v := ?_) (a' := ?_) (fl 24 34 []) rfl rfl (any_of HT_.out (by kernel_rfl)) (fun _ _ _ h => h) (Or.inl ⟨by rfl, ?_⟩) ?_ ?_
            rotate_left
            · intro w'
              go_simp
              with_reducible rfl
            rotate_left
            · simp only [Act.put, List.setIfInBounds_toArray, List.set_cons_zero, List.set_cons_succ, i64_w, i32_w]
              rfl
            refine pure_ (i := 24) (N := some 93) (v := ?_) (a' := ?_) (fl 25 34 []) rfl rfl (any_of HT_.out (by kernel_rfl)) (fun _ _ _ h => h) (Or.inl ⟨by rfl, ?_⟩) ?_ ?_
            rotate_left
            · intro w'
              go_simp
              with_reducible rfl
            rotate_left
            · simp only [Act.put, List.setIfInBounds_toArray, List.set_cons_zero, List.set_cons_succ, i64_w, i32_w]
              rfl
            refine pure_ (i := 25) (N := some 94) (v := ?_) (a' := ?_) (fl 26 34 []) rfl rfl (any_of HT_.out (by kernel_rfl)) (fun _ _ _ h => h) (Or.inl ⟨by rfl, ?_⟩) ?_ ?_
            rotate_left
            · intro w'
              go_simp
              with_reducible rfl
            rotate_left
            · simp only [Act.put, List.setIfInBounds_toArray, List.set_cons_zero, List.set_cons_succ, i64_w, i32_w]
              rfl
            refine pure_ (i := 26) (N := some 95) (v := ?_) (a' := ?_) (fl 27 34 []) rfl rfl (any_of HT_.out (by kernel_rfl)) (fun _ _ _ h => h) (Or.inl ⟨by rfl, ?_⟩) ?_ ?_
            rotate_left
            · intro w'
              go_simp
              with_reducible rfl
            rotate_left
            · simp only [Act.put, List.setIfInBounds_toArray, List.set_cons_zero, List.set_cons_succ, i64_w, i32_w]
              rfl
            refine pure_ (i := 27) (N := some 96) (v := ?_) (a' := ?_) (fl 28 34 []) rfl rfl (any_of HT_.out (by kernel_rfl)) (fun _ _ _ h => h) (Or.inl ⟨by rfl, ?_⟩) ?_ ?_
            rotate_left
            · intro w'
              go_simp
              with_reducible rfl
            rotate_left
            · simp only [Act.put, List.setIfInBounds_toArray, List.set_cons_zero, List.set_cons_succ, i64_w, i32_w]
              rfl
            refine pure_ (i := 28) (N := some 97) (v := ?_) (a' := ?_) (fl 29 34 []) rfl rfl (any_of HT_.out (by kernel_rfl)) (fun _ _ _ h => h) (Or.inl ⟨by rfl, ?_⟩) ?_ ?_
            rotate_left
            · intro w'
              go_simp
              with_reducible rfl
            rotate_left
            · simp only [Act.put, List.setIfInBounds_toArray, List.set_cons_zero, List.set_cons_succ, i64_w, i32_w]
              rfl
            refine take_ (i := 29) (N := some 98) (v := ?_) (a' := ?_) (fl 30 34 []) rfl rfl (take_ofW HT_.out HW_.out (by kernel_rfl)) (fun _ _ _ h => h) (Or.inl ⟨by rfl, ?_⟩) hHeld ?_ ?_
            rotate_left
            · rintro w' ⟨s0, s1, s2, s3, s4, s5, s6, s7, s8⟩
              go_simp
              with_reducible rfl
            rotate_left
            · simp only [Act.put, List.setIfInBounds_toArray, List.set_cons_zero, List.set_cons_succ, i64_w, i32_w]
              rfl
            refine take_ (i := 30) (N := some 99) (v := ?_) (a' := ?_) (fl 31 34 []) rfl rfl (take_ofW HT_.out HW_.out (by kernel_rfl)) (fun _ _ _ h => h) (Or.inl ⟨by rfl, ?_⟩) hHeld ?_ ?_
            rotate_left
            · rintro w' ⟨s0, s1, s2, s3, s4, s5, s6, s7, s8⟩
              go_simp
              with_reducible rfl
            rotate_left
            · simp only [Act.put, List.setIfInBounds_toArray, List.set_cons_zero, List.set_cons_succ, i64_w, i32_w]
              rfl
            refine pure_ (i := 31) (N := some 100) (v := ?_) (a' := ?_) (fl 32 34 []) rfl rfl (any_of HT_.out (by kernel_rfl)) (fun _ _ _ h => h) (Or.inl ⟨by rfl, ?_⟩) ?_ ?_
            rotate_left
            · intro w'
              go_simp
              with_reducible rfl
            rotate_left
            · simp only [Act.put, List.setIfInBounds_toArray, List.set_cons_zero, List.set_cons_succ, i64_w, i32_w]
              rfl
            refine pure_ (i := 32) (N := some 101) (v := ?_) (a' := ?_) (fl 33 34 []) rfl rfl (any_of HT_.out (by kernel_rfl)) (fun _ _ _ h => h) (Or.inl ⟨by rfl, ?_⟩) ?_ ?_
            rotate_left
            · intro w'
              go_simp
              with_reducible rfl
            rotate_left
            · simp only [Act.put, List.setIfInBounds_toArray, List.set_cons_zero, List.set_cons_succ, i64_w, i32_w]
              rfl
            refine pure_ (i := 33) (N := some 4) (v := ?_) (a' := ?_) (fl 34 34 []) rfl rfl (any_of HT_.out (by kernel_rfl)) (fun _ _ _ h => h) (Or.inl ⟨by rfl, ?_⟩) ?_ ?_
            rotate_left
            · intro w'
              go_simp
              with_reducible rfl
            rotate_left
            · simp only [Act.put, List.setIfInBounds_toArray, List.set_cons_zero, List.set_cons_succ, i64_w, i32_w]
              rfl
            refine done_ (done_of HT_.out (by kernel_rfl)) ?_
            try go_wp2
            go_ret
            exact ⟨by first | rfl | (simp [errW_none, errW_some] <;> rfl) | (simp [*, errW_none, errW_some] <;> rfl), by repeat (first | (with_reducible first | exact HB.out | apply below_alloc | apply pw_below_drewN | apply below_drew1 | refine below_set ?_ GE464.out | refine below_set ?_ GE465.out | refine below_set ?_ GE476.out | refine below_set ?_ GE477.out | refine below_set ?_ GE486.out) | exact HB.out)⟩
          · replace c32 := Bool.eq_false_iff.mpr c32
            subst c32
            have H1 : (some false) = some r := by rw [if_neg (show ¬ (false = true) by decide)] at H; exact H
            clear H
            have H := H1
            clear H1
            exact absurd (Option.some.inj H) (by rw [ht_]; decide)

/-- THE ONE PURE STATEMENT of chattellaw10_MonthBetween: yours. -/
def chattellaw10_MonthBetween.Pure : Prop := ∀ (a0_0 : Int) (a0_1 : Int) (a0_2 : Int) (a1_0 : Int) (a1_1 : Int) (a1_2 : Int), (Lit.int .i64 a0_0).wf = true → (Lit.int .i64 a0_1).wf = true → (Lit.int .i64 a0_2).wf = true → (Lit.int .i64 a1_0).wf = true → (Lit.int .i64 a1_1).wf = true → (Lit.int .i64 a1_2).wf = true → ∃ k, chattellaw10_MonthBetween.f k a0_0 a0_1 a0_2 a1_0 a1_1 a1_2 = some true
theorem chattellaw10_MonthBetween.walk (P : chattellaw10_MonthBetween.Pure) (a0_0 : Int) (a0_1 : Int) (a0_2 : Int) (a1_0 : Int) (a1_1 : Int) (a1_2 : Int) (w : World) (w0_0 : (Lit.int .i64 a0_0).wf = true) (w0_1 : (Lit.int .i64 a0_1).wf = true) (w0_2 : (Lit.int .i64 a0_2).wf = true) (w1_0 : (Lit.int .i64 a1_0).wf = true) (w1_1 : (Lit.int .i64 a1_1).wf = true) (w1_2 : (Lit.int .i64 a1_2).wf = true) :
    Calls Try.prog 10 #[.agg #[.int .i64 a0_0, .int .i64 a0_1, .int .i64 a0_2], .agg #[.int .i64 a1_0, .int .i64 a1_1, .int .i64 a1_2]] w fun e w' => e = .returned (.bool true) ∧ Below w.heap.size w w' := by
  obtain ⟨k, h⟩ := P a0_0 a0_1 a0_2 a1_0 a1_1 a1_2 w0_0 w0_1 w0_2 w1_0 w1_1 w1_2
  refine (chattellaw10_MonthBetween.calls k a0_0 a0_1 a0_2 a1_0 a1_1 a1_2 true w h rfl).mono ?_
  rintro e w' ⟨rfl, hd⟩
  exact ⟨rfl, hd⟩

end Go.Proofs.Ytfikfmediheioaa.F
