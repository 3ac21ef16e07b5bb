-- Written by this session's printer (wip/tools), out of the translation's own print. Lean checks it.
import Derived.Test.YtfikfmediheioaaF0
import Derived.Test.YtfikfmediheioaaF1
import Derived.Test.YtfikfmediheioaaF4
import Derived.Test.YtfikfmediheioaaF29
import Derived.Test.YtfikfmediheioaaF35
import Derived.Test.YtfikfmediheioaaF36
import Derived.Test.YtfikfmediheioaaF40
namespace Go.Proofs.Ytfikfmediheioaa.F
open Go.RowKit Go.Proofs.YtfikfmediheioaaW.PrintWords Go.Proofs.YtfikfmediheioaaW.PrintLast Go.Proofs.YtfikfmediheioaaW.PrintMore Go.Proofs.YtfikfmediheioaaX
attribute [local go_sem] max2_int cell_some
attribute [local go_sem] max2_int min2_int max_two min_two max_three min_three max_four min_four   -- for this text's walks alone
set_option linter.unusedVariables false
set_option linter.unusedSimpArgs false

attribute [local go_sem high] eqA23
/-! ### chattellaw09_DateTexts: function 8 -/
def chattellaw09_DateTexts.j0 : Nat → ByteArray → Int → Bool → Int → Int → Int → Option (Bool)
  | 0, _, _, _, _, _, _ => none
  | k + 1, x0, x6, x54, x401000, x401001, x401002 => if x54 = true then (some false) else (if x6 = 0 then ((date_Print.f k x401000 x401001 x401002).bind fun bt417 => ((chattellaw09_wakes.f k).bind fun t419 => (if t419 = true then (if bt417.2 = 0 then (some (bt417.1.toList == x0.toList)) else (some false)) else (some false)))) else ((chattellaw09_wakes.f k).bind fun t420 => (if t420 = true then (some (x401000 == 0 && (x401001 == 0 && (x401002 == 0)))) else (some false))))
def chattellaw09_DateTexts.f (k : Nat) (a0 : ByteArray) (a1_0 : Int) (a1_1 : Int) (a1_2 : Int) : Option (Bool) := (date_Parse.f k a0).bind fun bt396 => ((chattelref09_Parse.f k a0).bind fun bt401 => ((chattelref09_Make.f k a1_0 a1_1 a1_2 9999).bind fun bt406 => ((date_Print.f k bt406.1 bt406.2.1 bt406.2.2).bind fun bt410 => ((date_Parse.f k bt410.1).bind fun bt412 => (if (!(bt396.1 == bt401.1) || (!(bt396.2.1 == bt401.2.1) || (!(bt396.2.2.1 == bt401.2.2.1)))) = true then (chattellaw09_DateTexts.j0 k a0 bt396.2.2.2 true bt396.1 bt396.2.1 bt396.2.2.1) else (if bt396.2.2.2 = bt401.2.2.2 then (if (!(bt412.1 == bt406.1) || (!(bt412.2.1 == bt406.2.1) || (!(bt412.2.2.1 == bt406.2.2)))) = true then (chattellaw09_DateTexts.j0 k a0 bt396.2.2.2 true bt396.1 bt396.2.1 bt396.2.2.1) else (chattellaw09_DateTexts.j0 k a0 bt396.2.2.2 (bt412.2.2.2 != 0) bt396.1 bt396.2.1 bt396.2.2.1)) else (chattellaw09_DateTexts.j0 k a0 bt396.2.2.2 true bt396.1 bt396.2.1 bt396.2.2.1)))))))
theorem chattellaw09_DateTexts.mono_l : ∀ k, (∀ y0 y1 y2 y3 y4 y5, LeO (chattellaw09_DateTexts.j0 k y0 y1 y2 y3 y4 y5) (chattellaw09_DateTexts.j0 (k + 1) y0 y1 y2 y3 y4 y5))
  | 0 => fun _ _ _ _ _ _ r h => by simp [chattellaw09_DateTexts.j0] at h
  | k + 1 => by
    have ih0 := chattellaw09_DateTexts.mono_l k
    · intro y0 y1 y2 y3 y4 y5
      unfold chattellaw09_DateTexts.j0
      repeat' first
      | (with_reducible exact ih0 _ _ _ _ _ _)
      | (with_reducible exact chattellaw09_wakes.mono _)
      | (with_reducible exact chattelref09_Make.mono _ _ _ _ _)
      | (with_reducible exact chattelref09_Parse.mono _ _)
      | (with_reducible exact date_Parse.mono _ _)
      | (with_reducible exact date_Print.mono _ _ _ _)
      | (with_reducible exact LeO.refl _)
      | (with_reducible exact LeO.none _)
      | (with_reducible refine LeO.ite ?_ ?_)
      | (with_reducible refine LeO.bind ?_ (fun _ => ?_))
      | exact ih0 _ _ _ _ _ _
      | exact chattellaw09_wakes.mono _
      | exact chattelref09_Make.mono _ _ _ _ _
      | exact chattelref09_Parse.mono _ _
      | exact date_Parse.mono _ _
      | exact date_Print.mono _ _ _ _
      | exact LeO.none _
      | refine LeO.ite ?_ ?_
      | refine LeO.bind ?_ (fun _ => ?_)
theorem chattellaw09_DateTexts.mono : ∀ a0 a1 a2 a3 k, LeO (chattellaw09_DateTexts.f k a0 a1 a2 a3) (chattellaw09_DateTexts.f (k + 1) a0 a1 a2 a3) := by
  intro a0 a1 a2 a3 k
  have ih0 := chattellaw09_DateTexts.mono_l k
  unfold chattellaw09_DateTexts.f
  repeat' first
      | (with_reducible exact ih0 _ _ _ _ _ _)
      | (with_reducible exact chattellaw09_wakes.mono _)
      | (with_reducible exact chattelref09_Make.mono _ _ _ _ _)
      | (with_reducible exact chattelref09_Parse.mono _ _)
      | (with_reducible exact date_Parse.mono _ _)
      | (with_reducible exact date_Print.mono _ _ _ _)
      | (with_reducible exact LeO.refl _)
      | (with_reducible exact LeO.none _)
      | (with_reducible refine LeO.ite ?_ ?_)
      | (with_reducible refine LeO.bind ?_ (fun _ => ?_))
      | exact ih0 _ _ _ _ _ _
      | exact chattellaw09_wakes.mono _
      | exact chattelref09_Make.mono _ _ _ _ _
      | exact chattelref09_Parse.mono _ _
      | exact date_Parse.mono _ _
      | exact date_Print.mono _ _ _ _
      | exact LeO.none _
      | refine LeO.ite ?_ ?_
      | refine LeO.bind ?_ (fun _ => ?_)
set_option maxHeartbeats 8000000 in
set_option maxRecDepth 100000 in
theorem chattellaw09_DateTexts.calls (k : Nat) (a0 : ByteArray) (a1_0 : Int) (a1_1 : Int) (a1_2 : Int) (r : Bool) (w : World) (h : chattellaw09_DateTexts.f k a0 a1_0 a1_1 a1_2 = some r) (ht_ : r = true) :
    Calls Try.prog 8 #[.string a0, .agg #[.int .i64 a1_0, .int .i64 a1_1, .int .i64 a1_2]] w fun e w' => e = .returned (.bool r) ∧ Below w.heap.size w w' := by
  have hu25 := Try.underlying25
  have hu23 := Try.underlying23
  have HB := Aside0.mk (Below.refl w.heap.size w)
  have H : ((date_Parse.f k a0).bind fun bt396 => ((chattelref09_Parse.f k a0).bind fun bt401 => ((chattelref09_Make.f k a1_0 a1_1 a1_2 9999).bind fun bt406 => ((date_Print.f k bt406.1 bt406.2.1 bt406.2.2).bind fun bt410 => ((date_Parse.f k bt410.1).bind fun bt412 => (if (!(bt396.1 == bt401.1) || (!(bt396.2.1 == bt401.2.1) || (!(bt396.2.2.1 == bt401.2.2.1)))) = true then (chattellaw09_DateTexts.j0 k a0 bt396.2.2.2 true bt396.1 bt396.2.1 bt396.2.2.1) else (if bt396.2.2.2 = bt401.2.2.2 then (if (!(bt412.1 == bt406.1) || (!(bt412.2.1 == bt406.2.1) || (!(bt412.2.2.1 == bt406.2.2)))) = true then (chattellaw09_DateTexts.j0 k a0 bt396.2.2.2 true bt396.1 bt396.2.1 bt396.2.2.1) else (chattellaw09_DateTexts.j0 k a0 bt396.2.2.2 (bt412.2.2.2 != 0) bt396.1 bt396.2.1 bt396.2.2.1)) else (chattellaw09_DateTexts.j0 k a0 bt396.2.2.2 true bt396.1 bt396.2.1 bt396.2.2.1)))))))) = some r := h
  clear h
  replace H := Option.bind_eq_some_iff.mp H
  obtain ⟨⟨t396, t397, t398, t399⟩, A30, H⟩ := H
  replace H : ((chattelref09_Parse.f k a0).bind fun bt401 => ((chattelref09_Make.f k a1_0 a1_1 a1_2 9999).bind fun bt406 => ((date_Print.f k bt406.1 bt406.2.1 bt406.2.2).bind fun bt410 => ((date_Parse.f k bt410.1).bind fun bt412 => (if (!(t396 == bt401.1) || (!(t397 == bt401.2.1) || (!(t398 == bt401.2.2.1)))) = true then (chattellaw09_DateTexts.j0 k a0 t399 true t396 t397 t398) else (if t399 = bt401.2.2.2 then (if (!(bt412.1 == bt406.1) || (!(bt412.2.1 == bt406.2.1) || (!(bt412.2.2.1 == bt406.2.2)))) = true then (chattellaw09_DateTexts.j0 k a0 t399 true t396 t397 t398) else (chattellaw09_DateTexts.j0 k a0 t399 (bt412.2.2.2 != 0) t396 t397 t398)) else (chattellaw09_DateTexts.j0 k a0 t399 true t396 t397 t398))))))) = some r := H
  have A3 := Aside0.mk A30
  clear A30
  replace H := Option.bind_eq_some_iff.mp H
  obtain ⟨⟨t401, t402, t403, t404⟩, A40, H⟩ := H
  replace H : ((chattelref09_Make.f k a1_0 a1_1 a1_2 9999).bind fun bt406 => ((date_Print.f k bt406.1 bt406.2.1 bt406.2.2).bind fun bt410 => ((date_Parse.f k bt410.1).bind fun bt412 => (if (!(t396 == t401) || (!(t397 == t402) || (!(t398 == t403)))) = true then (chattellaw09_DateTexts.j0 k a0 t399 true t396 t397 t398) else (if t399 = t404 then (if (!(bt412.1 == bt406.1) || (!(bt412.2.1 == bt406.2.1) || (!(bt412.2.2.1 == bt406.2.2)))) = true then (chattellaw09_DateTexts.j0 k a0 t399 true t396 t397 t398) else (chattellaw09_DateTexts.j0 k a0 t399 (bt412.2.2.2 != 0) t396 t397 t398)) else (chattellaw09_DateTexts.j0 k a0 t399 true t396 t397 t398)))))) = some r := H
  have A4 := Aside0.mk A40
  clear A40
  replace H := Option.bind_eq_some_iff.mp H
  obtain ⟨⟨t406, t407, t408⟩, A50, H⟩ := H
  replace H : ((date_Print.f k t406 t407 t408).bind fun bt410 => ((date_Parse.f k bt410.1).bind fun bt412 => (if (!(t396 == t401) || (!(t397 == t402) || (!(t398 == t403)))) = true then (chattellaw09_DateTexts.j0 k a0 t399 true t396 t397 t398) else (if t399 = t404 then (if (!(bt412.1 == t406) || (!(bt412.2.1 == t407) || (!(bt412.2.2.1 == t408)))) = true then (chattellaw09_DateTexts.j0 k a0 t399 true t396 t397 t398) else (chattellaw09_DateTexts.j0 k a0 t399 (bt412.2.2.2 != 0) t396 t397 t398)) else (chattellaw09_DateTexts.j0 k a0 t399 true t396 t397 t398))))) = some r := H
  have A5 := Aside0.mk A50
  clear A50
  replace H := Option.bind_eq_some_iff.mp H
  obtain ⟨⟨t410, t411⟩, A60, H⟩ := H
  replace H : ((date_Parse.f k t410).bind fun bt412 => (if (!(t396 == t401) || (!(t397 == t402) || (!(t398 == t403)))) = true then (chattellaw09_DateTexts.j0 k a0 t399 true t396 t397 t398) else (if t399 = t404 then (if (!(bt412.1 == t406) || (!(bt412.2.1 == t407) || (!(bt412.2.2.1 == t408)))) = true then (chattellaw09_DateTexts.j0 k a0 t399 true t396 t397 t398) else (chattellaw09_DateTexts.j0 k a0 t399 (bt412.2.2.2 != 0) t396 t397 t398)) else (chattellaw09_DateTexts.j0 k a0 t399 true t396 t397 t398)))) = some r := H
  have A6 := Aside0.mk A60
  clear A60
  replace H := Option.bind_eq_some_iff.mp H
  obtain ⟨⟨t412, t413, t414, t415⟩, A70, H⟩ := H
  replace H : (if (!(t396 == t401) || (!(t397 == t402) || (!(t398 == t403)))) = true then (chattellaw09_DateTexts.j0 k a0 t399 true t396 t397 t398) else (if t399 = t404 then (if (!(t412 == t406) || (!(t413 == t407) || (!(t414 == t408)))) = true then (chattellaw09_DateTexts.j0 k a0 t399 true t396 t397 t398) else (chattellaw09_DateTexts.j0 k a0 t399 (t415 != 0) t396 t397 t398)) else (chattellaw09_DateTexts.j0 k a0 t399 true t396 t397 t398))) = some r := H
  have A7 := Aside0.mk A70
  clear A70
  have HC8 := Aside0.mk H
  clear H
  go_enter Try.func8, Try.ntmps8
  go_upto_region 6 with (first | ((with_reducible refine gate_dst (N := 3) rfl ?_); refine box_event ?hg (N := 3) ?hd (cs := #[.int .i64 a1_0, .int .i64 a1_1, .int .i64 a1_2]) (t := 25) ?hr ?_; (case hd => rfl); (case hg => rfl); (case hr => first | (go_simp; done) | (go_simp; rfl)); intro gb395 hg w9 hbox hb; have n0_ := Aside0.mk (below_step (by repeat (first | (with_reducible first | exact HB.out | apply below_alloc | apply pw_below_drewN | apply below_drew1) | exact HB.out)) hb); have n1_ := Aside0.mk (hbox); have n2_ := Aside0.mk ((by rw [hg]; exact (below_size (by repeat (first | (with_reducible first | exact HB.out | apply below_alloc | apply pw_below_drewN | apply below_drew1) | exact HB.out))) : w.heap.size ≤ gb395)); have n3_ := Aside0.mk ((by rw [hg]; exact (below_size (by repeat (first | (with_reducible first | exact HB.out | apply below_alloc | apply pw_below_drewN | apply below_drew1) | exact HB.out))) : w.heap.size ≤ gb395)); clear HB; have HB := n0_; have BK395 := n1_; have GW395 := n2_; have GE395 := n3_; clear n0_ n1_ n2_ n3_; clear hb hbox hg) | ((with_reducible refine gate_callee (f := 35) rfl ?_); refine goesL_ (some 18) rfl rfl Try.func35 (by kernel_rfl) rfl #[.string a0] rfl (by (try simp only [List.map_toArray, List.map_cons, List.map_nil]); first | done | rfl | (simp only [List.length_drop, List.length_take]; rfl)) ?_; (with_reducible refine (date_Parse.calls k a0 t396 t397 t398 t399 _ A3.out).mono ?_); rintro e w10 ⟨rfl, hb⟩; refine ⟨_, rfl, ?_⟩; replace BK395 := Aside0.mk (bb BK395.out hb); replace HB := Aside0.mk (bs HB.out hb); (try clear hb); (try clear hb2); (try clear hk); (try clear hi)) | ((with_reducible refine gate_dst (N := 5) rfl ?_); refine box_event ?hg (N := 5) ?hd (cs := #[.int .i64 0, .int .i64 0, .int .i64 0]) (t := 23) ?hr ?_; (case hd => rfl); (case hg => rfl); (case hr => first | (go_simp; done) | (go_simp; rfl)); intro gb400 hg w11 hbox hb; have n0_ := Aside0.mk (bb BK395.out hb); have n1_ := Aside0.mk (bs HB.out hb); have n2_ := Aside0.mk (hbox); have n3_ := Aside0.mk ((by rw [hg]; exact (bz HB.out) : w.heap.size ≤ gb400)); have n4_ := Aside0.mk ((by rw [hg]; exact (bz HB.out) : w.heap.size ≤ gb400)); have n5_ := Aside0.mk ((by rw [hg]; exact Nat.ne_of_lt (blk_lt (g := gb395) (o := .cells #[.int .i64 a1_0, .int .i64 a1_1, .int .i64 a1_2] 25 (0, 0)) (by (with_reducible repeat (first | refine blk_drewN ?_ _ | refine blk_drew ?_ | refine blk_alloc ?_ _)); exact BK395.out)) : gb395 ≠ gb400)); have n6_ := Aside0.mk ((by rw [hg]; exact Nat.ne_of_gt (blk_lt (g := gb395) (o := .cells #[.int .i64 a1_0, .int .i64 a1_1, .int .i64 a1_2] 25 (0, 0)) (by (with_reducible repeat (first | refine blk_drewN ?_ _ | refine blk_drew ?_ | refine blk_alloc ?_ _)); exact BK395.out)) : gb400 ≠ gb395)); clear BK395; clear HB; have BK395 := n0_; have HB := n1_; have BK400 := n2_; have GW400 := n3_; have GE400 := n4_; have NB395_400 := n5_; have NB400_395 := n6_; clear n0_ n1_ n2_ n3_ n4_ n5_ n6_; clear hb hbox hg; have hnb12 := NB400_395.out; have hnc12 := NB395_400.out; have hcz13_0 : w11.cell? ⟨gb400, 0, none⟩ = some (.int .i64 0) := (blk_cell BK400.out 0).trans rfl; have hcz13_1 : w11.cell? ⟨gb400, 1, none⟩ = some (.int .i64 0) := (blk_cell BK400.out 1).trans rfl; have hcz13_2 : w11.cell? ⟨gb400, 2, none⟩ = some (.int .i64 0) := (blk_cell BK400.out 2).trans rfl; have hfz13_0 := blk_frozen BK400.out 0; have hfz13_1 := blk_frozen BK400.out 1; have hfz13_2 := blk_frozen BK400.out 2) | ((with_reducible refine gate_callee (f := 36) rfl ?_); refine goesL_ (some 23) rfl rfl Try.func36 (by kernel_rfl) rfl #[.string a0] rfl (by (try simp only [List.map_toArray, List.map_cons, List.map_nil]); first | done | rfl | (simp only [List.length_drop, List.length_take]; rfl)) ?_; (with_reducible refine (chattelref09_Parse.calls k a0 t401 t402 t403 t404 _ A4.out).mono ?_); rintro e w14 ⟨rfl, hb⟩; refine ⟨_, rfl, ?_⟩; replace BK395 := Aside0.mk (blk_below (g := gb395) (o := .cells #[.int .i64 a1_0, .int .i64 a1_1, .int .i64 a1_2] 25 (0, 0)) (by (with_reducible repeat (first | refine blk_drewN ?_ _ | refine blk_drew ?_ | refine blk_alloc ?_ _)); refine blk_far ?_ NB395_400.out _; (with_reducible repeat (first | refine blk_drewN ?_ _ | refine blk_drew ?_ | refine blk_alloc ?_ _)); refine blk_far ?_ NB395_400.out _; (with_reducible repeat (first | refine blk_drewN ?_ _ | refine blk_drew ?_ | refine blk_alloc ?_ _)); refine blk_far ?_ NB395_400.out _; (with_reducible repeat (first | refine blk_drewN ?_ _ | refine blk_drew ?_ | refine blk_alloc ?_ _)); exact BK395.out) hb); replace BK400 := Aside0.mk (blk_below (g := gb400) (o := .cells #[.int .i64 t396, .int .i64 t397, .int .i64 t398] 23 (0, 0)) (by (with_reducible repeat (first | refine blk_drewN ?_ _ | refine blk_drew ?_ | refine blk_alloc ?_ _)); refine blk_put (cs := #[.int .i64 t396, .int .i64 t397, .int .i64 0]) ?_ 2 _ rfl; (with_reducible repeat (first | refine blk_drewN ?_ _ | refine blk_drew ?_ | refine blk_alloc ?_ _)); refine blk_put (cs := #[.int .i64 t396, .int .i64 0, .int .i64 0]) ?_ 1 _ rfl; (with_reducible repeat (first | refine blk_drewN ?_ _ | refine blk_drew ?_ | refine blk_alloc ?_ _)); refine blk_put (cs := #[.int .i64 0, .int .i64 0, .int .i64 0]) ?_ 0 _ rfl; (with_reducible repeat (first | refine blk_drewN ?_ _ | refine blk_drew ?_ | refine blk_alloc ?_ _)); exact BK400.out) hb); replace HB := Aside0.mk (below_step (by repeat (first | (with_reducible first | exact HB.out | apply below_alloc | apply pw_below_drewN | apply below_drew1 | refine below_set ?_ GE395.out | refine below_set ?_ GE400.out) | exact HB.out)) hb); (try clear hb); (try clear hb2); (try clear hk); (try clear hi)) | ((with_reducible refine gate_dst (N := 7) rfl ?_); refine box_event ?hg (N := 7) ?hd (cs := #[.int .i64 0, .int .i64 0, .int .i64 0]) (t := 23) ?hr ?_; (case hd => rfl); (case hg => rfl); (case hr => first | (go_simp; done) | (go_simp; rfl)); intro gb405 hg w15 hbox hb; have n0_ := Aside0.mk (bb BK395.out hb); have n1_ := Aside0.mk (bb BK400.out hb); have n2_ := Aside0.mk (bs HB.out hb); have n3_ := Aside0.mk (hbox); have n4_ := Aside0.mk ((by rw [hg]; exact (bz HB.out) : w.heap.size ≤ gb405)); have n5_ := Aside0.mk ((by rw [hg]; exact (bz HB.out) : w.heap.size ≤ gb405)); have n6_ := Aside0.mk ((by rw [hg]; exact Nat.ne_of_lt (blk_lt (g := gb395) (o := .cells #[.int .i64 a1_0, .int .i64 a1_1, .int .i64 a1_2] 25 (0, 0)) (by (with_reducible repeat (first | refine blk_drewN ?_ _ | refine blk_drew ?_ | refine blk_alloc ?_ _)); exact BK395.out)) : gb395 ≠ gb405)); have n7_ := Aside0.mk ((by rw [hg]; exact Nat.ne_of_gt (blk_lt (g := gb395) (o := .cells #[.int .i64 a1_0, .int .i64 a1_1, .int .i64 a1_2] 25 (0, 0)) (by (with_reducible repeat (first | refine blk_drewN ?_ _ | refine blk_drew ?_ | refine blk_alloc ?_ _)); exact BK395.out)) : gb405 ≠ gb395)); have n8_ := Aside0.mk ((by rw [hg]; exact Nat.ne_of_lt (blk_lt (g := gb400) (o := .cells #[.int .i64 t396, .int .i64 t397, .int .i64 t398] 23 (0, 0)) (by (with_reducible repeat (first | refine blk_drewN ?_ _ | refine blk_drew ?_ | refine blk_alloc ?_ _)); exact BK400.out)) : gb400 ≠ gb405)); have n9_ := Aside0.mk ((by rw [hg]; exact Nat.ne_of_gt (blk_lt (g := gb400) (o := .cells #[.int .i64 t396, .int .i64 t397, .int .i64 t398] 23 (0, 0)) (by (with_reducible repeat (first | refine blk_drewN ?_ _ | refine blk_drew ?_ | refine blk_alloc ?_ _)); exact BK400.out)) : gb405 ≠ gb400)); clear BK395; clear BK400; clear HB; have BK395 := n0_; have BK400 := n1_; have HB := n2_; have BK405 := n3_; have GW405 := n4_; have GE405 := n5_; have NB395_405 := n6_; have NB405_395 := n7_; have NB400_405 := n8_; have NB405_400 := n9_; clear n0_ n1_ n2_ n3_ n4_ n5_ n6_ n7_ n8_ n9_; clear hb hbox hg; have hnb16 := NB405_395.out; have hnc16 := NB395_405.out; have hnb17 := NB405_400.out; have hnc17 := NB400_405.out; have hcz18_0 : w15.cell? ⟨gb405, 0, none⟩ = some (.int .i64 0) := (blk_cell BK405.out 0).trans rfl; have hcz18_1 : w15.cell? ⟨gb405, 1, none⟩ = some (.int .i64 0) := (blk_cell BK405.out 1).trans rfl; have hcz18_2 : w15.cell? ⟨gb405, 2, none⟩ = some (.int .i64 0) := (blk_cell BK405.out 2).trans rfl; have hfz18_0 := blk_frozen BK405.out 0; have hfz18_1 := blk_frozen BK405.out 1; have hfz18_2 := blk_frozen BK405.out 2; have hcz19_0 : w15.cell? ⟨gb395, 0, none⟩ = some (.int .i64 a1_0) := (blk_cell BK395.out 0).trans rfl; have hcz19_1 : w15.cell? ⟨gb395, 1, none⟩ = some (.int .i64 a1_1) := (blk_cell BK395.out 1).trans rfl; have hcz19_2 : w15.cell? ⟨gb395, 2, none⟩ = some (.int .i64 a1_2) := (blk_cell BK395.out 2).trans rfl; have hfz19_0 := blk_frozen BK395.out 0; have hfz19_1 := blk_frozen BK395.out 1; have hfz19_2 := blk_frozen BK395.out 2) | ((with_reducible refine gate_callee (f := 12) rfl ?_); refine goesL_ (some 27) rfl rfl Try.func12 (by kernel_rfl) rfl #[.agg #[.int .i64 a1_0, .int .i64 a1_1, .int .i64 a1_2], .int .i64 9999] rfl (by (try simp only [List.map_toArray, List.map_cons, List.map_nil]); first | done | rfl | (simp only [List.length_drop, List.length_take]; rfl)) ?_; (with_reducible refine (chattelref09_Make.calls k a1_0 a1_1 a1_2 9999 t406 t407 t408 _ A5.out).mono ?_); rintro e w20 ⟨rfl, hb⟩; refine ⟨_, rfl, ?_⟩; replace BK395 := Aside0.mk (blk_below (g := gb395) (o := .cells #[.int .i64 a1_0, .int .i64 a1_1, .int .i64 a1_2] 25 (0, 0)) (by (with_reducible repeat (first | refine blk_drewN ?_ _ | refine blk_drew ?_ | refine blk_alloc ?_ _)); refine blk_far ?_ NB395_405.out _; (with_reducible repeat (first | refine blk_drewN ?_ _ | refine blk_drew ?_ | refine blk_alloc ?_ _)); refine blk_far ?_ NB395_405.out _; (with_reducible repeat (first | refine blk_drewN ?_ _ | refine blk_drew ?_ | refine blk_alloc ?_ _)); refine blk_far ?_ NB395_405.out _; (with_reducible repeat (first | refine blk_drewN ?_ _ | refine blk_drew ?_ | refine blk_alloc ?_ _)); exact BK395.out) hb); replace BK400 := Aside0.mk (blk_below (g := gb400) (o := .cells #[.int .i64 t396, .int .i64 t397, .int .i64 t398] 23 (0, 0)) (by (with_reducible repeat (first | refine blk_drewN ?_ _ | refine blk_drew ?_ | refine blk_alloc ?_ _)); refine blk_far ?_ NB400_405.out _; (with_reducible repeat (first | refine blk_drewN ?_ _ | refine blk_drew ?_ | refine blk_alloc ?_ _)); refine blk_far ?_ NB400_405.out _; (with_reducible repeat (first | refine blk_drewN ?_ _ | refine blk_drew ?_ | refine blk_alloc ?_ _)); refine blk_far ?_ NB400_405.out _; (with_reducible repeat (first | refine blk_drewN ?_ _ | refine blk_drew ?_ | refine blk_alloc ?_ _)); exact BK400.out) hb); replace BK405 := Aside0.mk (blk_below (g := gb405) (o := .cells #[.int .i64 t401, .int .i64 t402, .int .i64 t403] 23 (0, 0)) (by (with_reducible repeat (first | refine blk_drewN ?_ _ | refine blk_drew ?_ | refine blk_alloc ?_ _)); refine blk_put (cs := #[.int .i64 t401, .int .i64 t402, .int .i64 0]) ?_ 2 _ rfl; (with_reducible repeat (first | refine blk_drewN ?_ _ | refine blk_drew ?_ | refine blk_alloc ?_ _)); refine blk_put (cs := #[.int .i64 t401, .int .i64 0, .int .i64 0]) ?_ 1 _ rfl; (with_reducible repeat (first | refine blk_drewN ?_ _ | refine blk_drew ?_ | refine blk_alloc ?_ _)); refine blk_put (cs := #[.int .i64 0, .int .i64 0, .int .i64 0]) ?_ 0 _ rfl; (with_reducible repeat (first | refine blk_drewN ?_ _ | refine blk_drew ?_ | refine blk_alloc ?_ _)); exact BK405.out) hb); replace HB := Aside0.mk (below_step (by repeat (first | (with_reducible first | exact HB.out | apply below_alloc | apply pw_below_drewN | apply below_drew1 | refine below_set ?_ GE395.out | refine below_set ?_ GE400.out | refine below_set ?_ GE405.out) | exact HB.out)) hb); (try clear hb); (try clear hb2); (try clear hk); (try clear hi)) | ((with_reducible refine gate_dst (N := 9) rfl ?_); refine box_event ?hg (N := 9) ?hd (cs := #[.int .i64 0, .int .i64 0, .int .i64 0]) (t := 23) ?hr ?_; (case hd => rfl); (case hg => rfl); (case hr => first | (go_simp; done) | (go_simp; rfl)); intro gb409 hg w21 hbox hb; have n0_ := Aside0.mk (bb BK395.out hb); have n1_ := Aside0.mk (bb BK400.out hb); have n2_ := Aside0.mk (bb BK405.out hb); have n3_ := Aside0.mk (bs HB.out hb); have n4_ := Aside0.mk (hbox); have n5_ := Aside0.mk ((by rw [hg]; exact (bz HB.out) : w.heap.size ≤ gb409)); have n6_ := Aside0.mk ((by rw [hg]; exact (bz HB.out) : w.heap.size ≤ gb409)); have n7_ := Aside0.mk ((by rw [hg]; exact Nat.ne_of_lt (blk_lt (g := gb395) (o := .cells #[.int .i64 a1_0, .int .i64 a1_1, .int .i64 a1_2] 25 (0, 0)) (by (with_reducible repeat (first | refine blk_drewN ?_ _ | refine blk_drew ?_ | refine blk_alloc ?_ _)); exact BK395.out)) : gb395 ≠ gb409)); have n8_ := Aside0.mk ((by rw [hg]; exact Nat.ne_of_gt (blk_lt (g := gb395) (o := .cells #[.int .i64 a1_0, .int .i64 a1_1, .int .i64 a1_2] 25 (0, 0)) (by (with_reducible repeat (first | refine blk_drewN ?_ _ | refine blk_drew ?_ | refine blk_alloc ?_ _)); exact BK395.out)) : gb409 ≠ gb395)); have n9_ := Aside0.mk ((by rw [hg]; exact Nat.ne_of_lt (blk_lt (g := gb400) (o := .cells #[.int .i64 t396, .int .i64 t397, .int .i64 t398] 23 (0, 0)) (by (with_reducible repeat (first | refine blk_drewN ?_ _ | refine blk_drew ?_ | refine blk_alloc ?_ _)); exact BK400.out)) : gb400 ≠ gb409)); have n10_ := Aside0.mk ((by rw [hg]; exact Nat.ne_of_gt (blk_lt (g := gb400) (o := .cells #[.int .i64 t396, .int .i64 t397, .int .i64 t398] 23 (0, 0)) (by (with_reducible repeat (first | refine blk_drewN ?_ _ | refine blk_drew ?_ | refine blk_alloc ?_ _)); exact BK400.out)) : gb409 ≠ gb400)); have n11_ := Aside0.mk ((by rw [hg]; exact Nat.ne_of_lt (blk_lt (g := gb405) (o := .cells #[.int .i64 t401, .int .i64 t402, .int .i64 t403] 23 (0, 0)) (by (with_reducible repeat (first | refine blk_drewN ?_ _ | refine blk_drew ?_ | refine blk_alloc ?_ _)); exact BK405.out)) : gb405 ≠ gb409)); have n12_ := Aside0.mk ((by rw [hg]; exact Nat.ne_of_gt (blk_lt (g := gb405) (o := .cells #[.int .i64 t401, .int .i64 t402, .int .i64 t403] 23 (0, 0)) (by (with_reducible repeat (first | refine blk_drewN ?_ _ | refine blk_drew ?_ | refine blk_alloc ?_ _)); exact BK405.out)) : gb409 ≠ gb405)); clear BK395; clear BK400; clear BK405; clear HB; have BK395 := n0_; have BK400 := n1_; have BK405 := n2_; have HB := n3_; have BK409 := n4_; have GW409 := n5_; have GE409 := n6_; have NB395_409 := n7_; have NB409_395 := n8_; have NB400_409 := n9_; have NB409_400 := n10_; have NB405_409 := n11_; have NB409_405 := n12_; clear n0_ n1_ n2_ n3_ n4_ n5_ n6_ n7_ n8_ n9_ n10_ n11_ n12_; clear hb hbox hg; have hnb22 := NB409_395.out; have hnc22 := NB395_409.out; have hnb23 := NB409_400.out; have hnc23 := NB400_409.out; have hnb24 := NB409_405.out; have hnc24 := NB405_409.out; have hcz25_0 : w21.cell? ⟨gb409, 0, none⟩ = some (.int .i64 0) := (blk_cell BK409.out 0).trans rfl; have hcz25_1 : w21.cell? ⟨gb409, 1, none⟩ = some (.int .i64 0) := (blk_cell BK409.out 1).trans rfl; have hcz25_2 : w21.cell? ⟨gb409, 2, none⟩ = some (.int .i64 0) := (blk_cell BK409.out 2).trans rfl; have hfz25_0 := blk_frozen BK409.out 0; have hfz25_1 := blk_frozen BK409.out 1; have hfz25_2 := blk_frozen BK409.out 2) | ((with_reducible refine gate_callee (f := 24) rfl ?_); refine goesL_ (some 30) rfl rfl Try.func24 (by kernel_rfl) rfl #[.agg #[.int .i64 t406, .int .i64 t407, .int .i64 t408]] rfl (by (try simp only [List.map_toArray, List.map_cons, List.map_nil]); first | done | rfl | (simp only [List.length_drop, List.length_take]; rfl)) ?_; (with_reducible refine (date_Print.calls k t406 t407 t408 t410 t411 _ A6.out).mono ?_); rintro e w26 ⟨rfl, hb⟩; refine ⟨_, rfl, ?_⟩; replace BK395 := Aside0.mk (blk_below (g := gb395) (o := .cells #[.int .i64 a1_0, .int .i64 a1_1, .int .i64 a1_2] 25 (0, 0)) (by (with_reducible repeat (first | refine blk_drewN ?_ _ | refine blk_drew ?_ | refine blk_alloc ?_ _)); refine blk_far ?_ NB395_409.out _; (with_reducible repeat (first | refine blk_drewN ?_ _ | refine blk_drew ?_ | refine blk_alloc ?_ _)); refine blk_far ?_ NB395_409.out _; (with_reducible repeat (first | refine blk_drewN ?_ _ | refine blk_drew ?_ | refine blk_alloc ?_ _)); refine blk_far ?_ NB395_409.out _; (with_reducible repeat (first | refine blk_drewN ?_ _ | refine blk_drew ?_ | refine blk_alloc ?_ _)); exact BK395.out) hb); replace BK400 := Aside0.mk (blk_below (g := gb400) (o := .cells #[.int .i64 t396, .int .i64 t397, .int .i64 t398] 23 (0, 0)) (by (with_reducible repeat (first | refine blk_drewN ?_ _ | refine blk_drew ?_ | refine blk_alloc ?_ _)); refine blk_far ?_ NB400_409.out _; (with_reducible repeat (first | refine blk_drewN ?_ _ | refine blk_drew ?_ | refine blk_alloc ?_ _)); refine blk_far ?_ NB400_409.out _; (with_reducible repeat (first | refine blk_drewN ?_ _ | refine blk_drew ?_ | refine blk_alloc ?_ _)); refine blk_far ?_ NB400_409.out _; (with_reducible repeat (first | refine blk_drewN ?_ _ | refine blk_drew ?_ | refine blk_alloc ?_ _)); exact BK400.out) hb); replace BK405 := Aside0.mk (blk_below (g := gb405) (o := .cells #[.int .i64 t401, .int .i64 t402, .int .i64 t403] 23 (0, 0)) (by (with_reducible repeat (first | refine blk_drewN ?_ _ | refine blk_drew ?_ | refine blk_alloc ?_ _)); refine blk_far ?_ NB405_409.out _; (with_reducible repeat (first | refine blk_drewN ?_ _ | refine blk_drew ?_ | refine blk_alloc ?_ _)); refine blk_far ?_ NB405_409.out _; (with_reducible repeat (first | refine blk_drewN ?_ _ | refine blk_drew ?_ | refine blk_alloc ?_ _)); refine blk_far ?_ NB405_409.out _; (with_reducible repeat (first | refine blk_drewN ?_ _ | refine blk_drew ?_ | refine blk_alloc ?_ _)); exact BK405.out) hb); replace BK409 := Aside0.mk (blk_below (g := gb409) (o := .cells #[.int .i64 t406, .int .i64 t407, .int .i64 t408] 23 (0, 0)) (by (with_reducible repeat (first | refine blk_drewN ?_ _ | refine blk_drew ?_ | refine blk_alloc ?_ _)); refine blk_put (cs := #[.int .i64 t406, .int .i64 t407, .int .i64 0]) ?_ 2 _ rfl; (with_reducible repeat (first | refine blk_drewN ?_ _ | refine blk_drew ?_ | refine blk_alloc ?_ _)); refine blk_put (cs := #[.int .i64 t406, .int .i64 0, .int .i64 0]) ?_ 1 _ rfl; (with_reducible repeat (first | refine blk_drewN ?_ _ | refine blk_drew ?_ | refine blk_alloc ?_ _)); refine blk_put (cs := #[.int .i64 0, .int .i64 0, .int .i64 0]) ?_ 0 _ rfl; (with_reducible repeat (first | refine blk_drewN ?_ _ | refine blk_drew ?_ | refine blk_alloc ?_ _)); exact BK409.out) hb); replace HB := Aside0.mk (below_step (by repeat (first | (with_reducible first | exact HB.out | apply below_alloc | apply pw_below_drewN | apply below_drew1 | refine below_set ?_ GE395.out | refine below_set ?_ GE400.out | refine below_set ?_ GE405.out | refine below_set ?_ GE409.out) | exact HB.out)) hb); (try clear hb); (try clear hb2); (try clear hk); (try clear hi)) | ((with_reducible refine gate_callee (f := 35) rfl ?_); refine goesL_ (some 35) rfl rfl Try.func35 (by kernel_rfl) rfl #[.string t410] rfl (by (try simp only [List.map_toArray, List.map_cons, List.map_nil]); first | done | rfl | (simp only [List.length_drop, List.length_take]; rfl)) ?_; (with_reducible refine (date_Parse.calls k t410 t412 t413 t414 t415 _ A7.out).mono ?_); rintro e w27 ⟨rfl, hb⟩; refine ⟨_, rfl, ?_⟩; replace BK395 := Aside0.mk (bb BK395.out hb); replace BK400 := Aside0.mk (bb BK400.out hb); replace BK405 := Aside0.mk (bb BK405.out hb); replace BK409 := Aside0.mk (bb BK409.out hb); replace HB := Aside0.mk (bs HB.out hb); (try clear hb); (try clear hb2); (try clear hk); (try clear hi)) | ((with_reducible refine gate_dst (N := 12) rfl ?_); refine box_event ?hg (N := 12) ?hd (cs := #[.int .i64 0, .int .i64 0, .int .i64 0]) (t := 23) ?hr ?_; (case hd => rfl); (case hg => rfl); (case hr => first | (go_simp; done) | (go_simp; rfl)); intro gb416 hg w28 hbox hb; have n0_ := Aside0.mk (bb BK395.out hb); have n1_ := Aside0.mk (bb BK400.out hb); have n2_ := Aside0.mk (bb BK405.out hb); have n3_ := Aside0.mk (bb BK409.out hb); have n4_ := Aside0.mk (bs HB.out hb); have n5_ := Aside0.mk (hbox); have n6_ := Aside0.mk ((by rw [hg]; exact (bz HB.out) : w.heap.size ≤ gb416)); have n7_ := Aside0.mk ((by rw [hg]; exact (bz HB.out) : w.heap.size ≤ gb416)); have n8_ := Aside0.mk ((by rw [hg]; exact Nat.ne_of_lt (blk_lt (g := gb395) (o := .cells #[.int .i64 a1_0, .int .i64 a1_1, .int .i64 a1_2] 25 (0, 0)) (by (with_reducible repeat (first | refine blk_drewN ?_ _ | refine blk_drew ?_ | refine blk_alloc ?_ _)); exact BK395.out)) : gb395 ≠ gb416)); have n9_ := Aside0.mk ((by rw [hg]; exact Nat.ne_of_gt (blk_lt (g := gb395) (o := .cells #[.int .i64 a1_0, .int .i64 a1_1, .int .i64 a1_2] 25 (0, 0)) (by (with_reducible repeat (first | refine blk_drewN ?_ _ | refine blk_drew ?_ | refine blk_alloc ?_ _)); exact BK395.out)) : gb416 ≠ gb395)); have n10_ := Aside0.mk ((by rw [hg]; exact Nat.ne_of_lt (blk_lt (g := gb400) (o := .cells #[.int .i64 t396, .int .i64 t397, .int .i64 t398] 23 (0, 0)) (by (with_reducible repeat (first | refine blk_drewN ?_ _ | refine blk_drew ?_ | refine blk_alloc ?_ _)); exact BK400.out)) : gb400 ≠ gb416)); have n11_ := Aside0.mk ((by rw [hg]; exact Nat.ne_of_gt (blk_lt (g := gb400) (o := .cells #[.int .i64 t396, .int .i64 t397, .int .i64 t398] 23 (0, 0)) (by (with_reducible repeat (first | refine blk_drewN ?_ _ | refine blk_drew ?_ | refine blk_alloc ?_ _)); exact BK400.out)) : gb416 ≠ gb400)); have n12_ := Aside0.mk ((by rw [hg]; exact Nat.ne_of_lt (blk_lt (g := gb405) (o := .cells #[.int .i64 t401, .int .i64 t402, .int .i64 t403] 23 (0, 0)) (by (with_reducible repeat (first | refine blk_drewN ?_ _ | refine blk_drew ?_ | refine blk_alloc ?_ _)); exact BK405.out)) : gb405 ≠ gb416)); have n13_ := Aside0.mk ((by rw [hg]; exact Nat.ne_of_gt (blk_lt (g := gb405) (o := .cells #[.int .i64 t401, .int .i64 t402, .int .i64 t403] 23 (0, 0)) (by (with_reducible repeat (first | refine blk_drewN ?_ _ | refine blk_drew ?_ | refine blk_alloc ?_ _)); exact BK405.out)) : gb416 ≠ gb405)); have n14_ := Aside0.mk ((by rw [hg]; exact Nat.ne_of_lt (blk_lt (g := gb409) (o := .cells #[.int .i64 t406, .int .i64 t407, .int .i64 t408] 23 (0, 0)) (by (with_reducible repeat (first | refine blk_drewN ?_ _ | refine blk_drew ?_ | refine blk_alloc ?_ _)); exact BK409.out)) : gb409 ≠ gb416)); have n15_ := Aside0.mk ((by rw [hg]; exact Nat.ne_of_gt (blk_lt (g := gb409) (o := .cells #[.int .i64 t406, .int .i64 t407, .int .i64 t408] 23 (0, 0)) (by (with_reducible repeat (first | refine blk_drewN ?_ _ | refine blk_drew ?_ | refine blk_alloc ?_ _)); exact BK409.out)) : gb416 ≠ gb409)); clear BK395; clear BK400; clear BK405; clear BK409; clear HB; have BK395 := n0_; have BK400 := n1_; have BK405 := n2_; have BK409 := n3_; have HB := n4_; have BK416 := n5_; have GW416 := n6_; have GE416 := n7_; have NB395_416 := n8_; have NB416_395 := n9_; have NB400_416 := n10_; have NB416_400 := n11_; have NB405_416 := n12_; have NB416_405 := n13_; have NB409_416 := n14_; have NB416_409 := n15_; clear n0_ n1_ n2_ n3_ n4_ n5_ n6_ n7_ n8_ n9_ n10_ n11_ n12_ n13_ n14_ n15_; clear hb hbox hg; have hnb29 := NB416_395.out; have hnc29 := NB395_416.out; have hnb30 := NB416_400.out; have hnc30 := NB400_416.out; have hnb31 := NB416_405.out; have hnc31 := NB405_416.out; have hnb32 := NB416_409.out; have hnc32 := NB409_416.out; have hcz33_0 : w28.cell? ⟨gb416, 0, none⟩ = some (.int .i64 0) := (blk_cell BK416.out 0).trans rfl; have hcz33_1 : w28.cell? ⟨gb416, 1, none⟩ = some (.int .i64 0) := (blk_cell BK416.out 1).trans rfl; have hcz33_2 : w28.cell? ⟨gb416, 2, none⟩ = some (.int .i64 0) := (blk_cell BK416.out 2).trans rfl; have hfz33_0 := blk_frozen BK416.out 0; have hfz33_1 := blk_frozen BK416.out 1; have hfz33_2 := blk_frozen BK416.out 2))
  (try simp only [Act.put, List.setIfInBounds_toArray, List.set_cons_zero, List.set_cons_succ])
  go_cut [54] (fun v54 wc => ∃ (kq : Nat) (x54_7 : Bool), v54 = .bool x54_7 ∧ Aside0 (chattellaw09_DateTexts.j0 kq a0 t399 x54_7 t396 t397 t398 = some r) ∧ Aside0 (kq ≤ k) ∧ Aside0 (wc.heap[gb395]? = some (.cells #[.int .i64 a1_0, .int .i64 a1_1, .int .i64 a1_2] 25 (0, 0))) ∧ Aside0 (wc.heap[gb400]? = some (.cells #[.int .i64 t396, .int .i64 t397, .int .i64 t398] 23 (0, 0))) ∧ Aside0 (wc.heap[gb405]? = some (.cells #[.int .i64 t401, .int .i64 t402, .int .i64 t403] 23 (0, 0))) ∧ Aside0 (wc.heap[gb409]? = some (.cells #[.int .i64 t406, .int .i64 t407, .int .i64 t408] 23 (0, 0))) ∧ Aside0 (wc.heap[gb416]? = some (.cells #[.int .i64 t412, .int .i64 t413, .int .i64 t414] 23 (0, 0))) ∧ Aside0 (Below w.heap.size w wc))
  case first =>
    have H := HC8.out
    clear HC8
    by_cases c34 : (!(t396 == t401) || (!(t397 == t402) || (!(t398 == t403)))) = true
    · rw [if_pos c34] at H
      have c34b0 : (!(t396 == t401) || (!(t397 == t402) || (!(t398 == t403)))) = true := c34
      clear c34
      (first | rw [c34b0] | (simp only [i64_w, i32_w]; rw [c34b0]) | skip)
      have H' := Aside0.mk H
      clear H
      have hnb35 := NB400_395.out
      have hnc35 := NB395_400.out
      have hnb36 := NB400_405.out
      have hnc36 := NB405_400.out
      have hnb37 := NB400_409.out
      have hnc37 := NB409_400.out
      have hnb38 := NB400_416.out
      have hnc38 := NB416_400.out
      have hcz39_0 : w28.cell? ⟨gb400, 0, none⟩ = some (.int .i64 t396) := (blk_cell BK400.out 0).trans rfl
      have hcz39_1 : w28.cell? ⟨gb400, 1, none⟩ = some (.int .i64 t397) := (blk_cell BK400.out 1).trans rfl
      have hcz39_2 : w28.cell? ⟨gb400, 2, none⟩ = some (.int .i64 t398) := (blk_cell BK400.out 2).trans rfl
      have hfz39_0 := blk_frozen BK400.out 0
      have hfz39_1 := blk_frozen BK400.out 1
      have hfz39_2 := blk_frozen BK400.out 2
      have hnb40 := NB405_395.out
      have hnc40 := NB395_405.out
      have hnb41 := NB405_409.out
      have hnc41 := NB409_405.out
      have hnb42 := NB405_416.out
      have hnc42 := NB416_405.out
      have hcz43_0 : w28.cell? ⟨gb405, 0, none⟩ = some (.int .i64 t401) := (blk_cell BK405.out 0).trans rfl
      have hcz43_1 : w28.cell? ⟨gb405, 1, none⟩ = some (.int .i64 t402) := (blk_cell BK405.out 1).trans rfl
      have hcz43_2 : w28.cell? ⟨gb405, 2, none⟩ = some (.int .i64 t403) := (blk_cell BK405.out 2).trans rfl
      have hfz43_0 := blk_frozen BK405.out 0
      have hfz43_1 := blk_frozen BK405.out 1
      have hfz43_2 := blk_frozen BK405.out 2
      go_wp2
      (refine Met.intro ?_; go_step; (repeat apply Exists.intro); refine ⟨?rel, ?frame⟩)
      case frame => first | rfl | (rw [c34b0]; first | done | rfl) | (simp only [c34b0]; first | done | rfl)
      case rel => exact ⟨_, (true), (by first | rfl | (simp; done) | (simp [*]; done)), H', ⟨by first | omega | exact Nat.le_refl _⟩, ⟨by (with_reducible repeat (first | refine blk_drewN ?_ _ | refine blk_drew ?_ | refine blk_alloc ?_ _)); refine blk_far ?_ NB395_416.out _; (with_reducible repeat (first | refine blk_drewN ?_ _ | refine blk_drew ?_ | refine blk_alloc ?_ _)); refine blk_far ?_ NB395_416.out _; (with_reducible repeat (first | refine blk_drewN ?_ _ | refine blk_drew ?_ | refine blk_alloc ?_ _)); refine blk_far ?_ NB395_416.out _; (with_reducible repeat (first | refine blk_drewN ?_ _ | refine blk_drew ?_ | refine blk_alloc ?_ _)); exact BK395.out⟩, ⟨by (with_reducible repeat (first | refine blk_drewN ?_ _ | refine blk_drew ?_ | refine blk_alloc ?_ _)); refine blk_far ?_ NB400_416.out _; (with_reducible repeat (first | refine blk_drewN ?_ _ | refine blk_drew ?_ | refine blk_alloc ?_ _)); refine blk_far ?_ NB400_416.out _; (with_reducible repeat (first | refine blk_drewN ?_ _ | refine blk_drew ?_ | refine blk_alloc ?_ _)); refine blk_far ?_ NB400_416.out _; (with_reducible repeat (first | refine blk_drewN ?_ _ | refine blk_drew ?_ | refine blk_alloc ?_ _)); exact BK400.out⟩, ⟨by (with_reducible repeat (first | refine blk_drewN ?_ _ | refine blk_drew ?_ | refine blk_alloc ?_ _)); refine blk_far ?_ NB405_416.out _; (with_reducible repeat (first | refine blk_drewN ?_ _ | refine blk_drew ?_ | refine blk_alloc ?_ _)); refine blk_far ?_ NB405_416.out _; (with_reducible repeat (first | refine blk_drewN ?_ _ | refine blk_drew ?_ | refine blk_alloc ?_ _)); refine blk_far ?_ NB405_416.out _; (with_reducible repeat (first | refine blk_drewN ?_ _ | refine blk_drew ?_ | refine blk_alloc ?_ _)); exact BK405.out⟩, ⟨by (with_reducible repeat (first | refine blk_drewN ?_ _ | refine blk_drew ?_ | refine blk_alloc ?_ _)); refine blk_far ?_ NB409_416.out _; (with_reducible repeat (first | refine blk_drewN ?_ _ | refine blk_drew ?_ | refine blk_alloc ?_ _)); refine blk_far ?_ NB409_416.out _; (with_reducible repeat (first | refine blk_drewN ?_ _ | refine blk_drew ?_ | refine blk_alloc ?_ _)); refine blk_far ?_ NB409_416.out _; (with_reducible repeat (first | refine blk_drewN ?_ _ | refine blk_drew ?_ | refine blk_alloc ?_ _)); exact BK409.out⟩, ⟨by (with_reducible repeat (first | refine blk_drewN ?_ _ | refine blk_drew ?_ | refine blk_alloc ?_ _)); refine blk_put (cs := #[.int .i64 t412, .int .i64 t413, .int .i64 0]) ?_ 2 _ rfl; (with_reducible repeat (first | refine blk_drewN ?_ _ | refine blk_drew ?_ | refine blk_alloc ?_ _)); refine blk_put (cs := #[.int .i64 t412, .int .i64 0, .int .i64 0]) ?_ 1 _ rfl; (with_reducible repeat (first | refine blk_drewN ?_ _ | refine blk_drew ?_ | refine blk_alloc ?_ _)); refine blk_put (cs := #[.int .i64 0, .int .i64 0, .int .i64 0]) ?_ 0 _ rfl; (with_reducible repeat (first | refine blk_drewN ?_ _ | refine blk_drew ?_ | refine blk_alloc ?_ _)); exact BK416.out⟩, ⟨by repeat (first | (with_reducible first | exact HB.out | apply below_alloc | apply pw_below_drewN | apply below_drew1 | refine below_set ?_ GE395.out | refine below_set ?_ GE400.out | refine below_set ?_ GE405.out | refine below_set ?_ GE409.out | refine below_set ?_ GE416.out) | exact HB.out)⟩⟩
    · rw [if_neg c34] at H
      have c34b0 : (!(t396 == t401) || (!(t397 == t402) || (!(t398 == t403)))) = false := by simpa using c34
      clear c34
      (first | rw [c34b0] | (simp only [i64_w, i32_w]; rw [c34b0]) | skip)
      by_cases c44 : t399 = t404
      · rw [if_pos c44] at H
        have c44b0 : (t399 == t404) = true := beq_iff_eq.mpr c44
        have c44b1 : (t399 != t404) = false := bne_eq_false_iff_eq.mpr c44
        clear c44
        by_cases c45 : (!(t412 == t406) || (!(t413 == t407) || (!(t414 == t408)))) = true
        · rw [if_pos c45] at H
          have c45b0 : (!(t412 == t406) || (!(t413 == t407) || (!(t414 == t408)))) = true := c45
          clear c45
          have H' := Aside0.mk H
          clear H
          have hnb46 := NB400_395.out
          have hnc46 := NB395_400.out
          have hnb47 := NB400_405.out
          have hnc47 := NB405_400.out
          have hnb48 := NB400_409.out
          have hnc48 := NB409_400.out
          have hnb49 := NB400_416.out
          have hnc49 := NB416_400.out
          have hcz50_0 : w28.cell? ⟨gb400, 0, none⟩ = some (.int .i64 t396) := (blk_cell BK400.out 0).trans rfl
          have hcz50_1 : w28.cell? ⟨gb400, 1, none⟩ = some (.int .i64 t397) := (blk_cell BK400.out 1).trans rfl
          have hcz50_2 : w28.cell? ⟨gb400, 2, none⟩ = some (.int .i64 t398) := (blk_cell BK400.out 2).trans rfl
          have hfz50_0 := blk_frozen BK400.out 0
          have hfz50_1 := blk_frozen BK400.out 1
          have hfz50_2 := blk_frozen BK400.out 2
          have hnb51 := NB405_395.out
          have hnc51 := NB395_405.out
          have hnb52 := NB405_409.out
          have hnc52 := NB409_405.out
          have hnb53 := NB405_416.out
          have hnc53 := NB416_405.out
          have hcz54_0 : w28.cell? ⟨gb405, 0, none⟩ = some (.int .i64 t401) := (blk_cell BK405.out 0).trans rfl
          have hcz54_1 : w28.cell? ⟨gb405, 1, none⟩ = some (.int .i64 t402) := (blk_cell BK405.out 1).trans rfl
          have hcz54_2 : w28.cell? ⟨gb405, 2, none⟩ = some (.int .i64 t403) := (blk_cell BK405.out 2).trans rfl
          have hfz54_0 := blk_frozen BK405.out 0
          have hfz54_1 := blk_frozen BK405.out 1
          have hfz54_2 := blk_frozen BK405.out 2
          have hnb55 := NB416_395.out
          have hnc55 := NB395_416.out
          have hnb56 := NB416_409.out
          have hnc56 := NB409_416.out
          have hcz57_0 : w28.cell? ⟨gb416, 0, none⟩ = some (.int .i64 0) := (blk_cell BK416.out 0).trans rfl
          have hcz57_1 : w28.cell? ⟨gb416, 1, none⟩ = some (.int .i64 0) := (blk_cell BK416.out 1).trans rfl
          have hcz57_2 : w28.cell? ⟨gb416, 2, none⟩ = some (.int .i64 0) := (blk_cell BK416.out 2).trans rfl
          have hfz57_0 := blk_frozen BK416.out 0
          have hfz57_1 := blk_frozen BK416.out 1
          have hfz57_2 := blk_frozen BK416.out 2
          have hnb58 := NB409_395.out
          have hnc58 := NB395_409.out
          have hcz59_0 : w28.cell? ⟨gb409, 0, none⟩ = some (.int .i64 t406) := (blk_cell BK409.out 0).trans rfl
          have hcz59_1 : w28.cell? ⟨gb409, 1, none⟩ = some (.int .i64 t407) := (blk_cell BK409.out 1).trans rfl
          have hcz59_2 : w28.cell? ⟨gb409, 2, none⟩ = some (.int .i64 t408) := (blk_cell BK409.out 2).trans rfl
          have hfz59_0 := blk_frozen BK409.out 0
          have hfz59_1 := blk_frozen BK409.out 1
          have hfz59_2 := blk_frozen BK409.out 2
          go_wp2
          (refine Met.intro ?_; go_step; (repeat apply Exists.intro); refine ⟨?rel, ?frame⟩)
          case frame => first | rfl | (rw [c45b0]; first | done | rfl) | (rw [c44b1]; first | done | rfl) | (rw [c44b0]; first | done | rfl) | (rw [c34b0]; first | done | rfl) | (simp only [c34b0, c44b0, c44b1, c45b0]; first | done | rfl)
          case rel => exact ⟨_, (true), (by first | rfl | (simp; done) | (simp [*]; done)), H', ⟨by first | omega | exact Nat.le_refl _⟩, ⟨by (with_reducible repeat (first | refine blk_drewN ?_ _ | refine blk_drew ?_ | refine blk_alloc ?_ _)); refine blk_far ?_ NB395_416.out _; (with_reducible repeat (first | refine blk_drewN ?_ _ | refine blk_drew ?_ | refine blk_alloc ?_ _)); refine blk_far ?_ NB395_416.out _; (with_reducible repeat (first | refine blk_drewN ?_ _ | refine blk_drew ?_ | refine blk_alloc ?_ _)); refine blk_far ?_ NB395_416.out _; (with_reducible repeat (first | refine blk_drewN ?_ _ | refine blk_drew ?_ | refine blk_alloc ?_ _)); exact BK395.out⟩, ⟨by (with_reducible repeat (first | refine blk_drewN ?_ _ | refine blk_drew ?_ | refine blk_alloc ?_ _)); refine blk_far ?_ NB400_416.out _; (with_reducible repeat (first | refine blk_drewN ?_ _ | refine blk_drew ?_ | refine blk_alloc ?_ _)); refine blk_far ?_ NB400_416.out _; (with_reducible repeat (first | refine blk_drewN ?_ _ | refine blk_drew ?_ | refine blk_alloc ?_ _)); refine blk_far ?_ NB400_416.out _; (with_reducible repeat (first | refine blk_drewN ?_ _ | refine blk_drew ?_ | refine blk_alloc ?_ _)); exact BK400.out⟩, ⟨by (with_reducible repeat (first | refine blk_drewN ?_ _ | refine blk_drew ?_ | refine blk_alloc ?_ _)); refine blk_far ?_ NB405_416.out _; (with_reducible repeat (first | refine blk_drewN ?_ _ | refine blk_drew ?_ | refine blk_alloc ?_ _)); refine blk_far ?_ NB405_416.out _; (with_reducible repeat (first | refine blk_drewN ?_ _ | refine blk_drew ?_ | refine blk_alloc ?_ _)); refine blk_far ?_ NB405_416.out _; (with_reducible repeat (first | refine blk_drewN ?_ _ | refine blk_drew ?_ | refine blk_alloc ?_ _)); exact BK405.out⟩, ⟨by (with_reducible repeat (first | refine blk_drewN ?_ _ | refine blk_drew ?_ | refine blk_alloc ?_ _)); refine blk_far ?_ NB409_416.out _; (with_reducible repeat (first | refine blk_drewN ?_ _ | refine blk_drew ?_ | refine blk_alloc ?_ _)); refine blk_far ?_ NB409_416.out _; (with_reducible repeat (first | refine blk_drewN ?_ _ | refine blk_drew ?_ | refine blk_alloc ?_ _)); refine blk_far ?_ NB409_416.out _; (with_reducible repeat (first | refine blk_drewN ?_ _ | refine blk_drew ?_ | refine blk_alloc ?_ _)); exact BK409.out⟩, ⟨by (with_reducible repeat (first | refine blk_drewN ?_ _ | refine blk_drew ?_ | refine blk_alloc ?_ _)); refine blk_put (cs := #[.int .i64 t412, .int .i64 t413, .int .i64 0]) ?_ 2 _ rfl; (with_reducible repeat (first | refine blk_drewN ?_ _ | refine blk_drew ?_ | refine blk_alloc ?_ _)); refine blk_put (cs := #[.int .i64 t412, .int .i64 0, .int .i64 0]) ?_ 1 _ rfl; (with_reducible repeat (first | refine blk_drewN ?_ _ | refine blk_drew ?_ | refine blk_alloc ?_ _)); refine blk_put (cs := #[.int .i64 0, .int .i64 0, .int .i64 0]) ?_ 0 _ rfl; (with_reducible repeat (first | refine blk_drewN ?_ _ | refine blk_drew ?_ | refine blk_alloc ?_ _)); exact BK416.out⟩, ⟨by repeat (first | (with_reducible first | exact HB.out | apply below_alloc | apply pw_below_drewN | apply below_drew1 | refine below_set ?_ GE395.out | refine below_set ?_ GE400.out | refine below_set ?_ GE405.out | refine below_set ?_ GE409.out | refine below_set ?_ GE416.out) | exact HB.out)⟩⟩
        · rw [if_neg c45] at H
          have c45b0 : (!(t412 == t406) || (!(t413 == t407) || (!(t414 == t408)))) = false := by simpa using c45
          clear c45
          have H' := Aside0.mk H
          clear H
          have hnb60 := NB400_395.out
          have hnc60 := NB395_400.out
          have hnb61 := NB400_405.out
          have hnc61 := NB405_400.out
          have hnb62 := NB400_409.out
          have hnc62 := NB409_400.out
          have hnb63 := NB400_416.out
          have hnc63 := NB416_400.out
          have hcz64_0 : w28.cell? ⟨gb400, 0, none⟩ = some (.int .i64 t396) := (blk_cell BK400.out 0).trans rfl
          have hcz64_1 : w28.cell? ⟨gb400, 1, none⟩ = some (.int .i64 t397) := (blk_cell BK400.out 1).trans rfl
          have hcz64_2 : w28.cell? ⟨gb400, 2, none⟩ = some (.int .i64 t398) := (blk_cell BK400.out 2).trans rfl
          have hfz64_0 := blk_frozen BK400.out 0
          have hfz64_1 := blk_frozen BK400.out 1
          have hfz64_2 := blk_frozen BK400.out 2
          have hnb65 := NB405_395.out
          have hnc65 := NB395_405.out
          have hnb66 := NB405_409.out
          have hnc66 := NB409_405.out
          have hnb67 := NB405_416.out
          have hnc67 := NB416_405.out
          have hcz68_0 : w28.cell? ⟨gb405, 0, none⟩ = some (.int .i64 t401) := (blk_cell BK405.out 0).trans rfl
          have hcz68_1 : w28.cell? ⟨gb405, 1, none⟩ = some (.int .i64 t402) := (blk_cell BK405.out 1).trans rfl
          have hcz68_2 : w28.cell? ⟨gb405, 2, none⟩ = some (.int .i64 t403) := (blk_cell BK405.out 2).trans rfl
          have hfz68_0 := blk_frozen BK405.out 0
          have hfz68_1 := blk_frozen BK405.out 1
          have hfz68_2 := blk_frozen BK405.out 2
          have hnb69 := NB416_395.out
          have hnc69 := NB395_416.out
          have hnb70 := NB416_409.out
          have hnc70 := NB409_416.out
          have hcz71_0 : w28.cell? ⟨gb416, 0, none⟩ = some (.int .i64 0) := (blk_cell BK416.out 0).trans rfl
          have hcz71_1 : w28.cell? ⟨gb416, 1, none⟩ = some (.int .i64 0) := (blk_cell BK416.out 1).trans rfl
          have hcz71_2 : w28.cell? ⟨gb416, 2, none⟩ = some (.int .i64 0) := (blk_cell BK416.out 2).trans rfl
          have hfz71_0 := blk_frozen BK416.out 0
          have hfz71_1 := blk_frozen BK416.out 1
          have hfz71_2 := blk_frozen BK416.out 2
          have hnb72 := NB409_395.out
          have hnc72 := NB395_409.out
          have hcz73_0 : w28.cell? ⟨gb409, 0, none⟩ = some (.int .i64 t406) := (blk_cell BK409.out 0).trans rfl
          have hcz73_1 : w28.cell? ⟨gb409, 1, none⟩ = some (.int .i64 t407) := (blk_cell BK409.out 1).trans rfl
          have hcz73_2 : w28.cell? ⟨gb409, 2, none⟩ = some (.int .i64 t408) := (blk_cell BK409.out 2).trans rfl
          have hfz73_0 := blk_frozen BK409.out 0
          have hfz73_1 := blk_frozen BK409.out 1
          have hfz73_2 := blk_frozen BK409.out 2
          go_wp2
          (refine Met.intro ?_; go_step; (repeat apply Exists.intro); refine ⟨?rel, ?frame⟩)
          case frame => first | rfl | (rw [c45b0]; first | done | rfl) | (rw [c44b1]; first | done | rfl) | (rw [c44b0]; first | done | rfl) | (rw [c34b0]; first | done | rfl) | (simp only [c34b0, c44b0, c44b1, c45b0]; first | done | rfl)
          case rel => exact ⟨_, ((t415 != 0)), (by first | rfl | (simp; done) | (simp [*]; done)), H', ⟨by first | omega | exact Nat.le_refl _⟩, ⟨by (with_reducible repeat (first | refine blk_drewN ?_ _ | refine blk_drew ?_ | refine blk_alloc ?_ _)); refine blk_far ?_ NB395_416.out _; (with_reducible repeat (first | refine blk_drewN ?_ _ | refine blk_drew ?_ | refine blk_alloc ?_ _)); refine blk_far ?_ NB395_416.out _; (with_reducible repeat (first | refine blk_drewN ?_ _ | refine blk_drew ?_ | refine blk_alloc ?_ _)); refine blk_far ?_ NB395_416.out _; (with_reducible repeat (first | refine blk_drewN ?_ _ | refine blk_drew ?_ | refine blk_alloc ?_ _)); exact BK395.out⟩, ⟨by (with_reducible repeat (first | refine blk_drewN ?_ _ | refine blk_drew ?_ | refine blk_alloc ?_ _)); refine blk_far ?_ NB400_416.out _; (with_reducible repeat (first | refine blk_drewN ?_ _ | refine blk_drew ?_ | refine blk_alloc ?_ _)); refine blk_far ?_ NB400_416.out _; (with_reducible repeat (first | refine blk_drewN ?_ _ | refine blk_drew ?_ | refine blk_alloc ?_ _)); refine blk_far ?_ NB400_416.out _; (with_reducible repeat (first | refine blk_drewN ?_ _ | refine blk_drew ?_ | refine blk_alloc ?_ _)); exact BK400.out⟩, ⟨by (with_reducible repeat (first | refine blk_drewN ?_ _ | refine blk_drew ?_ | refine blk_alloc ?_ _)); refine blk_far ?_ NB405_416.out _; (with_reducible repeat (first | refine blk_drewN ?_ _ | refine blk_drew ?_ | refine blk_alloc ?_ _)); refine blk_far ?_ NB405_416.out _; (with_reducible repeat (first | refine blk_drewN ?_ _ | refine blk_drew ?_ | refine blk_alloc ?_ _)); refine blk_far ?_ NB405_416.out _; (with_reducible repeat (first | refine blk_drewN ?_ _ | refine blk_drew ?_ | refine blk_alloc ?_ _)); exact BK405.out⟩, ⟨by (with_reducible repeat (first | refine blk_drewN ?_ _ | refine blk_drew ?_ | refine blk_alloc ?_ _)); refine blk_far ?_ NB409_416.out _; (with_reducible repeat (first | refine blk_drewN ?_ _ | refine blk_drew ?_ | refine blk_alloc ?_ _)); refine blk_far ?_ NB409_416.out _; (with_reducible repeat (first | refine blk_drewN ?_ _ | refine blk_drew ?_ | refine blk_alloc ?_ _)); refine blk_far ?_ NB409_416.out _; (with_reducible repeat (first | refine blk_drewN ?_ _ | refine blk_drew ?_ | refine blk_alloc ?_ _)); exact BK409.out⟩, ⟨by (with_reducible repeat (first | refine blk_drewN ?_ _ | refine blk_drew ?_ | refine blk_alloc ?_ _)); refine blk_put (cs := #[.int .i64 t412, .int .i64 t413, .int .i64 0]) ?_ 2 _ rfl; (with_reducible repeat (first | refine blk_drewN ?_ _ | refine blk_drew ?_ | refine blk_alloc ?_ _)); refine blk_put (cs := #[.int .i64 t412, .int .i64 0, .int .i64 0]) ?_ 1 _ rfl; (with_reducible repeat (first | refine blk_drewN ?_ _ | refine blk_drew ?_ | refine blk_alloc ?_ _)); refine blk_put (cs := #[.int .i64 0, .int .i64 0, .int .i64 0]) ?_ 0 _ rfl; (with_reducible repeat (first | refine blk_drewN ?_ _ | refine blk_drew ?_ | refine blk_alloc ?_ _)); exact BK416.out⟩, ⟨by repeat (first | (with_reducible first | exact HB.out | apply below_alloc | apply pw_below_drewN | apply below_drew1 | refine below_set ?_ GE395.out | refine below_set ?_ GE400.out | refine below_set ?_ GE405.out | refine below_set ?_ GE409.out | refine below_set ?_ GE416.out) | exact HB.out)⟩⟩
      · rw [if_neg c44] at H
        have c44b0 : (t399 == t404) = false := beq_eq_false_iff_ne.mpr c44
        have c44b1 : (t399 != t404) = true := bne_iff_ne.mpr c44
        have H' := Aside0.mk H
        clear H
        have hnb74 := NB400_395.out
        have hnc74 := NB395_400.out
        have hnb75 := NB400_405.out
        have hnc75 := NB405_400.out
        have hnb76 := NB400_409.out
        have hnc76 := NB409_400.out
        have hnb77 := NB400_416.out
        have hnc77 := NB416_400.out
        have hcz78_0 : w28.cell? ⟨gb400, 0, none⟩ = some (.int .i64 t396) := (blk_cell BK400.out 0).trans rfl
        have hcz78_1 : w28.cell? ⟨gb400, 1, none⟩ = some (.int .i64 t397) := (blk_cell BK400.out 1).trans rfl
        have hcz78_2 : w28.cell? ⟨gb400, 2, none⟩ = some (.int .i64 t398) := (blk_cell BK400.out 2).trans rfl
        have hfz78_0 := blk_frozen BK400.out 0
        have hfz78_1 := blk_frozen BK400.out 1
        have hfz78_2 := blk_frozen BK400.out 2
        have hnb79 := NB405_395.out
        have hnc79 := NB395_405.out
        have hnb80 := NB405_409.out
        have hnc80 := NB409_405.out
        have hnb81 := NB405_416.out
        have hnc81 := NB416_405.out
        have hcz82_0 : w28.cell? ⟨gb405, 0, none⟩ = some (.int .i64 t401) := (blk_cell BK405.out 0).trans rfl
        have hcz82_1 : w28.cell? ⟨gb405, 1, none⟩ = some (.int .i64 t402) := (blk_cell BK405.out 1).trans rfl
        have hcz82_2 : w28.cell? ⟨gb405, 2, none⟩ = some (.int .i64 t403) := (blk_cell BK405.out 2).trans rfl
        have hfz82_0 := blk_frozen BK405.out 0
        have hfz82_1 := blk_frozen BK405.out 1
        have hfz82_2 := blk_frozen BK405.out 2
        go_wp2
        (refine Met.intro ?_; go_step; (repeat apply Exists.intro); refine ⟨?rel, ?frame⟩)
        case frame => first | rfl | (rw [c44b1]; first | done | rfl) | (rw [c44b0]; first | done | rfl) | (rw [c34b0]; first | done | rfl) | (simp only [c34b0, c44b0, c44b1]; first | done | rfl)
        case rel => exact ⟨_, (true), (by first | rfl | (simp; done) | (simp [*]; done)), H', ⟨by first | omega | exact Nat.le_refl _⟩, ⟨by (with_reducible repeat (first | refine blk_drewN ?_ _ | refine blk_drew ?_ | refine blk_alloc ?_ _)); refine blk_far ?_ NB395_416.out _; (with_reducible repeat (first | refine blk_drewN ?_ _ | refine blk_drew ?_ | refine blk_alloc ?_ _)); refine blk_far ?_ NB395_416.out _; (with_reducible repeat (first | refine blk_drewN ?_ _ | refine blk_drew ?_ | refine blk_alloc ?_ _)); refine blk_far ?_ NB395_416.out _; (with_reducible repeat (first | refine blk_drewN ?_ _ | refine blk_drew ?_ | refine blk_alloc ?_ _)); exact BK395.out⟩, ⟨by (with_reducible repeat (first | refine blk_drewN ?_ _ | refine blk_drew ?_ | refine blk_alloc ?_ _)); refine blk_far ?_ NB400_416.out _; (with_reducible repeat (first | refine blk_drewN ?_ _ | refine blk_drew ?_ | refine blk_alloc ?_ _)); refine blk_far ?_ NB400_416.out _; (with_reducible repeat (first | refine blk_drewN ?_ _ | refine blk_drew ?_ | refine blk_alloc ?_ _)); refine blk_far ?_ NB400_416.out _; (with_reducible repeat (first | refine blk_drewN ?_ _ | refine blk_drew ?_ | refine blk_alloc ?_ _)); exact BK400.out⟩, ⟨by (with_reducible repeat (first | refine blk_drewN ?_ _ | refine blk_drew ?_ | refine blk_alloc ?_ _)); refine blk_far ?_ NB405_416.out _; (with_reducible repeat (first | refine blk_drewN ?_ _ | refine blk_drew ?_ | refine blk_alloc ?_ _)); refine blk_far ?_ NB405_416.out _; (with_reducible repeat (first | refine blk_drewN ?_ _ | refine blk_drew ?_ | refine blk_alloc ?_ _)); refine blk_far ?_ NB405_416.out _; (with_reducible repeat (first | refine blk_drewN ?_ _ | refine blk_drew ?_ | refine blk_alloc ?_ _)); exact BK405.out⟩, ⟨by (with_reducible repeat (first | refine blk_drewN ?_ _ | refine blk_drew ?_ | refine blk_alloc ?_ _)); refine blk_far ?_ NB409_416.out _; (with_reducible repeat (first | refine blk_drewN ?_ _ | refine blk_drew ?_ | refine blk_alloc ?_ _)); refine blk_far ?_ NB409_416.out _; (with_reducible repeat (first | refine blk_drewN ?_ _ | refine blk_drew ?_ | refine blk_alloc ?_ _)); refine blk_far ?_ NB409_416.out _; (with_reducible repeat (first | refine blk_drewN ?_ _ | refine blk_drew ?_ | refine blk_alloc ?_ _)); exact BK409.out⟩, ⟨by (with_reducible repeat (first | refine blk_drewN ?_ _ | refine blk_drew ?_ | refine blk_alloc ?_ _)); refine blk_put (cs := #[.int .i64 t412, .int .i64 t413, .int .i64 0]) ?_ 2 _ rfl; (with_reducible repeat (first | refine blk_drewN ?_ _ | refine blk_drew ?_ | refine blk_alloc ?_ _)); refine blk_put (cs := #[.int .i64 t412, .int .i64 0, .int .i64 0]) ?_ 1 _ rfl; (with_reducible repeat (first | refine blk_drewN ?_ _ | refine blk_drew ?_ | refine blk_alloc ?_ _)); refine blk_put (cs := #[.int .i64 0, .int .i64 0, .int .i64 0]) ?_ 0 _ rfl; (with_reducible repeat (first | refine blk_drewN ?_ _ | refine blk_drew ?_ | refine blk_alloc ?_ _)); exact BK416.out⟩, ⟨by repeat (first | (with_reducible first | exact HB.out | apply below_alloc | apply pw_below_drewN | apply below_drew1 | refine below_set ?_ GE395.out | refine below_set ?_ GE400.out | refine below_set ?_ GE405.out | refine below_set ?_ GE409.out | refine below_set ?_ GE416.out) | exact HB.out)⟩⟩
  case rest =>
    clear HC8
    try clear c1
    try clear c2
    try clear p2
    try clear c3
    try clear c4
    try clear c5
    try clear c6
    try clear c7
    try clear c8
    try clear c12
    try clear c16
    try clear c17
    try clear c22
    try clear c23
    try clear c24
    try clear c29
    try clear c30
    try clear c31
    try clear c32
    try clear c34
    try clear c34b0
    try clear c35
    try clear c36
    try clear c37
    try clear c38
    try clear c40
    try clear c41
    try clear c42
    try clear c44
    try clear c44b0
    try clear c44b1
    try clear c45
    try clear c45b0
    try clear c46
    try clear c47
    try clear c48
    try clear c49
    try clear c51
    try clear c52
    try clear c53
    try clear c55
    try clear c56
    try clear c58
    try clear c60
    try clear c61
    try clear c62
    try clear c63
    try clear c65
    try clear c66
    try clear c67
    try clear c69
    try clear c70
    try clear c72
    try clear c74
    try clear c75
    try clear c76
    try clear c77
    try clear c79
    try clear c80
    try clear c81
    try clear hcz13_0
    try clear hcz13_1
    try clear hcz13_2
    try clear hcz18_0
    try clear hcz18_1
    try clear hcz18_2
    try clear hcz19_0
    try clear hcz19_1
    try clear hcz19_2
    try clear hcz25_0
    try clear hcz25_1
    try clear hcz25_2
    try clear hcz33_0
    try clear hcz33_1
    try clear hcz33_2
    try clear hcz39_0
    try clear hcz39_1
    try clear hcz39_2
    try clear hcz43_0
    try clear hcz43_1
    try clear hcz43_2
    try clear hcz50_0
    try clear hcz50_1
    try clear hcz50_2
    try clear hcz54_0
    try clear hcz54_1
    try clear hcz54_2
    try clear hcz57_0
    try clear hcz57_1
    try clear hcz57_2
    try clear hcz59_0
    try clear hcz59_1
    try clear hcz59_2
    try clear hcz64_0
    try clear hcz64_1
    try clear hcz64_2
    try clear hcz68_0
    try clear hcz68_1
    try clear hcz68_2
    try clear hcz71_0
    try clear hcz71_1
    try clear hcz71_2
    try clear hcz73_0
    try clear hcz73_1
    try clear hcz73_2
    try clear hcz78_0
    try clear hcz78_1
    try clear hcz78_2
    try clear hcz82_0
    try clear hcz82_1
    try clear hcz82_2
    try clear hfz13_0
    try clear hfz13_1
    try clear hfz13_2
    try clear hfz18_0
    try clear hfz18_1
    try clear hfz18_2
    try clear hfz19_0
    try clear hfz19_1
    try clear hfz19_2
    try clear hfz25_0
    try clear hfz25_1
    try clear hfz25_2
    try clear hfz33_0
    try clear hfz33_1
    try clear hfz33_2
    try clear hfz39_0
    try clear hfz39_1
    try clear hfz39_2
    try clear hfz43_0
    try clear hfz43_1
    try clear hfz43_2
    try clear hfz50_0
    try clear hfz50_1
    try clear hfz50_2
    try clear hfz54_0
    try clear hfz54_1
    try clear hfz54_2
    try clear hfz57_0
    try clear hfz57_1
    try clear hfz57_2
    try clear hfz59_0
    try clear hfz59_1
    try clear hfz59_2
    try clear hfz64_0
    try clear hfz64_1
    try clear hfz64_2
    try clear hfz68_0
    try clear hfz68_1
    try clear hfz68_2
    try clear hfz71_0
    try clear hfz71_1
    try clear hfz71_2
    try clear hfz73_0
    try clear hfz73_1
    try clear hfz73_2
    try clear hfz78_0
    try clear hfz78_1
    try clear hfz78_2
    try clear hfz82_0
    try clear hfz82_1
    try clear hfz82_2
    obtain ⟨kq, x54_7, rfl, HA, HJ7, BK395, BK400, BK405, BK409, BK416, HB⟩ := hcut
    cases kq with
    | zero => exact absurd HA.out (by simp [chattellaw09_DateTexts.j0])
    | succ kj7 =>
      have H := HA.out
      clear HA
      simp only [chattellaw09_DateTexts.j0] at H
      by_cases c83 : x54_7 = true
      · subst c83
        have H1 : (some false) = some r := by rw [if_pos rfl] at H; exact H
        clear H
        have H := H1
        clear H1
        exact absurd (Option.some.inj H) (by rw [ht_]; decide)
      · replace c83 := Bool.eq_false_iff.mpr c83
        subst c83
        have H1 : (if t399 = 0 then ((date_Print.f kj7 t396 t397 t398).bind fun bt417 => ((chattellaw09_wakes.f kj7).bind fun t419 => (if t419 = true then (if bt417.2 = 0 then (some (bt417.1.toList == a0.toList)) else (some false)) else (some false)))) else ((chattellaw09_wakes.f kj7).bind fun t420 => (if t420 = true then (some (t396 == 0 && (t397 == 0 && (t398 == 0)))) else (some false)))) = some r := by rw [if_neg (show ¬ (false = true) by decide)] at H; exact H
        clear H
        have H := H1
        clear H1
        by_cases c84 : t399 = 0
        · rw [if_pos c84] at H
          have c84b0 : (t399 == 0) = true := beq_iff_eq.mpr c84
          have c84b1 : (t399 != 0) = false := bne_eq_false_iff_eq.mpr c84
          clear c84
          replace H := Option.bind_eq_some_iff.mp H
          obtain ⟨⟨t417, t418⟩, A850, H⟩ := H
          replace H : ((chattellaw09_wakes.f kj7).bind fun t419 => (if t419 = true then (if t418 = 0 then (some (t417.toList == a0.toList)) else (some false)) else (some false))) = some r := H
          have A85 := Aside0.mk A850
          clear A850
          replace H := Option.bind_eq_some_iff.mp H
          obtain ⟨t419, A860, H⟩ := H
          replace H : (if t419 = true then (if t418 = 0 then (some (t417.toList == a0.toList)) else (some false)) else (some false)) = some r := H
          have A86 := Aside0.mk A860
          clear A860
          by_cases c87 : t419 = true
          · subst c87
            have H1 : (if t418 = 0 then (some (t417.toList == a0.toList)) else (some false)) = some r := by rw [if_pos rfl] at H; exact H
            clear H
            have H := H1
            clear H1
            by_cases c88 : t418 = 0
            rotate_left
            · rw [if_neg c88] at H
              have c88b0 : (t418 == 0) = false := beq_eq_false_iff_ne.mpr c88
              have c88b1 : (t418 != 0) = true := bne_iff_ne.mpr c88
              exact absurd (Option.some.inj H) (by rw [ht_]; decide)
            rw [if_pos c88] at H
            have c88b0 : (t418 == 0) = true := beq_iff_eq.mpr c88
            have c88b1 : (t418 != 0) = false := bne_eq_false_iff_eq.mpr c88
            clear c88
            obtain rfl := Option.some.inj H
            have hnb89 := NB400_395.out
            have hnc89 := NB395_400.out
            have hnb90 := NB400_405.out
            have hnc90 := NB405_400.out
            have hnb91 := NB400_409.out
            have hnc91 := NB409_400.out
            have hnb92 := NB400_416.out
            have hnc92 := NB416_400.out
            have hcz93_0 : wc.cell? ⟨gb400, 0, none⟩ = some (.int .i64 t396) := (blk_cell BK400.out 0).trans rfl
            have hcz93_1 : wc.cell? ⟨gb400, 1, none⟩ = some (.int .i64 t397) := (blk_cell BK400.out 1).trans rfl
            have hcz93_2 : wc.cell? ⟨gb400, 2, none⟩ = some (.int .i64 t398) := (blk_cell BK400.out 2).trans rfl
            have hfz93_0 := blk_frozen BK400.out 0
            have hfz93_1 := blk_frozen BK400.out 1
            have hfz93_2 := blk_frozen BK400.out 2
            go_wp2_with (first | ((with_reducible refine gate_callee (f := 24) rfl ?_); refine goesL_ (some 65) rfl rfl Try.func24 (by kernel_rfl) rfl #[.agg #[.int .i64 t396, .int .i64 t397, .int .i64 t398]] rfl (by (try simp only [List.map_toArray, List.map_cons, List.map_nil]); first | done | rfl | (simp only [List.length_drop, List.length_take]; rfl)) ?_; (with_reducible refine (date_Print.calls kj7 t396 t397 t398 t417 t418 _ A85.out).mono ?_); rintro e w94 ⟨rfl, hb⟩; refine ⟨_, rfl, ?_⟩; replace BK395 := Aside0.mk (bb BK395.out hb); replace BK400 := Aside0.mk (bb BK400.out hb); replace BK405 := Aside0.mk (bb BK405.out hb); replace BK409 := Aside0.mk (bb BK409.out hb); replace BK416 := Aside0.mk (bb BK416.out hb); replace HB := Aside0.mk (bs HB.out hb); (try clear hb); (try clear hb2); (try clear hk); (try clear hi)) | ((with_reducible refine gate_callee (f := 32) rfl ?_); refine goesL_ (some 68) rfl rfl Try.func32 (by kernel_rfl) rfl #[] rfl (by (try simp only [List.map_toArray, List.map_cons, List.map_nil]); first | done | rfl | (simp only [List.length_drop, List.length_take]; rfl)) ?_; (with_reducible refine (chattellaw09_wakes.calls kj7  true _ A86.out).mono ?_); rintro e w95 ⟨rfl, hb⟩; refine ⟨_, rfl, ?_⟩; replace BK395 := Aside0.mk (bb BK395.out hb); replace BK400 := Aside0.mk (bb BK400.out hb); replace BK405 := Aside0.mk (bb BK405.out hb); replace BK409 := Aside0.mk (bb BK409.out hb); replace BK416 := Aside0.mk (bb BK416.out hb); replace HB := Aside0.mk (bs HB.out hb); (try clear hb); (try clear hb2); (try clear hk); (try clear hi)))
            go_ret
            exact ⟨by first | rfl | (simp [errW_none, errW_some] <;> rfl) | (simp [*, errW_none, errW_some] <;> rfl), by repeat (first | (with_reducible first | exact HB.out | apply below_alloc | apply pw_below_drewN | apply below_drew1 | refine below_set ?_ GE395.out | refine below_set ?_ GE400.out | refine below_set ?_ GE405.out | refine below_set ?_ GE409.out | refine below_set ?_ GE416.out) | exact HB.out)⟩
          · replace c87 := Bool.eq_false_iff.mpr c87
            subst c87
            have H1 : (some false) = some r := by rw [if_neg (show ¬ (false = true) by decide)] at H; exact H
            clear H
            have H := H1
            clear H1
            exact absurd (Option.some.inj H) (by rw [ht_]; decide)
        · rw [if_neg c84] at H
          have c84b0 : (t399 == 0) = false := beq_eq_false_iff_ne.mpr c84
          have c84b1 : (t399 != 0) = true := bne_iff_ne.mpr c84
          replace H := Option.bind_eq_some_iff.mp H
          obtain ⟨t420, A960, H⟩ := H
          replace H : (if t420 = true then (some (t396 == 0 && (t397 == 0 && (t398 == 0)))) else (some false)) = some r := H
          have A96 := Aside0.mk A960
          clear A960
          by_cases c97 : t420 = true
          · subst c97
            have H1 : (some (t396 == 0 && (t397 == 0 && (t398 == 0)))) = some r := by rw [if_pos rfl] at H; exact H
            clear H
            have H := H1
            clear H1
            obtain rfl := Option.some.inj H
            go_wp2_with (first | ((with_reducible refine gate_callee (f := 32) rfl ?_); refine goesL_ (some 57) rfl rfl Try.func32 (by kernel_rfl) rfl #[] rfl (by (try simp only [List.map_toArray, List.map_cons, List.map_nil]); first | done | rfl | (simp only [List.length_drop, List.length_take]; rfl)) ?_; (with_reducible refine (chattellaw09_wakes.calls kj7  true _ A96.out).mono ?_); rintro e w98 ⟨rfl, hb⟩; refine ⟨_, rfl, ?_⟩; replace BK395 := Aside0.mk (bb BK395.out hb); replace BK400 := Aside0.mk (bb BK400.out hb); replace BK405 := Aside0.mk (bb BK405.out hb); replace BK409 := Aside0.mk (bb BK409.out hb); replace BK416 := Aside0.mk (bb BK416.out hb); replace HB := Aside0.mk (bs HB.out hb); (try clear hb); (try clear hb2); (try clear hk); (try clear hi); have hnb99 := NB400_395.out; have hnc99 := NB395_400.out; have hnb100 := NB400_405.out; have hnc100 := NB405_400.out; have hnb101 := NB400_409.out; have hnc101 := NB409_400.out; have hnb102 := NB400_416.out; have hnc102 := NB416_400.out; have hcz103_0 : w98.cell? ⟨gb400, 0, none⟩ = some (.int .i64 t396) := (blk_cell BK400.out 0).trans rfl; have hcz103_1 : w98.cell? ⟨gb400, 1, none⟩ = some (.int .i64 t397) := (blk_cell BK400.out 1).trans rfl; have hcz103_2 : w98.cell? ⟨gb400, 2, none⟩ = some (.int .i64 t398) := (blk_cell BK400.out 2).trans rfl; have hfz103_0 := blk_frozen BK400.out 0; have hfz103_1 := blk_frozen BK400.out 1; have hfz103_2 := blk_frozen BK400.out 2))
            go_ret
            exact ⟨by first | rfl | (simp [errW_none, errW_some] <;> rfl) | (simp [*, errW_none, errW_some] <;> rfl), by repeat (first | (with_reducible first | exact HB.out | apply below_alloc | apply pw_below_drewN | apply below_drew1 | refine below_set ?_ GE395.out | refine below_set ?_ GE400.out | refine below_set ?_ GE405.out | refine below_set ?_ GE409.out | refine below_set ?_ GE416.out) | exact HB.out)⟩
          · replace c97 := Bool.eq_false_iff.mpr c97
            subst c97
            have H1 : (some false) = some r := by rw [if_neg (show ¬ (false = true) by decide)] at H; exact H
            clear H
            have H := H1
            clear H1
            exact absurd (Option.some.inj H) (by rw [ht_]; decide)

/-- THE ONE PURE STATEMENT of chattellaw09_DateTexts: yours. -/
def chattellaw09_DateTexts.Pure : Prop := ∀ (a0 : ByteArray) (a1_0 : Int) (a1_1 : Int) (a1_2 : Int), a0.size ≤ 140737488351232 → (Lit.int .i64 a1_0).wf = true → (Lit.int .i64 a1_1).wf = true → (Lit.int .i64 a1_2).wf = true → ∃ k, chattellaw09_DateTexts.f k a0 a1_0 a1_1 a1_2 = some true
theorem chattellaw09_DateTexts.walk (P : chattellaw09_DateTexts.Pure) (a0 : ByteArray) (a1_0 : Int) (a1_1 : Int) (a1_2 : Int) (w : World) (w0 : a0.size ≤ 140737488351232) (w1_0 : (Lit.int .i64 a1_0).wf = true) (w1_1 : (Lit.int .i64 a1_1).wf = true) (w1_2 : (Lit.int .i64 a1_2).wf = true) :
    Calls Try.prog 8 #[.string a0, .agg #[.int .i64 a1_0, .int .i64 a1_1, .int .i64 a1_2]] w fun e w' => e = .returned (.bool true) ∧ Below w.heap.size w w' := by
  obtain ⟨k, h⟩ := P a0 a1_0 a1_1 a1_2 w0 w1_0 w1_1 w1_2
  refine (chattellaw09_DateTexts.calls k a0 a1_0 a1_1 a1_2 true w h rfl).mono ?_
  rintro e w' ⟨rfl, hd⟩
  exact ⟨rfl, hd⟩

end Go.Proofs.Ytfikfmediheioaa.F
