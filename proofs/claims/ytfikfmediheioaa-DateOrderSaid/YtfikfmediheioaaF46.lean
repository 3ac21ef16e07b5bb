-- Written by this session's printer (wip/tools), out of the translation's own print. Lean checks it.
import Derived.Test.YtfikfmediheioaaF0
import Derived.Test.YtfikfmediheioaaF4
import Derived.Test.YtfikfmediheioaaF19
import Derived.Test.YtfikfmediheioaaF25
import Derived.Test.YtfikfmediheioaaF36
import Derived.Test.YtfikfmediheioaaF45
namespace Go.Proofs.Ytfikfmediheioaa.F
open Go.RowKit Go.Proofs.YtfikfmediheioaaW.PrintWords Go.Proofs.YtfikfmediheioaaW.PrintLast Go.Proofs.YtfikfmediheioaaW.PrintMore Go.Proofs.YtfikfmediheioaaX
attribute [local go_sem] max2_int cell_some
attribute [local go_sem] max2_int min2_int max_two min_two max_three min_three max_four min_four   -- for this text's walks alone
set_option linter.unusedVariables false
set_option linter.unusedSimpArgs false

/-! ### chattellaw09_DateOrder: function 11 -/
mutual
def chattellaw09_DateOrder.j0 : Nat → Int → Int → Int → Int → Int → Int → Int → Int → Int → Int → Int → Int → Int → Int → Int → Option (Bool)
  | 0, _, _, _, _, _, _, _, _, _, _, _, _, _, _, _ => none
  | k + 1, x7, x9, x11, x503000, x503001, x503002, x504000, x504001, x504002, x511000, x511001, x511002, x512000, x512001, x512002 => if x7 > x9 then (chattellaw09_DateOrder.j1 k 1 x503000 x503001 x503002 x504000 x504001 x504002 x511000 x511001 x511002 x512000 x512001 x512002) else (chattellaw09_DateOrder.j1 k x11 x503000 x503001 x503002 x504000 x504001 x504002 x511000 x511001 x511002 x512000 x512001 x512002)
def chattellaw09_DateOrder.j1 : Nat → Int → Int → Int → Int → Int → Int → Int → Int → Int → Int → Int → Int → Int → Option (Bool)
  | 0, _, _, _, _, _, _, _, _, _, _, _, _, _ => none
  | k + 1, x11, x503000, x503001, x503002, x504000, x504001, x504002, x511000, x511001, x511002, x512000, x512001, x512002 => (chattellaw09_wakes.f k).bind fun t516 => (if t516 = true then ((date_Cmp.f k x503000 x503001 x503002 x504000 x504001 x504002).bind fun t517 => ((chattelref09_Cmp.f k x503000 x503001 x503002 x504000 x504001 x504002).bind fun t518 => (if t517 = t518 then ((date_Cmp.f k x511000 x511001 x511002 x512000 x512001 x512002).bind fun t519 => (if t519 = x11 then ((date_Cmp.f k x504000 x504001 x504002 x503000 x503001 x503002).bind fun t520 => ((date_Cmp.f k x503000 x503001 x503002 x504000 x504001 x504002).bind fun t521 => (if t520 = (wrap64 (-t521)) then ((date_Cmp.f k x503000 x503001 x503002 x503000 x503001 x503002).bind fun t522 => (some (t522 == 0))) else (some false)))) else (some false))) else (some false)))) else (some false))
end
def chattellaw09_DateOrder.f (k : Nat) (a0_0 : Int) (a0_1 : Int) (a0_2 : Int) (a1_0 : Int) (a1_1 : Int) (a1_2 : Int) : Option (Bool) := (chattelref09_Make.f k a0_0 a0_1 a0_2 9999).bind fun bt504 => ((chattelref09_Make.f k a1_0 a1_1 a1_2 9999).bind fun bt507 => ((date_Number.f k bt504.1 bt504.2.1 bt504.2.2).bind fun bt512 => ((date_Number.f k bt507.1 bt507.2.1 bt507.2.2).bind fun bt514 => (if bt512.1 < bt514.1 then (chattellaw09_DateOrder.j0 k bt512.1 bt514.1 (-1) a0_0 a0_1 a0_2 a1_0 a1_1 a1_2 bt504.1 bt504.2.1 bt504.2.2 bt507.1 bt507.2.1 bt507.2.2) else (chattellaw09_DateOrder.j0 k bt512.1 bt514.1 0 a0_0 a0_1 a0_2 a1_0 a1_1 a1_2 bt504.1 bt504.2.1 bt504.2.2 bt507.1 bt507.2.1 bt507.2.2)))))
theorem chattellaw09_DateOrder.mono_l : ∀ k, (∀ y0 y1 y2 y3 y4 y5 y6 y7 y8 y9 y10 y11 y12 y13 y14, LeO (chattellaw09_DateOrder.j0 k y0 y1 y2 y3 y4 y5 y6 y7 y8 y9 y10 y11 y12 y13 y14) (chattellaw09_DateOrder.j0 (k + 1) y0 y1 y2 y3 y4 y5 y6 y7 y8 y9 y10 y11 y12 y13 y14)) ∧ (∀ y0 y1 y2 y3 y4 y5 y6 y7 y8 y9 y10 y11 y12, LeO (chattellaw09_DateOrder.j1 k y0 y1 y2 y3 y4 y5 y6 y7 y8 y9 y10 y11 y12) (chattellaw09_DateOrder.j1 (k + 1) y0 y1 y2 y3 y4 y5 y6 y7 y8 y9 y10 y11 y12))
  | 0 => ⟨fun _ _ _ _ _ _ _ _ _ _ _ _ _ _ _ r h => by simp [chattellaw09_DateOrder.j0] at h, fun _ _ _ _ _ _ _ _ _ _ _ _ _ r h => by simp [chattellaw09_DateOrder.j1] at h⟩
  | k + 1 => by
    obtain ⟨ih0, ih1⟩ := chattellaw09_DateOrder.mono_l k
    refine ⟨?_, ?_⟩
    · intro y0 y1 y2 y3 y4 y5 y6 y7 y8 y9 y10 y11 y12 y13 y14
      unfold chattellaw09_DateOrder.j0
      repeat' first
      | (with_reducible exact ih0 _ _ _ _ _ _ _ _ _ _ _ _ _ _ _)
      | (with_reducible exact ih1 _ _ _ _ _ _ _ _ _ _ _ _ _)
      | (with_reducible exact chattellaw09_wakes.mono _)
      | (with_reducible exact chattelref09_Cmp.mono _ _ _ _ _ _ _)
      | (with_reducible exact chattelref09_Make.mono _ _ _ _ _)
      | (with_reducible exact date_Cmp.mono _ _ _ _ _ _ _)
      | (with_reducible exact date_Number.mono _ _ _ _)
      | (with_reducible exact LeO.refl _)
      | (with_reducible exact LeO.none _)
      | (with_reducible refine LeO.ite ?_ ?_)
      | (with_reducible refine LeO.bind ?_ (fun _ => ?_))
      | exact ih0 _ _ _ _ _ _ _ _ _ _ _ _ _ _ _
      | exact ih1 _ _ _ _ _ _ _ _ _ _ _ _ _
      | exact chattellaw09_wakes.mono _
      | exact chattelref09_Cmp.mono _ _ _ _ _ _ _
      | exact chattelref09_Make.mono _ _ _ _ _
      | exact date_Cmp.mono _ _ _ _ _ _ _
      | exact date_Number.mono _ _ _ _
      | exact LeO.none _
      | refine LeO.ite ?_ ?_
      | refine LeO.bind ?_ (fun _ => ?_)
    · intro y0 y1 y2 y3 y4 y5 y6 y7 y8 y9 y10 y11 y12
      unfold chattellaw09_DateOrder.j1
      repeat' first
      | (with_reducible exact ih0 _ _ _ _ _ _ _ _ _ _ _ _ _ _ _)
      | (with_reducible exact ih1 _ _ _ _ _ _ _ _ _ _ _ _ _)
      | (with_reducible exact chattellaw09_wakes.mono _)
      | (with_reducible exact chattelref09_Cmp.mono _ _ _ _ _ _ _)
      | (with_reducible exact chattelref09_Make.mono _ _ _ _ _)
      | (with_reducible exact date_Cmp.mono _ _ _ _ _ _ _)
      | (with_reducible exact date_Number.mono _ _ _ _)
      | (with_reducible exact LeO.refl _)
      | (with_reducible exact LeO.none _)
      | (with_reducible refine LeO.ite ?_ ?_)
      | (with_reducible refine LeO.bind ?_ (fun _ => ?_))
      | exact ih0 _ _ _ _ _ _ _ _ _ _ _ _ _ _ _
      | exact ih1 _ _ _ _ _ _ _ _ _ _ _ _ _
      | exact chattellaw09_wakes.mono _
      | exact chattelref09_Cmp.mono _ _ _ _ _ _ _
      | exact chattelref09_Make.mono _ _ _ _ _
      | exact date_Cmp.mono _ _ _ _ _ _ _
      | exact date_Number.mono _ _ _ _
      | exact LeO.none _
      | refine LeO.ite ?_ ?_
      | refine LeO.bind ?_ (fun _ => ?_)
theorem chattellaw09_DateOrder.mono : ∀ a0 a1 a2 a3 a4 a5 k, LeO (chattellaw09_DateOrder.f k a0 a1 a2 a3 a4 a5) (chattellaw09_DateOrder.f (k + 1) a0 a1 a2 a3 a4 a5) := by
  intro a0 a1 a2 a3 a4 a5 k
  obtain ⟨ih0, ih1⟩ := chattellaw09_DateOrder.mono_l k
  unfold chattellaw09_DateOrder.f
  repeat' first
      | (with_reducible exact ih0 _ _ _ _ _ _ _ _ _ _ _ _ _ _ _)
      | (with_reducible exact ih1 _ _ _ _ _ _ _ _ _ _ _ _ _)
      | (with_reducible exact chattellaw09_wakes.mono _)
      | (with_reducible exact chattelref09_Cmp.mono _ _ _ _ _ _ _)
      | (with_reducible exact chattelref09_Make.mono _ _ _ _ _)
      | (with_reducible exact date_Cmp.mono _ _ _ _ _ _ _)
      | (with_reducible exact date_Number.mono _ _ _ _)
      | (with_reducible exact LeO.refl _)
      | (with_reducible exact LeO.none _)
      | (with_reducible refine LeO.ite ?_ ?_)
      | (with_reducible refine LeO.bind ?_ (fun _ => ?_))
      | exact ih0 _ _ _ _ _ _ _ _ _ _ _ _ _ _ _
      | exact ih1 _ _ _ _ _ _ _ _ _ _ _ _ _
      | exact chattellaw09_wakes.mono _
      | exact chattelref09_Cmp.mono _ _ _ _ _ _ _
      | exact chattelref09_Make.mono _ _ _ _ _
      | exact date_Cmp.mono _ _ _ _ _ _ _
      | exact date_Number.mono _ _ _ _
      | exact LeO.none _
      | refine LeO.ite ?_ ?_
      | refine LeO.bind ?_ (fun _ => ?_)
def chattellaw09_DateOrder.T1 : Bool × List (List Nat × List Nat) := (true, [([], []), ([0], [0]), ([], []), ([2], [2]), ([], []), ([4], [4]), ([1, 3, 5], [1, 3, 5]), ([6], [6]), ([], []), ([8], [8]), ([], []), ([10], [10]), ([], []), ([12], [12]), ([9, 11, 13], [9, 11, 13]), ([14, 7], [14]), ([], []), ([], []), ([16, 7, 15, 0, 1, 2, 3, 4, 5, 6, 7, 16, 17], [7, 16]), ([17, 15, 18, 0, 1, 2, 3, 4, 5, 6, 7, 8, 9, 10, 11, 12, 13, 14, 15, 16, 17, 18], [15, 17])])
def chattellaw09_DateOrder.B1 : List Nat := [0, 1, 0, 4, 0, 16, 63, 127, 0, 256, 0, 1024, 0, 4096, 16128, 32767, 0, 0, 262143, 524287]
theorem chattellaw09_DateOrder.tab1 : rtab .any (opsOf Try.f11 1) = chattellaw09_DateOrder.T1 := by kernel_rfl
theorem chattellaw09_DateOrder.bits1 : waitsOk chattellaw09_DateOrder.T1.2 chattellaw09_DateOrder.B1 = true := by kernel_rfl
def chattellaw09_DateOrder.T9 : Bool × List (List Nat × List Nat) := (true, [([], []), ([0, 0], [0]), ([1], [1]), ([1], [1]), ([2, 3, 1, 1], [1, 2, 3]), ([1], [1]), ([1], [1]), ([5, 6, 4, 1], [1, 5, 6]), ([4, 7, 1], [1, 4, 7]), ([1, 8], [1, 8]), ([9, 7], [9]), ([10], [10]), ([10], [10]), ([11, 12, 10, 10], [10, 11, 12]), ([10], [10]), ([13, 14, 10], [10, 13, 14]), ([10, 15], [10, 15]), ([16, 13], [16]), ([17], [17]), ([17], [17]), ([18, 19, 17, 17], [17, 18, 19]), ([17], [17]), ([17], [17]), ([21, 22, 20, 17], [17, 21, 22]), ([23, 17], [17, 23]), ([20, 24, 17], [17, 20, 24]), ([17, 25], [17, 25]), ([26, 23], [26]), ([27], [27]), ([27], [27]), ([28, 29, 27, 27], [27, 28, 29]), ([30, 27], [27, 30]), ([27, 31], [27, 31]), ([32, 30, 0, 1, 2, 3, 4, 5, 6, 7, 8, 9, 10, 11, 12, 13, 14, 15, 16, 17, 18, 19, 20, 21, 22, 23, 24, 25, 26, 27, 28, 29, 30, 31, 32], [32])])
def chattellaw09_DateOrder.B9 : List Nat := [0, 1, 3, 3, 15, 3, 3, 127, 255, 511, 1023, 2047, 2047, 8191, 2047, 32767, 65535, 131071, 262143, 262143, 1048575, 262143, 262143, 8388607, 16777215, 33554431, 67108863, 134217727, 268435455, 268435455, 1073741823, 2147483647, 4294967295, 8589934591]
theorem chattellaw09_DateOrder.tab9 : rtab .any (opsOf Try.f11 9) = chattellaw09_DateOrder.T9 := by kernel_rfl
theorem chattellaw09_DateOrder.bits9 : waitsOk chattellaw09_DateOrder.T9.2 chattellaw09_DateOrder.B9 = true := by kernel_rfl
set_option maxHeartbeats 8000000 in
set_option maxRecDepth 100000 in
theorem chattellaw09_DateOrder.calls (k : Nat) (a0_0 : Int) (a0_1 : Int) (a0_2 : Int) (a1_0 : Int) (a1_1 : Int) (a1_2 : Int) (r : Bool) (w : World) (h : chattellaw09_DateOrder.f k a0_0 a0_1 a0_2 a1_0 a1_1 a1_2 = some r) (ht_ : r = true) :
    Calls Try.prog 11 #[.agg #[.int .i64 a0_0, .int .i64 a0_1, .int .i64 a0_2], .agg #[.int .i64 a1_0, .int .i64 a1_1, .int .i64 a1_2]] w fun e w' => e = .returned (.bool r) ∧ Below w.heap.size w w' := by
  have hu23 := Try.underlying23
  have hu25 := Try.underlying25
  have HB := Aside0.mk (Below.refl w.heap.size w)
  have H : ((chattelref09_Make.f k a0_0 a0_1 a0_2 9999).bind fun bt504 => ((chattelref09_Make.f k a1_0 a1_1 a1_2 9999).bind fun bt507 => ((date_Number.f k bt504.1 bt504.2.1 bt504.2.2).bind fun bt512 => ((date_Number.f k bt507.1 bt507.2.1 bt507.2.2).bind fun bt514 => (if bt512.1 < bt514.1 then (chattellaw09_DateOrder.j0 k bt512.1 bt514.1 (-1) a0_0 a0_1 a0_2 a1_0 a1_1 a1_2 bt504.1 bt504.2.1 bt504.2.2 bt507.1 bt507.2.1 bt507.2.2) else (chattellaw09_DateOrder.j0 k bt512.1 bt514.1 0 a0_0 a0_1 a0_2 a1_0 a1_1 a1_2 bt504.1 bt504.2.1 bt504.2.2 bt507.1 bt507.2.1 bt507.2.2)))))) = some r := h
  clear h
  replace H := Option.bind_eq_some_iff.mp H
  obtain ⟨⟨t504, t505, t506⟩, A30, H⟩ := H
  replace H : ((chattelref09_Make.f k a1_0 a1_1 a1_2 9999).bind fun bt507 => ((date_Number.f k t504 t505 t506).bind fun bt512 => ((date_Number.f k bt507.1 bt507.2.1 bt507.2.2).bind fun bt514 => (if bt512.1 < bt514.1 then (chattellaw09_DateOrder.j0 k bt512.1 bt514.1 (-1) a0_0 a0_1 a0_2 a1_0 a1_1 a1_2 t504 t505 t506 bt507.1 bt507.2.1 bt507.2.2) else (chattellaw09_DateOrder.j0 k bt512.1 bt514.1 0 a0_0 a0_1 a0_2 a1_0 a1_1 a1_2 t504 t505 t506 bt507.1 bt507.2.1 bt507.2.2))))) = some r := H
  have A3 := Aside0.mk A30
  clear A30
  replace H := Option.bind_eq_some_iff.mp H
  obtain ⟨⟨t507, t508, t509⟩, A40, H⟩ := H
  replace H : ((date_Number.f k t504 t505 t506).bind fun bt512 => ((date_Number.f k t507 t508 t509).bind fun bt514 => (if bt512.1 < bt514.1 then (chattellaw09_DateOrder.j0 k bt512.1 bt514.1 (-1) a0_0 a0_1 a0_2 a1_0 a1_1 a1_2 t504 t505 t506 t507 t508 t509) else (chattellaw09_DateOrder.j0 k bt512.1 bt514.1 0 a0_0 a0_1 a0_2 a1_0 a1_1 a1_2 t504 t505 t506 t507 t508 t509)))) = some r := H
  have A4 := Aside0.mk A40
  clear A40
  replace H := Option.bind_eq_some_iff.mp H
  obtain ⟨⟨t512, t513⟩, A50, H⟩ := H
  replace H : ((date_Number.f k t507 t508 t509).bind fun bt514 => (if t512 < bt514.1 then (chattellaw09_DateOrder.j0 k t512 bt514.1 (-1) a0_0 a0_1 a0_2 a1_0 a1_1 a1_2 t504 t505 t506 t507 t508 t509) else (chattellaw09_DateOrder.j0 k t512 bt514.1 0 a0_0 a0_1 a0_2 a1_0 a1_1 a1_2 t504 t505 t506 t507 t508 t509))) = some r := H
  have A5 := Aside0.mk A50
  clear A50
  replace H := Option.bind_eq_some_iff.mp H
  obtain ⟨⟨t514, t515⟩, A60, H⟩ := H
  replace H : (if t512 < t514 then (chattellaw09_DateOrder.j0 k t512 t514 (-1) a0_0 a0_1 a0_2 a1_0 a1_1 a1_2 t504 t505 t506 t507 t508 t509) else (chattellaw09_DateOrder.j0 k t512 t514 0 a0_0 a0_1 a0_2 a1_0 a1_1 a1_2 t504 t505 t506 t507 t508 t509)) = some r := H
  have A6 := Aside0.mk A60
  clear A60
  have HC7 := Aside0.mk H
  clear H
  go_enter Try.func11, Try.ntmps11
  try go_wp2_with (first | ((with_reducible refine gate_dst (N := 2) rfl ?_); refine box_event ?hg (N := 2) ?hd (cs := #[.int .i64 a0_0, .int .i64 a0_1, .int .i64 a0_2]) (t := 23) ?hr ?_; (case hd => rfl); (case hg => rfl); (case hr => first | (go_simp; done) | (go_simp; rfl)); intro gb502 hg w8 hbox hb; have n0_ := Aside0.mk (below_step (by repeat (first | (with_reducible first | exact HB.out | apply below_alloc | apply pw_below_drewN | apply below_drew1) | exact HB.out)) hb); have n1_ := Aside0.mk (hbox); have n2_ := Aside0.mk ((by rw [hg]; exact (below_size (by repeat (first | (with_reducible first | exact HB.out | apply below_alloc | apply pw_below_drewN | apply below_drew1) | exact HB.out))) : w.heap.size ≤ gb502)); have n3_ := Aside0.mk ((by rw [hg]; exact (below_size (by repeat (first | (with_reducible first | exact HB.out | apply below_alloc | apply pw_below_drewN | apply below_drew1) | exact HB.out))) : w.heap.size ≤ gb502)); clear HB; have HB := n0_; have BK502 := n1_; have GW502 := n2_; have GE502 := n3_; clear n0_ n1_ n2_ n3_; clear hb hbox hg) | ((with_reducible refine gate_dst (N := 3) rfl ?_); refine box_event ?hg (N := 3) ?hd (cs := #[.int .i64 a1_0, .int .i64 a1_1, .int .i64 a1_2]) (t := 23) ?hr ?_; (case hd => rfl); (case hg => rfl); (case hr => first | (go_simp; done) | (go_simp; rfl)); intro gb503 hg w9 hbox hb; have n0_ := Aside0.mk (bb BK502.out hb); have n1_ := Aside0.mk (bs HB.out hb); have n2_ := Aside0.mk (hbox); have n3_ := Aside0.mk ((by rw [hg]; exact (bz HB.out) : w.heap.size ≤ gb503)); have n4_ := Aside0.mk ((by rw [hg]; exact (bz HB.out) : w.heap.size ≤ gb503)); have n5_ := Aside0.mk ((by rw [hg]; exact Nat.ne_of_lt (blk_lt (g := gb502) (o := .cells #[.int .i64 a0_0, .int .i64 a0_1, .int .i64 a0_2] 23 (0, 0)) (by (with_reducible repeat (first | refine blk_drewN ?_ _ | refine blk_drew ?_ | refine blk_alloc ?_ _)); exact BK502.out)) : gb502 ≠ gb503)); have n6_ := Aside0.mk ((by rw [hg]; exact Nat.ne_of_gt (blk_lt (g := gb502) (o := .cells #[.int .i64 a0_0, .int .i64 a0_1, .int .i64 a0_2] 23 (0, 0)) (by (with_reducible repeat (first | refine blk_drewN ?_ _ | refine blk_drew ?_ | refine blk_alloc ?_ _)); exact BK502.out)) : gb503 ≠ gb502)); clear BK502; clear HB; have BK502 := n0_; have HB := n1_; have BK503 := n2_; have GW503 := n3_; have GE503 := n4_; have NB502_503 := n5_; have NB503_502 := n6_; clear n0_ n1_ n2_ n3_ n4_ n5_ n6_; clear hb hbox hg))
  replace BK502 := Aside0.mk (blk_drew BK502.out)
  replace BK503 := Aside0.mk (blk_drew BK503.out)
  replace HB := Aside0.mk (below_drew1 HB.out)
  refine start_ (n := 20) (S := fun w' => w'.cell? ⟨gb502, 0, none⟩ = some (.int .i64 a0_0) ∧ w'.cell? ⟨gb502, 1, none⟩ = some (.int .i64 a0_1) ∧ w'.cell? ⟨gb502, 2, none⟩ = some (.int .i64 a0_2) ∧ w'.cell? ⟨gb503, 0, none⟩ = some (.int .i64 a1_0) ∧ w'.cell? ⟨gb503, 1, none⟩ = some (.int .i64 a1_1) ∧ w'.cell? ⟨gb503, 2, none⟩ = some (.int .i64 a1_2)) (ds := []) (fl 0 20 []) (by kernel_rfl) rfl rfl ⟨(blk_cell BK502.out 0).trans rfl, (blk_cell BK502.out 1).trans rfl, (blk_cell BK502.out 2).trans rfl, (blk_cell BK503.out 0).trans rfl, (blk_cell BK503.out 1).trans rfl, (blk_cell BK503.out 2).trans rfl⟩ (fun hHeld => ?_); refine with_tabW chattellaw09_DateOrder.tab1 chattellaw09_DateOrder.bits1 (fun HT_ HW_ => ?_)
  generalize w9.drew = w10 at BK502 BK503 HB hHeld ⊢
  refine pure_ (i := 0) (N := some 12) (v := ?_) (a' := ?_) (fl 1 20 []) rfl rfl (any_of HT_.out (by kernel_rfl)) (fun _ _ _ h => h) (Or.inl ⟨by rfl, ?_⟩) ?_ ?_
  rotate_left
  · intro w'
    go_simp
    with_reducible rfl
  rotate_left
  · simp only [Act.put, List.setIfInBounds_toArray, List.set_cons_zero, List.set_cons_succ, i64_w, i32_w]
    rfl
  refine pure_ (i := 2) (N := some 14) (v := ?_) (a' := ?_) (fl 1 20 [2]) rfl rfl (any_of HT_.out (by kernel_rfl)) (fun _ _ _ h => h) (Or.inl ⟨by rfl, ?_⟩) ?_ ?_
  rotate_left
  · intro w'
    go_simp
    with_reducible rfl
  rotate_left
  · simp only [Act.put, List.setIfInBounds_toArray, List.set_cons_zero, List.set_cons_succ, i64_w, i32_w]
    rfl
  refine pure_ (i := 4) (N := some 16) (v := ?_) (a' := ?_) (fl 1 20 [2, 4]) rfl rfl (any_of HT_.out (by kernel_rfl)) (fun _ _ _ h => h) (Or.inl ⟨by rfl, ?_⟩) ?_ ?_
  rotate_left
  · intro w'
    go_simp
    with_reducible rfl
  rotate_left
  · simp only [Act.put, List.setIfInBounds_toArray, List.set_cons_zero, List.set_cons_succ, i64_w, i32_w]
    rfl
  refine pure_ (i := 8) (N := some 20) (v := ?_) (a' := ?_) (fl 1 20 [2, 4, 8]) rfl rfl (any_of HT_.out (by kernel_rfl)) (fun _ _ _ h => h) (Or.inl ⟨by rfl, ?_⟩) ?_ ?_
  rotate_left
  · intro w'
    go_simp
    with_reducible rfl
  rotate_left
  · simp only [Act.put, List.setIfInBounds_toArray, List.set_cons_zero, List.set_cons_succ, i64_w, i32_w]
    rfl
  refine pure_ (i := 10) (N := some 22) (v := ?_) (a' := ?_) (fl 1 20 [2, 4, 8, 10]) rfl rfl (any_of HT_.out (by kernel_rfl)) (fun _ _ _ h => h) (Or.inl ⟨by rfl, ?_⟩) ?_ ?_
  rotate_left
  · intro w'
    go_simp
    with_reducible rfl
  rotate_left
  · simp only [Act.put, List.setIfInBounds_toArray, List.set_cons_zero, List.set_cons_succ, i64_w, i32_w]
    rfl
  refine pure_ (i := 12) (N := some 24) (v := ?_) (a' := ?_) (fl 1 20 [2, 4, 8, 10, 12]) rfl rfl (any_of HT_.out (by kernel_rfl)) (fun _ _ _ h => h) (Or.inl ⟨by rfl, ?_⟩) ?_ ?_
  rotate_left
  · intro w'
    go_simp
    with_reducible rfl
  rotate_left
  · simp only [Act.put, List.setIfInBounds_toArray, List.set_cons_zero, List.set_cons_succ, i64_w, i32_w]
    rfl
  refine take_ (i := 1) (N := some 13) (v := ?_) (a' := ?_) (fl 3 20 [4, 8, 10, 12]) rfl rfl (take_ofW HT_.out HW_.out (by kernel_rfl)) (fun _ _ _ h => h) (Or.inl ⟨by rfl, ?_⟩) hHeld ?_ ?_
  rotate_left
  · rintro w' ⟨s0, s1, s2, s3, s4, s5⟩
    go_simp
    with_reducible rfl
  rotate_left
  · simp only [Act.put, List.setIfInBounds_toArray, List.set_cons_zero, List.set_cons_succ, i64_w, i32_w]
    rfl
  refine take_ (i := 3) (N := some 15) (v := ?_) (a' := ?_) (fl 5 20 [8, 10, 12]) rfl rfl (take_ofW HT_.out HW_.out (by kernel_rfl)) (fun _ _ _ h => h) (Or.inl ⟨by rfl, ?_⟩) hHeld ?_ ?_
  rotate_left
  · rintro w' ⟨s0, s1, s2, s3, s4, s5⟩
    go_simp
    with_reducible rfl
  rotate_left
  · simp only [Act.put, List.setIfInBounds_toArray, List.set_cons_zero, List.set_cons_succ, i64_w, i32_w]
    rfl
  refine take_ (i := 5) (N := some 17) (v := ?_) (a' := ?_) (fl 6 20 [8, 10, 12]) rfl rfl (take_ofW HT_.out HW_.out (by kernel_rfl)) (fun _ _ _ h => h) (Or.inl ⟨by rfl, ?_⟩) hHeld ?_ ?_
  rotate_left
  · rintro w' ⟨s0, s1, s2, s3, s4, s5⟩
    go_simp
    with_reducible rfl
  rotate_left
  · simp only [Act.put, List.setIfInBounds_toArray, List.set_cons_zero, List.set_cons_succ, i64_w, i32_w]
    rfl
  refine pure_ (i := 6) (N := some 18) (v := ?_) (a' := ?_) (fl 7 20 [8, 10, 12]) rfl rfl (any_of HT_.out (by kernel_rfl)) (fun _ _ _ h => h) (Or.inl ⟨by rfl, ?_⟩) ?_ ?_
  rotate_left
  · intro w'
    go_simp
    with_reducible rfl
  rotate_left
  · simp only [Act.put, List.setIfInBounds_toArray, List.set_cons_zero, List.set_cons_succ, i64_w, i32_w]
    rfl
  refine take_ (i := 9) (N := some 21) (v := ?_) (a' := ?_) (fl 7 20 [8, 9, 10, 12]) rfl rfl (take_ofW HT_.out HW_.out (by kernel_rfl)) (fun _ _ _ h => h) (Or.inl ⟨by rfl, ?_⟩) hHeld ?_ ?_
  rotate_left
  · rintro w' ⟨s0, s1, s2, s3, s4, s5⟩
    go_simp
    with_reducible rfl
  rotate_left
  · simp only [Act.put, List.setIfInBounds_toArray, List.set_cons_zero, List.set_cons_succ, i64_w, i32_w]
    rfl
  refine take_ (i := 11) (N := some 23) (v := ?_) (a' := ?_) (fl 7 20 [8, 9, 10, 11, 12]) rfl rfl (take_ofW HT_.out HW_.out (by kernel_rfl)) (fun _ _ _ h => h) (Or.inl ⟨by rfl, ?_⟩) hHeld ?_ ?_
  rotate_left
  · rintro w' ⟨s0, s1, s2, s3, s4, s5⟩
    go_simp
    with_reducible rfl
  rotate_left
  · simp only [Act.put, List.setIfInBounds_toArray, List.set_cons_zero, List.set_cons_succ, i64_w, i32_w]
    rfl
  refine take_ (i := 13) (N := some 25) (v := ?_) (a' := ?_) (fl 7 20 [8, 9, 10, 11, 12, 13]) rfl rfl (take_ofW HT_.out HW_.out (by kernel_rfl)) (fun _ _ _ h => h) (Or.inl ⟨by rfl, ?_⟩) hHeld ?_ ?_
  rotate_left
  · rintro w' ⟨s0, s1, s2, s3, s4, s5⟩
    go_simp
    with_reducible rfl
  rotate_left
  · simp only [Act.put, List.setIfInBounds_toArray, List.set_cons_zero, List.set_cons_succ, i64_w, i32_w]
    rfl
  refine pure_ (i := 14) (N := some 26) (v := ?_) (a' := ?_) (fl 7 20 [8, 9, 10, 11, 12, 13, 14]) rfl rfl (any_of HT_.out (by kernel_rfl)) (fun _ _ _ h => h) (Or.inl ⟨by rfl, ?_⟩) ?_ ?_
  rotate_left
  · intro w'
    go_simp
    with_reducible rfl
  rotate_left
  · simp only [Act.put, List.setIfInBounds_toArray, List.set_cons_zero, List.set_cons_succ, i64_w, i32_w]
    rfl
  refine join_ (σ := Nat × Nat) 2 (fl 18 20 []) (fun s_ => [(19, .agg #[.int .i64 t504, .int .i64 t505, .int .i64 t506]), (27, .agg #[.int .i64 t507, .int .i64 t508, .int .i64 t509]), (5, .pointer (some ⟨s_.1, 0, none⟩)), (6, .pointer (some ⟨s_.2, 0, none⟩))]) (fun s_ w' => (w'.cell? ⟨gb502, 0, none⟩ = some (.int .i64 a0_0) ∧ w'.cell? ⟨gb502, 1, none⟩ = some (.int .i64 a0_1) ∧ w'.cell? ⟨gb502, 2, none⟩ = some (.int .i64 a0_2) ∧ w'.cell? ⟨gb503, 0, none⟩ = some (.int .i64 a1_0) ∧ w'.cell? ⟨gb503, 1, none⟩ = some (.int .i64 a1_1) ∧ w'.cell? ⟨gb503, 2, none⟩ = some (.int .i64 a1_2)) ∧ (w'.heap[gb502]? = some (.cells #[.int .i64 a0_0, .int .i64 a0_1, .int .i64 a0_2] 23 (0, 0))) ∧ (w'.heap[gb503]? = some (.cells #[.int .i64 a1_0, .int .i64 a1_1, .int .i64 a1_2] 23 (0, 0))) ∧ (w'.heap[s_.1]? = some (.cells #[.int .i64 0, .int .i64 0, .int .i64 0] 23 (0, 0))) ∧ (w'.heap[s_.2]? = some (.cells #[.int .i64 0, .int .i64 0, .int .i64 0] 23 (0, 0))) ∧ (w.heap.size ≤ s_.1) ∧ (w.heap.size ≤ s_.1) ∧ (gb502 ≠ s_.1) ∧ (s_.1 ≠ gb502) ∧ (gb503 ≠ s_.1) ∧ (s_.1 ≠ gb503) ∧ (s_.2 ≠ s_.1) ∧ (s_.1 ≠ s_.2) ∧ (w.heap.size ≤ s_.2) ∧ (w.heap.size ≤ s_.2) ∧ (gb502 ≠ s_.2) ∧ (s_.2 ≠ gb502) ∧ (gb503 ≠ s_.2) ∧ (s_.2 ≠ gb503) ∧ (Below w.heap.size w w')) ?_ ?_
  rotate_left
  · intro hJ7_15_16_17
    refine join_ (σ := Nat) 3 (fl 17 20 []) (fun s_ => [(19, .agg #[.int .i64 t504, .int .i64 t505, .int .i64 t506]), (27, .agg #[.int .i64 t507, .int .i64 t508, .int .i64 t509]), (5, .pointer (some ⟨s_, 0, none⟩))]) (fun s_ w' => (w'.cell? ⟨gb502, 0, none⟩ = some (.int .i64 a0_0) ∧ w'.cell? ⟨gb502, 1, none⟩ = some (.int .i64 a0_1) ∧ w'.cell? ⟨gb502, 2, none⟩ = some (.int .i64 a0_2) ∧ w'.cell? ⟨gb503, 0, none⟩ = some (.int .i64 a1_0) ∧ w'.cell? ⟨gb503, 1, none⟩ = some (.int .i64 a1_1) ∧ w'.cell? ⟨gb503, 2, none⟩ = some (.int .i64 a1_2)) ∧ (w'.heap[gb502]? = some (.cells #[.int .i64 a0_0, .int .i64 a0_1, .int .i64 a0_2] 23 (0, 0))) ∧ (w'.heap[gb503]? = some (.cells #[.int .i64 a1_0, .int .i64 a1_1, .int .i64 a1_2] 23 (0, 0))) ∧ (w'.heap[s_]? = some (.cells #[.int .i64 0, .int .i64 0, .int .i64 0] 23 (0, 0))) ∧ (w.heap.size ≤ s_) ∧ (w.heap.size ≤ s_) ∧ (gb502 ≠ s_) ∧ (s_ ≠ gb502) ∧ (gb503 ≠ s_) ∧ (s_ ≠ gb503) ∧ (Below w.heap.size w w')) ?_ ?_
    rotate_left
    · intro hJ7_15_16
      refine join_ (σ := Nat) 3 (fl 16 20 [17]) (fun s_ => [(19, .agg #[.int .i64 t504, .int .i64 t505, .int .i64 t506]), (27, .agg #[.int .i64 t507, .int .i64 t508, .int .i64 t509]), (6, .pointer (some ⟨s_, 0, none⟩))]) (fun s_ w' => (w'.cell? ⟨gb502, 0, none⟩ = some (.int .i64 a0_0) ∧ w'.cell? ⟨gb502, 1, none⟩ = some (.int .i64 a0_1) ∧ w'.cell? ⟨gb502, 2, none⟩ = some (.int .i64 a0_2) ∧ w'.cell? ⟨gb503, 0, none⟩ = some (.int .i64 a1_0) ∧ w'.cell? ⟨gb503, 1, none⟩ = some (.int .i64 a1_1) ∧ w'.cell? ⟨gb503, 2, none⟩ = some (.int .i64 a1_2)) ∧ (w'.heap[gb502]? = some (.cells #[.int .i64 a0_0, .int .i64 a0_1, .int .i64 a0_2] 23 (0, 0))) ∧ (w'.heap[gb503]? = some (.cells #[.int .i64 a1_0, .int .i64 a1_1, .int .i64 a1_2] 23 (0, 0))) ∧ (w'.heap[s_]? = some (.cells #[.int .i64 0, .int .i64 0, .int .i64 0] 23 (0, 0))) ∧ (w.heap.size ≤ s_) ∧ (w.heap.size ≤ s_) ∧ (gb502 ≠ s_) ∧ (s_ ≠ gb502) ∧ (gb503 ≠ s_) ∧ (s_ ≠ gb503) ∧ (Below w.heap.size w w')) ?_ ?_
      rotate_left
      · intro hJ7_15_17
        refine join_ (σ := Nat × Nat) 3 (fl 15 20 [16, 17]) (fun s_ => [(19, .agg #[.int .i64 t504, .int .i64 t505, .int .i64 t506]), (5, .pointer (some ⟨s_.1, 0, none⟩)), (6, .pointer (some ⟨s_.2, 0, none⟩))]) (fun s_ w' => (w'.cell? ⟨gb502, 0, none⟩ = some (.int .i64 a0_0) ∧ w'.cell? ⟨gb502, 1, none⟩ = some (.int .i64 a0_1) ∧ w'.cell? ⟨gb502, 2, none⟩ = some (.int .i64 a0_2) ∧ w'.cell? ⟨gb503, 0, none⟩ = some (.int .i64 a1_0) ∧ w'.cell? ⟨gb503, 1, none⟩ = some (.int .i64 a1_1) ∧ w'.cell? ⟨gb503, 2, none⟩ = some (.int .i64 a1_2)) ∧ (w'.heap[gb502]? = some (.cells #[.int .i64 a0_0, .int .i64 a0_1, .int .i64 a0_2] 23 (0, 0))) ∧ (w'.heap[gb503]? = some (.cells #[.int .i64 a1_0, .int .i64 a1_1, .int .i64 a1_2] 23 (0, 0))) ∧ (w'.heap[s_.1]? = some (.cells #[.int .i64 0, .int .i64 0, .int .i64 0] 23 (0, 0))) ∧ (w'.heap[s_.2]? = some (.cells #[.int .i64 0, .int .i64 0, .int .i64 0] 23 (0, 0))) ∧ (w.heap.size ≤ s_.1) ∧ (w.heap.size ≤ s_.1) ∧ (gb502 ≠ s_.1) ∧ (s_.1 ≠ gb502) ∧ (gb503 ≠ s_.1) ∧ (s_.1 ≠ gb503) ∧ (s_.2 ≠ s_.1) ∧ (s_.1 ≠ s_.2) ∧ (w.heap.size ≤ s_.2) ∧ (w.heap.size ≤ s_.2) ∧ (gb502 ≠ s_.2) ∧ (s_.2 ≠ gb502) ∧ (gb503 ≠ s_.2) ∧ (s_.2 ≠ gb503) ∧ (Below w.heap.size w w')) ?_ ?_
        rotate_left
        · intro hJ7_16_17
          refine join_ (σ := Unit) 4 (fl 16 20 []) (fun s_ => [(19, .agg #[.int .i64 t504, .int .i64 t505, .int .i64 t506]), (27, .agg #[.int .i64 t507, .int .i64 t508, .int .i64 t509])]) (fun s_ w' => (w'.cell? ⟨gb502, 0, none⟩ = some (.int .i64 a0_0) ∧ w'.cell? ⟨gb502, 1, none⟩ = some (.int .i64 a0_1) ∧ w'.cell? ⟨gb502, 2, none⟩ = some (.int .i64 a0_2) ∧ w'.cell? ⟨gb503, 0, none⟩ = some (.int .i64 a1_0) ∧ w'.cell? ⟨gb503, 1, none⟩ = some (.int .i64 a1_1) ∧ w'.cell? ⟨gb503, 2, none⟩ = some (.int .i64 a1_2)) ∧ (w'.heap[gb502]? = some (.cells #[.int .i64 a0_0, .int .i64 a0_1, .int .i64 a0_2] 23 (0, 0))) ∧ (w'.heap[gb503]? = some (.cells #[.int .i64 a1_0, .int .i64 a1_1, .int .i64 a1_2] 23 (0, 0))) ∧ (Below w.heap.size w w')) ?_ ?_
          rotate_left
          · intro hJ7_15
            refine join_ (σ := Nat) 4 (fl 15 20 [16]) (fun s_ => [(19, .agg #[.int .i64 t504, .int .i64 t505, .int .i64 t506]), (5, .pointer (some ⟨s_, 0, none⟩))]) (fun s_ w' => (w'.cell? ⟨gb502, 0, none⟩ = some (.int .i64 a0_0) ∧ w'.cell? ⟨gb502, 1, none⟩ = some (.int .i64 a0_1) ∧ w'.cell? ⟨gb502, 2, none⟩ = some (.int .i64 a0_2) ∧ w'.cell? ⟨gb503, 0, none⟩ = some (.int .i64 a1_0) ∧ w'.cell? ⟨gb503, 1, none⟩ = some (.int .i64 a1_1) ∧ w'.cell? ⟨gb503, 2, none⟩ = some (.int .i64 a1_2)) ∧ (w'.heap[gb502]? = some (.cells #[.int .i64 a0_0, .int .i64 a0_1, .int .i64 a0_2] 23 (0, 0))) ∧ (w'.heap[gb503]? = some (.cells #[.int .i64 a1_0, .int .i64 a1_1, .int .i64 a1_2] 23 (0, 0))) ∧ (w'.heap[s_]? = some (.cells #[.int .i64 0, .int .i64 0, .int .i64 0] 23 (0, 0))) ∧ (w.heap.size ≤ s_) ∧ (w.heap.size ≤ s_) ∧ (gb502 ≠ s_) ∧ (s_ ≠ gb502) ∧ (gb503 ≠ s_) ∧ (s_ ≠ gb503) ∧ (Below w.heap.size w w')) ?_ ?_
            rotate_left
            · intro hJ7_16
              refine join_ (σ := Nat) 4 (fl 15 20 [17]) (fun s_ => [(19, .agg #[.int .i64 t504, .int .i64 t505, .int .i64 t506]), (6, .pointer (some ⟨s_, 0, none⟩))]) (fun s_ w' => (w'.cell? ⟨gb502, 0, none⟩ = some (.int .i64 a0_0) ∧ w'.cell? ⟨gb502, 1, none⟩ = some (.int .i64 a0_1) ∧ w'.cell? ⟨gb502, 2, none⟩ = some (.int .i64 a0_2) ∧ w'.cell? ⟨gb503, 0, none⟩ = some (.int .i64 a1_0) ∧ w'.cell? ⟨gb503, 1, none⟩ = some (.int .i64 a1_1) ∧ w'.cell? ⟨gb503, 2, none⟩ = some (.int .i64 a1_2)) ∧ (w'.heap[gb502]? = some (.cells #[.int .i64 a0_0, .int .i64 a0_1, .int .i64 a0_2] 23 (0, 0))) ∧ (w'.heap[gb503]? = some (.cells #[.int .i64 a1_0, .int .i64 a1_1, .int .i64 a1_2] 23 (0, 0))) ∧ (w'.heap[s_]? = some (.cells #[.int .i64 0, .int .i64 0, .int .i64 0] 23 (0, 0))) ∧ (w.heap.size ≤ s_) ∧ (w.heap.size ≤ s_) ∧ (gb502 ≠ s_) ∧ (s_ ≠ gb502) ∧ (gb503 ≠ s_) ∧ (s_ ≠ gb503) ∧ (Below w.heap.size w w')) ?_ ?_
              rotate_left
              · intro hJ7_17
                refine join_ (σ := Nat × Nat) 4 (fl 7 20 [8, 9, 10, 11, 12, 13, 14, 16, 17]) (fun s_ => [(5, .pointer (some ⟨s_.1, 0, none⟩)), (6, .pointer (some ⟨s_.2, 0, none⟩))]) (fun s_ w' => (w'.cell? ⟨gb502, 0, none⟩ = some (.int .i64 a0_0) ∧ w'.cell? ⟨gb502, 1, none⟩ = some (.int .i64 a0_1) ∧ w'.cell? ⟨gb502, 2, none⟩ = some (.int .i64 a0_2) ∧ w'.cell? ⟨gb503, 0, none⟩ = some (.int .i64 a1_0) ∧ w'.cell? ⟨gb503, 1, none⟩ = some (.int .i64 a1_1) ∧ w'.cell? ⟨gb503, 2, none⟩ = some (.int .i64 a1_2)) ∧ (w'.heap[gb502]? = some (.cells #[.int .i64 a0_0, .int .i64 a0_1, .int .i64 a0_2] 23 (0, 0))) ∧ (w'.heap[gb503]? = some (.cells #[.int .i64 a1_0, .int .i64 a1_1, .int .i64 a1_2] 23 (0, 0))) ∧ (w'.heap[s_.1]? = some (.cells #[.int .i64 0, .int .i64 0, .int .i64 0] 23 (0, 0))) ∧ (w'.heap[s_.2]? = some (.cells #[.int .i64 0, .int .i64 0, .int .i64 0] 23 (0, 0))) ∧ (w.heap.size ≤ s_.1) ∧ (w.heap.size ≤ s_.1) ∧ (gb502 ≠ s_.1) ∧ (s_.1 ≠ gb502) ∧ (gb503 ≠ s_.1) ∧ (s_.1 ≠ gb503) ∧ (s_.2 ≠ s_.1) ∧ (s_.1 ≠ s_.2) ∧ (w.heap.size ≤ s_.2) ∧ (w.heap.size ≤ s_.2) ∧ (gb502 ≠ s_.2) ∧ (s_.2 ≠ gb502) ∧ (gb503 ≠ s_.2) ∧ (s_.2 ≠ gb503) ∧ (Below w.heap.size w w')) ?_ ?_
                rotate_left
                · intro hJ16_17
                  refine join_ (σ := Unit) 5 (fl 15 20 []) (fun s_ => [(19, .agg #[.int .i64 t504, .int .i64 t505, .int .i64 t506])]) (fun s_ w' => (w'.cell? ⟨gb502, 0, none⟩ = some (.int .i64 a0_0) ∧ w'.cell? ⟨gb502, 1, none⟩ = some (.int .i64 a0_1) ∧ w'.cell? ⟨gb502, 2, none⟩ = some (.int .i64 a0_2) ∧ w'.cell? ⟨gb503, 0, none⟩ = some (.int .i64 a1_0) ∧ w'.cell? ⟨gb503, 1, none⟩ = some (.int .i64 a1_1) ∧ w'.cell? ⟨gb503, 2, none⟩ = some (.int .i64 a1_2)) ∧ (w'.heap[gb502]? = some (.cells #[.int .i64 a0_0, .int .i64 a0_1, .int .i64 a0_2] 23 (0, 0))) ∧ (w'.heap[gb503]? = some (.cells #[.int .i64 a1_0, .int .i64 a1_1, .int .i64 a1_2] 23 (0, 0))) ∧ (Below w.heap.size w w')) ?_ ?_
                  rotate_left
                  · intro hJ7
                    refine join_ (σ := Nat) 5 (fl 7 20 [8, 9, 10, 11, 12, 13, 14, 16]) (fun s_ => [(5, .pointer (some ⟨s_, 0, none⟩))]) (fun s_ w' => (w'.cell? ⟨gb502, 0, none⟩ = some (.int .i64 a0_0) ∧ w'.cell? ⟨gb502, 1, none⟩ = some (.int .i64 a0_1) ∧ w'.cell? ⟨gb502, 2, none⟩ = some (.int .i64 a0_2) ∧ w'.cell? ⟨gb503, 0, none⟩ = some (.int .i64 a1_0) ∧ w'.cell? ⟨gb503, 1, none⟩ = some (.int .i64 a1_1) ∧ w'.cell? ⟨gb503, 2, none⟩ = some (.int .i64 a1_2)) ∧ (w'.heap[gb502]? = some (.cells #[.int .i64 a0_0, .int .i64 a0_1, .int .i64 a0_2] 23 (0, 0))) ∧ (w'.heap[gb503]? = some (.cells #[.int .i64 a1_0, .int .i64 a1_1, .int .i64 a1_2] 23 (0, 0))) ∧ (w'.heap[s_]? = some (.cells #[.int .i64 0, .int .i64 0, .int .i64 0] 23 (0, 0))) ∧ (w.heap.size ≤ s_) ∧ (w.heap.size ≤ s_) ∧ (gb502 ≠ s_) ∧ (s_ ≠ gb502) ∧ (gb503 ≠ s_) ∧ (s_ ≠ gb503) ∧ (Below w.heap.size w w')) ?_ ?_
                    rotate_left
                    · intro hJ16
                      refine join_ (σ := Nat) 5 (fl 7 20 [8, 9, 10, 11, 12, 13, 14, 17]) (fun s_ => [(6, .pointer (some ⟨s_, 0, none⟩))]) (fun s_ w' => (w'.cell? ⟨gb502, 0, none⟩ = some (.int .i64 a0_0) ∧ w'.cell? ⟨gb502, 1, none⟩ = some (.int .i64 a0_1) ∧ w'.cell? ⟨gb502, 2, none⟩ = some (.int .i64 a0_2) ∧ w'.cell? ⟨gb503, 0, none⟩ = some (.int .i64 a1_0) ∧ w'.cell? ⟨gb503, 1, none⟩ = some (.int .i64 a1_1) ∧ w'.cell? ⟨gb503, 2, none⟩ = some (.int .i64 a1_2)) ∧ (w'.heap[gb502]? = some (.cells #[.int .i64 a0_0, .int .i64 a0_1, .int .i64 a0_2] 23 (0, 0))) ∧ (w'.heap[gb503]? = some (.cells #[.int .i64 a1_0, .int .i64 a1_1, .int .i64 a1_2] 23 (0, 0))) ∧ (w'.heap[s_]? = some (.cells #[.int .i64 0, .int .i64 0, .int .i64 0] 23 (0, 0))) ∧ (w.heap.size ≤ s_) ∧ (w.heap.size ≤ s_) ∧ (gb502 ≠ s_) ∧ (s_ ≠ gb502) ∧ (gb503 ≠ s_) ∧ (s_ ≠ gb503) ∧ (Below w.heap.size w w')) ?_ ?_
                      rotate_left
                      · intro hJ17
                        refine three_ (i := 7) (j := 16) (k := 17) (Ni := some 19) (Nj := some 5) (Nk := some 6) (fl 15 20 []) (fl 7 20 [8, 9, 10, 11, 12, 13, 14, 16]) (fl 7 20 [8, 9, 10, 11, 12, 13, 14, 17]) rfl rfl rfl rfl rfl rfl (three_of HT_.out (by kernel_rfl)) (by decide) (by decide) (by decide) (fun K hK => ?_) (fun K hK => ?_) (fun K hK => ?_)
                        · skip
                          refine goes_ Try.func12 (by kernel_rfl) rfl #[.agg #[.int .i64 a0_0, .int .i64 a0_1, .int .i64 a0_2], .int .i64 9999] (by rfl) rfl rfl (by (try simp only [List.map_toArray, List.map_cons, List.map_nil]); first | done | rfl | (simp only [List.length_drop, List.length_take]; rfl)) ?_
                          with_reducible refine (chattelref09_Make.calls k a0_0 a0_1 a0_2 9999 t504 t505 t506 _ A3.out).mono ?_
                          rintro e w11 ⟨rfl, hb⟩
                          refine ⟨_, rfl, ?_⟩
                          replace BK502 := Aside0.mk (bb BK502.out hb)
                          replace BK503 := Aside0.mk (bb BK503.out hb)
                          replace HB := Aside0.mk (bs HB.out hb)
                          (try clear hb)
                          (try clear hb2)
                          (try clear hk)
                          (try clear hi)
                          refine hK.out _ _ ⟨(blk_cell BK502.out 0).trans rfl, (blk_cell BK502.out 1).trans rfl, (blk_cell BK502.out 2).trans rfl, (blk_cell BK503.out 0).trans rfl, (blk_cell BK503.out 1).trans rfl, (blk_cell BK503.out 2).trans rfl⟩ (fun hHeld => ?_)
                          clear hK K
                          refine norm_ (a' := ?_) ?_ ?_
                          rotate_left
                          · show Act.put _ (some 19) _ = _
                            simp only [Act.put, List.setIfInBounds_toArray, List.set_cons_zero, List.set_cons_succ, i64_w, i32_w]
                            rfl
                          exact norm_ (by first | (simp only [putAll, Act.put, List.setIfInBounds_toArray, List.set_cons_zero, List.set_cons_succ]; done) | (simp only [putAll, Act.put, List.setIfInBounds_toArray, List.set_cons_zero, List.set_cons_succ]; rfl)) (hJ7 () _ ⟨hHeld, (by (with_reducible repeat (first | refine blk_drewN ?_ _ | refine blk_drew ?_ | refine blk_alloc ?_ _)); exact BK502.out), (by (with_reducible repeat (first | refine blk_drewN ?_ _ | refine blk_drew ?_ | refine blk_alloc ?_ _)); exact BK503.out), (by repeat (first | (with_reducible first | exact HB.out | apply below_alloc | apply pw_below_drewN | apply below_drew1 | refine below_set ?_ GE502.out | refine below_set ?_ GE503.out) | exact HB.out))⟩)
                        · skip
                          refine box_step ?hg (N := 5) ?hd (cs := #[.int .i64 0, .int .i64 0, .int .i64 0]) (t := 23) ?hr ?_; (case hd => rfl); (case hg => rfl); (case hr => first | (go_simp; done) | (go_simp; rfl))
                          intro gb510 hg w11 hbox hb
                          have n0_ := Aside0.mk (bb BK502.out hb)
                          have n1_ := Aside0.mk (bb BK503.out hb)
                          have n2_ := Aside0.mk (bs HB.out hb)
                          have n3_ := Aside0.mk (hbox)
                          have n4_ := Aside0.mk ((by rw [hg]; exact (bz HB.out) : w.heap.size ≤ gb510))
                          have n5_ := Aside0.mk ((by rw [hg]; exact (bz HB.out) : w.heap.size ≤ gb510))
                          have n6_ := Aside0.mk ((by rw [hg]; exact Nat.ne_of_lt (blk_lt (g := gb502) (o := .cells #[.int .i64 a0_0, .int .i64 a0_1, .int .i64 a0_2] 23 (0, 0)) (by (with_reducible repeat (first | refine blk_drewN ?_ _ | refine blk_drew ?_ | refine blk_alloc ?_ _)); exact BK502.out)) : gb502 ≠ gb510))
                          have n7_ := Aside0.mk ((by rw [hg]; exact Nat.ne_of_gt (blk_lt (g := gb502) (o := .cells #[.int .i64 a0_0, .int .i64 a0_1, .int .i64 a0_2] 23 (0, 0)) (by (with_reducible repeat (first | refine blk_drewN ?_ _ | refine blk_drew ?_ | refine blk_alloc ?_ _)); exact BK502.out)) : gb510 ≠ gb502))
                          have n8_ := Aside0.mk ((by rw [hg]; exact Nat.ne_of_lt (blk_lt (g := gb503) (o := .cells #[.int .i64 a1_0, .int .i64 a1_1, .int .i64 a1_2] 23 (0, 0)) (by (with_reducible repeat (first | refine blk_drewN ?_ _ | refine blk_drew ?_ | refine blk_alloc ?_ _)); exact BK503.out)) : gb503 ≠ gb510))
                          have n9_ := Aside0.mk ((by rw [hg]; exact Nat.ne_of_gt (blk_lt (g := gb503) (o := .cells #[.int .i64 a1_0, .int .i64 a1_1, .int .i64 a1_2] 23 (0, 0)) (by (with_reducible repeat (first | refine blk_drewN ?_ _ | refine blk_drew ?_ | refine blk_alloc ?_ _)); exact BK503.out)) : gb510 ≠ gb503))
                          clear BK502
                          clear BK503
                          clear HB
                          have BK502 := n0_
                          have BK503 := n1_
                          have HB := n2_
                          have BK510 := n3_
                          have GW510 := n4_
                          have GE510 := n5_
                          have NB502_510 := n6_
                          have NB510_502 := n7_
                          have NB503_510 := n8_
                          have NB510_503 := n9_
                          clear n0_ n1_ n2_ n3_ n4_ n5_ n6_ n7_ n8_ n9_
                          clear hb hbox hg
                          refine hK.out _ _ ⟨(blk_cell BK502.out 0).trans rfl, (blk_cell BK502.out 1).trans rfl, (blk_cell BK502.out 2).trans rfl, (blk_cell BK503.out 0).trans rfl, (blk_cell BK503.out 1).trans rfl, (blk_cell BK503.out 2).trans rfl⟩ (fun hHeld => ?_)
                          clear hK K
                          refine norm_ (a' := ?_) ?_ ?_
                          rotate_left
                          · show Act.put _ (some 5) _ = _
                            simp only [Act.put, List.setIfInBounds_toArray, List.set_cons_zero, List.set_cons_succ, i64_w, i32_w]
                            rfl
                          exact norm_ (by first | (simp only [putAll, Act.put, List.setIfInBounds_toArray, List.set_cons_zero, List.set_cons_succ]; done) | (simp only [putAll, Act.put, List.setIfInBounds_toArray, List.set_cons_zero, List.set_cons_succ]; rfl)) (hJ16 (gb510) _ ⟨hHeld, (by (with_reducible repeat (first | refine blk_drewN ?_ _ | refine blk_drew ?_ | refine blk_alloc ?_ _)); exact BK502.out), (by (with_reducible repeat (first | refine blk_drewN ?_ _ | refine blk_drew ?_ | refine blk_alloc ?_ _)); exact BK503.out), (by (with_reducible repeat (first | refine blk_drewN ?_ _ | refine blk_drew ?_ | refine blk_alloc ?_ _)); exact BK510.out), GW510.out, GE510.out, NB502_510.out, NB510_502.out, NB503_510.out, NB510_503.out, (by repeat (first | (with_reducible first | exact HB.out | apply below_alloc | apply pw_below_drewN | apply below_drew1 | refine below_set ?_ GE502.out | refine below_set ?_ GE503.out | refine below_set ?_ GE510.out) | exact HB.out))⟩)
                        · skip
                          refine box_step ?hg (N := 6) ?hd (cs := #[.int .i64 0, .int .i64 0, .int .i64 0]) (t := 23) ?hr ?_; (case hd => rfl); (case hg => rfl); (case hr => first | (go_simp; done) | (go_simp; rfl))
                          intro gb511 hg w11 hbox hb
                          have n0_ := Aside0.mk (bb BK502.out hb)
                          have n1_ := Aside0.mk (bb BK503.out hb)
                          have n2_ := Aside0.mk (bs HB.out hb)
                          have n3_ := Aside0.mk (hbox)
                          have n4_ := Aside0.mk ((by rw [hg]; exact (bz HB.out) : w.heap.size ≤ gb511))
                          have n5_ := Aside0.mk ((by rw [hg]; exact (bz HB.out) : w.heap.size ≤ gb511))
                          have n6_ := Aside0.mk ((by rw [hg]; exact Nat.ne_of_lt (blk_lt (g := gb502) (o := .cells #[.int .i64 a0_0, .int .i64 a0_1, .int .i64 a0_2] 23 (0, 0)) (by (with_reducible repeat (first | refine blk_drewN ?_ _ | refine blk_drew ?_ | refine blk_alloc ?_ _)); exact BK502.out)) : gb502 ≠ gb511))
                          have n7_ := Aside0.mk ((by rw [hg]; exact Nat.ne_of_gt (blk_lt (g := gb502) (o := .cells #[.int .i64 a0_0, .int .i64 a0_1, .int .i64 a0_2] 23 (0, 0)) (by (with_reducible repeat (first | refine blk_drewN ?_ _ | refine blk_drew ?_ | refine blk_alloc ?_ _)); exact BK502.out)) : gb511 ≠ gb502))
                          have n8_ := Aside0.mk ((by rw [hg]; exact Nat.ne_of_lt (blk_lt (g := gb503) (o := .cells #[.int .i64 a1_0, .int .i64 a1_1, .int .i64 a1_2] 23 (0, 0)) (by (with_reducible repeat (first | refine blk_drewN ?_ _ | refine blk_drew ?_ | refine blk_alloc ?_ _)); exact BK503.out)) : gb503 ≠ gb511))
                          have n9_ := Aside0.mk ((by rw [hg]; exact Nat.ne_of_gt (blk_lt (g := gb503) (o := .cells #[.int .i64 a1_0, .int .i64 a1_1, .int .i64 a1_2] 23 (0, 0)) (by (with_reducible repeat (first | refine blk_drewN ?_ _ | refine blk_drew ?_ | refine blk_alloc ?_ _)); exact BK503.out)) : gb511 ≠ gb503))
                          clear BK502
                          clear BK503
                          clear HB
                          have BK502 := n0_
                          have BK503 := n1_
                          have HB := n2_
                          have BK511 := n3_
                          have GW511 := n4_
                          have GE511 := n5_
                          have NB502_511 := n6_
                          have NB511_502 := n7_
                          have NB503_511 := n8_
                          have NB511_503 := n9_
                          clear n0_ n1_ n2_ n3_ n4_ n5_ n6_ n7_ n8_ n9_
                          clear hb hbox hg
                          refine hK.out _ _ ⟨(blk_cell BK502.out 0).trans rfl, (blk_cell BK502.out 1).trans rfl, (blk_cell BK502.out 2).trans rfl, (blk_cell BK503.out 0).trans rfl, (blk_cell BK503.out 1).trans rfl, (blk_cell BK503.out 2).trans rfl⟩ (fun hHeld => ?_)
                          clear hK K
                          refine norm_ (a' := ?_) ?_ ?_
                          rotate_left
                          · show Act.put _ (some 6) _ = _
                            simp only [Act.put, List.setIfInBounds_toArray, List.set_cons_zero, List.set_cons_succ, i64_w, i32_w]
                            rfl
                          exact norm_ (by first | (simp only [putAll, Act.put, List.setIfInBounds_toArray, List.set_cons_zero, List.set_cons_succ]; done) | (simp only [putAll, Act.put, List.setIfInBounds_toArray, List.set_cons_zero, List.set_cons_succ]; rfl)) (hJ17 (gb511) _ ⟨hHeld, (by (with_reducible repeat (first | refine blk_drewN ?_ _ | refine blk_drew ?_ | refine blk_alloc ?_ _)); exact BK502.out), (by (with_reducible repeat (first | refine blk_drewN ?_ _ | refine blk_drew ?_ | refine blk_alloc ?_ _)); exact BK503.out), (by (with_reducible repeat (first | refine blk_drewN ?_ _ | refine blk_drew ?_ | refine blk_alloc ?_ _)); exact BK511.out), GW511.out, GE511.out, NB502_511.out, NB511_502.out, NB503_511.out, NB511_503.out, (by repeat (first | (with_reducible first | exact HB.out | apply below_alloc | apply pw_below_drewN | apply below_drew1 | refine below_set ?_ GE502.out | refine below_set ?_ GE503.out | refine below_set ?_ GE511.out) | exact HB.out))⟩)
                      · skip
                        rintro gb511 w12 ⟨hS_, h0_, h1_, h2_, h3_, h4_, h5_, h6_, h7_, h8_, h9_⟩
                        have n0_ : Aside0 (w12.heap[gb502]? = some (.cells #[.int .i64 a0_0, .int .i64 a0_1, .int .i64 a0_2] 23 (0, 0))) := ⟨h0_⟩
                        have n1_ : Aside0 (w12.heap[gb503]? = some (.cells #[.int .i64 a1_0, .int .i64 a1_1, .int .i64 a1_2] 23 (0, 0))) := ⟨h1_⟩
                        have n2_ : Aside0 (w12.heap[gb511]? = some (.cells #[.int .i64 0, .int .i64 0, .int .i64 0] 23 (0, 0))) := ⟨h2_⟩
                        have n3_ : Aside0 (w.heap.size ≤ gb511) := ⟨h3_⟩
                        have n4_ : Aside0 (w.heap.size ≤ gb511) := ⟨h4_⟩
                        have n5_ : Aside0 (gb502 ≠ gb511) := ⟨h5_⟩
                        have n6_ : Aside0 (gb511 ≠ gb502) := ⟨h6_⟩
                        have n7_ : Aside0 (gb503 ≠ gb511) := ⟨h7_⟩
                        have n8_ : Aside0 (gb511 ≠ gb503) := ⟨h8_⟩
                        have n9_ : Aside0 (Below w.heap.size w w12) := ⟨h9_⟩
                        clear BK502
                        clear BK503
                        clear HB
                        clear h0_ h1_ h2_ h3_ h4_ h5_ h6_ h7_ h8_ h9_
                        have BK502 := n0_
                        have BK503 := n1_
                        have BK511 := n2_
                        have GW511 := n3_
                        have GE511 := n4_
                        have NB502_511 := n5_
                        have NB511_502 := n6_
                        have NB503_511 := n7_
                        have NB511_503 := n8_
                        have HB := n9_
                        clear n0_ n1_ n2_ n3_ n4_ n5_ n6_ n7_ n8_ n9_
                        have hHeld : w12.cell? ⟨gb502, 0, none⟩ = some (.int .i64 a0_0) ∧ w12.cell? ⟨gb502, 1, none⟩ = some (.int .i64 a0_1) ∧ w12.cell? ⟨gb502, 2, none⟩ = some (.int .i64 a0_2) ∧ w12.cell? ⟨gb503, 0, none⟩ = some (.int .i64 a1_0) ∧ w12.cell? ⟨gb503, 1, none⟩ = some (.int .i64 a1_1) ∧ w12.cell? ⟨gb503, 2, none⟩ = some (.int .i64 a1_2) := hS_
                        refine norm_ (a' := ?_) ?_ ?_
                        rotate_left
                        · simp only [putAll, Act.put, List.setIfInBounds_toArray, List.set_cons_zero, List.set_cons_succ]
                          rfl
                        refine two_ (i := 7) (j := 16) (Ni := some 19) (Nj := some 5) (fl 15 20 [17]) (fl 7 20 [8, 9, 10, 11, 12, 13, 14, 16, 17]) rfl rfl rfl rfl (two_of HT_.out (by kernel_rfl)) (by decide) (by decide) (fun K hK => ?_) (fun K hK => ?_)
                        · skip
                          refine goes_ Try.func12 (by kernel_rfl) rfl #[.agg #[.int .i64 a0_0, .int .i64 a0_1, .int .i64 a0_2], .int .i64 9999] (by rfl) rfl rfl (by (try simp only [List.map_toArray, List.map_cons, List.map_nil]); first | done | rfl | (simp only [List.length_drop, List.length_take]; rfl)) ?_
                          with_reducible refine (chattelref09_Make.calls k a0_0 a0_1 a0_2 9999 t504 t505 t506 _ A3.out).mono ?_
                          rintro e w13 ⟨rfl, hb⟩
                          refine ⟨_, rfl, ?_⟩
                          replace BK502 := Aside0.mk (bb BK502.out hb)
                          replace BK503 := Aside0.mk (bb BK503.out hb)
                          replace BK511 := Aside0.mk (bb BK511.out hb)
                          replace HB := Aside0.mk (bs HB.out hb)
                          (try clear hb)
                          (try clear hb2)
                          (try clear hk)
                          (try clear hi)
                          refine hK.out _ _ ⟨(blk_cell BK502.out 0).trans rfl, (blk_cell BK502.out 1).trans rfl, (blk_cell BK502.out 2).trans rfl, (blk_cell BK503.out 0).trans rfl, (blk_cell BK503.out 1).trans rfl, (blk_cell BK503.out 2).trans rfl⟩ (fun hHeld => ?_)
                          clear hK K
                          refine norm_ (a' := ?_) ?_ ?_
                          rotate_left
                          · show Act.put _ (some 19) _ = _
                            simp only [Act.put, List.setIfInBounds_toArray, List.set_cons_zero, List.set_cons_succ, i64_w, i32_w]
                            rfl
                          exact norm_ (by first | (simp only [putAll, Act.put, List.setIfInBounds_toArray, List.set_cons_zero, List.set_cons_succ]; done) | (simp only [putAll, Act.put, List.setIfInBounds_toArray, List.set_cons_zero, List.set_cons_succ]; rfl)) (hJ7_17 (gb511) _ ⟨hHeld, (by (with_reducible repeat (first | refine blk_drewN ?_ _ | refine blk_drew ?_ | refine blk_alloc ?_ _)); exact BK502.out), (by (with_reducible repeat (first | refine blk_drewN ?_ _ | refine blk_drew ?_ | refine blk_alloc ?_ _)); exact BK503.out), (by (with_reducible repeat (first | refine blk_drewN ?_ _ | refine blk_drew ?_ | refine blk_alloc ?_ _)); exact BK511.out), GW511.out, GE511.out, NB502_511.out, NB511_502.out, NB503_511.out, NB511_503.out, (by repeat (first | (with_reducible first | exact HB.out | apply below_alloc | apply pw_below_drewN | apply below_drew1 | refine below_set ?_ GE502.out | refine below_set ?_ GE503.out | refine below_set ?_ GE511.out) | exact HB.out))⟩)
                        · skip
                          refine box_step ?hg (N := 5) ?hd (cs := #[.int .i64 0, .int .i64 0, .int .i64 0]) (t := 23) ?hr ?_; (case hd => rfl); (case hg => rfl); (case hr => first | (go_simp; done) | (go_simp; rfl))
                          intro gb510 hg w13 hbox hb
                          have n0_ := Aside0.mk (bb BK502.out hb)
                          have n1_ := Aside0.mk (bb BK503.out hb)
                          have n2_ := Aside0.mk (bb BK511.out hb)
                          have n3_ := Aside0.mk (bs HB.out hb)
                          have n4_ := Aside0.mk (hbox)
                          have n5_ := Aside0.mk ((by rw [hg]; exact (bz HB.out) : w.heap.size ≤ gb510))
                          have n6_ := Aside0.mk ((by rw [hg]; exact (bz HB.out) : w.heap.size ≤ gb510))
                          have n7_ := Aside0.mk ((by rw [hg]; exact Nat.ne_of_lt (blk_lt (g := gb502) (o := .cells #[.int .i64 a0_0, .int .i64 a0_1, .int .i64 a0_2] 23 (0, 0)) (by (with_reducible repeat (first | refine blk_drewN ?_ _ | refine blk_drew ?_ | refine blk_alloc ?_ _)); exact BK502.out)) : gb502 ≠ gb510))
                          have n8_ := Aside0.mk ((by rw [hg]; exact Nat.ne_of_gt (blk_lt (g := gb502) (o := .cells #[.int .i64 a0_0, .int .i64 a0_1, .int .i64 a0_2] 23 (0, 0)) (by (with_reducible repeat (first | refine blk_drewN ?_ _ | refine blk_drew ?_ | refine blk_alloc ?_ _)); exact BK502.out)) : gb510 ≠ gb502))
                          have n9_ := Aside0.mk ((by rw [hg]; exact Nat.ne_of_lt (blk_lt (g := gb503) (o := .cells #[.int .i64 a1_0, .int .i64 a1_1, .int .i64 a1_2] 23 (0, 0)) (by (with_reducible repeat (first | refine blk_drewN ?_ _ | refine blk_drew ?_ | refine blk_alloc ?_ _)); exact BK503.out)) : gb503 ≠ gb510))
                          have n10_ := Aside0.mk ((by rw [hg]; exact Nat.ne_of_gt (blk_lt (g := gb503) (o := .cells #[.int .i64 a1_0, .int .i64 a1_1, .int .i64 a1_2] 23 (0, 0)) (by (with_reducible repeat (first | refine blk_drewN ?_ _ | refine blk_drew ?_ | refine blk_alloc ?_ _)); exact BK503.out)) : gb510 ≠ gb503))
                          have n11_ := Aside0.mk ((by rw [hg]; exact Nat.ne_of_lt (blk_lt (g := gb511) (o := .cells #[.int .i64 0, .int .i64 0, .int .i64 0] 23 (0, 0)) (by (with_reducible repeat (first | refine blk_drewN ?_ _ | refine blk_drew ?_ | refine blk_alloc ?_ _)); exact BK511.out)) : gb511 ≠ gb510))
                          have n12_ := Aside0.mk ((by rw [hg]; exact Nat.ne_of_gt (blk_lt (g := gb511) (o := .cells #[.int .i64 0, .int .i64 0, .int .i64 0] 23 (0, 0)) (by (with_reducible repeat (first | refine blk_drewN ?_ _ | refine blk_drew ?_ | refine blk_alloc ?_ _)); exact BK511.out)) : gb510 ≠ gb511))
                          clear BK502
                          clear BK503
                          clear BK511
                          clear HB
                          have BK502 := n0_
                          have BK503 := n1_
                          have BK511 := n2_
                          have HB := n3_
                          have BK510 := n4_
                          have GW510 := n5_
                          have GE510 := n6_
                          have NB502_510 := n7_
                          have NB510_502 := n8_
                          have NB503_510 := n9_
                          have NB510_503 := n10_
                          have NB511_510 := n11_
                          have NB510_511 := n12_
                          clear n0_ n1_ n2_ n3_ n4_ n5_ n6_ n7_ n8_ n9_ n10_ n11_ n12_
                          clear hb hbox hg
                          refine hK.out _ _ ⟨(blk_cell BK502.out 0).trans rfl, (blk_cell BK502.out 1).trans rfl, (blk_cell BK502.out 2).trans rfl, (blk_cell BK503.out 0).trans rfl, (blk_cell BK503.out 1).trans rfl, (blk_cell BK503.out 2).trans rfl⟩ (fun hHeld => ?_)
                          clear hK K
                          refine norm_ (a' := ?_) ?_ ?_
                          rotate_left
                          · show Act.put _ (some 5) _ = _
                            simp only [Act.put, List.setIfInBounds_toArray, List.set_cons_zero, List.set_cons_succ, i64_w, i32_w]
                            rfl
                          exact norm_ (by first | (simp only [putAll, Act.put, List.setIfInBounds_toArray, List.set_cons_zero, List.set_cons_succ]; done) | (simp only [putAll, Act.put, List.setIfInBounds_toArray, List.set_cons_zero, List.set_cons_succ]; rfl)) (hJ16_17 (gb510, gb511) _ ⟨hHeld, (by (with_reducible repeat (first | refine blk_drewN ?_ _ | refine blk_drew ?_ | refine blk_alloc ?_ _)); exact BK502.out), (by (with_reducible repeat (first | refine blk_drewN ?_ _ | refine blk_drew ?_ | refine blk_alloc ?_ _)); exact BK503.out), (by (with_reducible repeat (first | refine blk_drewN ?_ _ | refine blk_drew ?_ | refine blk_alloc ?_ _)); exact BK510.out), (by (with_reducible repeat (first | refine blk_drewN ?_ _ | refine blk_drew ?_ | refine blk_alloc ?_ _)); exact BK511.out), GW510.out, GE510.out, NB502_510.out, NB510_502.out, NB503_510.out, NB510_503.out, NB511_510.out, NB510_511.out, GW511.out, GE511.out, NB502_511.out, NB511_502.out, NB503_511.out, NB511_503.out, (by repeat (first | (with_reducible first | exact HB.out | apply below_alloc | apply pw_below_drewN | apply below_drew1 | refine below_set ?_ GE502.out | refine below_set ?_ GE503.out | refine below_set ?_ GE511.out | refine below_set ?_ GE510.out) | exact HB.out))⟩)
                    · skip
                      rintro gb510 w12 ⟨hS_, h0_, h1_, h2_, h3_, h4_, h5_, h6_, h7_, h8_, h9_⟩
                      have n0_ : Aside0 (w12.heap[gb502]? = some (.cells #[.int .i64 a0_0, .int .i64 a0_1, .int .i64 a0_2] 23 (0, 0))) := ⟨h0_⟩
                      have n1_ : Aside0 (w12.heap[gb503]? = some (.cells #[.int .i64 a1_0, .int .i64 a1_1, .int .i64 a1_2] 23 (0, 0))) := ⟨h1_⟩
                      have n2_ : Aside0 (w12.heap[gb510]? = some (.cells #[.int .i64 0, .int .i64 0, .int .i64 0] 23 (0, 0))) := ⟨h2_⟩
                      have n3_ : Aside0 (w.heap.size ≤ gb510) := ⟨h3_⟩
                      have n4_ : Aside0 (w.heap.size ≤ gb510) := ⟨h4_⟩
                      have n5_ : Aside0 (gb502 ≠ gb510) := ⟨h5_⟩
                      have n6_ : Aside0 (gb510 ≠ gb502) := ⟨h6_⟩
                      have n7_ : Aside0 (gb503 ≠ gb510) := ⟨h7_⟩
                      have n8_ : Aside0 (gb510 ≠ gb503) := ⟨h8_⟩
                      have n9_ : Aside0 (Below w.heap.size w w12) := ⟨h9_⟩
                      clear BK502
                      clear BK503
                      clear HB
                      clear h0_ h1_ h2_ h3_ h4_ h5_ h6_ h7_ h8_ h9_
                      have BK502 := n0_
                      have BK503 := n1_
                      have BK510 := n2_
                      have GW510 := n3_
                      have GE510 := n4_
                      have NB502_510 := n5_
                      have NB510_502 := n6_
                      have NB503_510 := n7_
                      have NB510_503 := n8_
                      have HB := n9_
                      clear n0_ n1_ n2_ n3_ n4_ n5_ n6_ n7_ n8_ n9_
                      have hHeld : w12.cell? ⟨gb502, 0, none⟩ = some (.int .i64 a0_0) ∧ w12.cell? ⟨gb502, 1, none⟩ = some (.int .i64 a0_1) ∧ w12.cell? ⟨gb502, 2, none⟩ = some (.int .i64 a0_2) ∧ w12.cell? ⟨gb503, 0, none⟩ = some (.int .i64 a1_0) ∧ w12.cell? ⟨gb503, 1, none⟩ = some (.int .i64 a1_1) ∧ w12.cell? ⟨gb503, 2, none⟩ = some (.int .i64 a1_2) := hS_
                      refine norm_ (a' := ?_) ?_ ?_
                      rotate_left
                      · simp only [putAll, Act.put, List.setIfInBounds_toArray, List.set_cons_zero, List.set_cons_succ]
                        rfl
                      refine two_ (i := 7) (j := 17) (Ni := some 19) (Nj := some 6) (fl 15 20 [16]) (fl 7 20 [8, 9, 10, 11, 12, 13, 14, 16, 17]) rfl rfl rfl rfl (two_of HT_.out (by kernel_rfl)) (by decide) (by decide) (fun K hK => ?_) (fun K hK => ?_)
                      · skip
                        refine goes_ Try.func12 (by kernel_rfl) rfl #[.agg #[.int .i64 a0_0, .int .i64 a0_1, .int .i64 a0_2], .int .i64 9999] (by rfl) rfl rfl (by (try simp only [List.map_toArray, List.map_cons, List.map_nil]); first | done | rfl | (simp only [List.length_drop, List.length_take]; rfl)) ?_
                        with_reducible refine (chattelref09_Make.calls k a0_0 a0_1 a0_2 9999 t504 t505 t506 _ A3.out).mono ?_
                        rintro e w13 ⟨rfl, hb⟩
                        refine ⟨_, rfl, ?_⟩
                        replace BK502 := Aside0.mk (bb BK502.out hb)
                        replace BK503 := Aside0.mk (bb BK503.out hb)
                        replace BK510 := Aside0.mk (bb BK510.out hb)
                        replace HB := Aside0.mk (bs HB.out hb)
                        (try clear hb)
                        (try clear hb2)
                        (try clear hk)
                        (try clear hi)
                        refine hK.out _ _ ⟨(blk_cell BK502.out 0).trans rfl, (blk_cell BK502.out 1).trans rfl, (blk_cell BK502.out 2).trans rfl, (blk_cell BK503.out 0).trans rfl, (blk_cell BK503.out 1).trans rfl, (blk_cell BK503.out 2).trans rfl⟩ (fun hHeld => ?_)
                        clear hK K
                        refine norm_ (a' := ?_) ?_ ?_
                        rotate_left
                        · show Act.put _ (some 19) _ = _
                          simp only [Act.put, List.setIfInBounds_toArray, List.set_cons_zero, List.set_cons_succ, i64_w, i32_w]
                          rfl
                        exact norm_ (by first | (simp only [putAll, Act.put, List.setIfInBounds_toArray, List.set_cons_zero, List.set_cons_succ]; done) | (simp only [putAll, Act.put, List.setIfInBounds_toArray, List.set_cons_zero, List.set_cons_succ]; rfl)) (hJ7_16 (gb510) _ ⟨hHeld, (by (with_reducible repeat (first | refine blk_drewN ?_ _ | refine blk_drew ?_ | refine blk_alloc ?_ _)); exact BK502.out), (by (with_reducible repeat (first | refine blk_drewN ?_ _ | refine blk_drew ?_ | refine blk_alloc ?_ _)); exact BK503.out), (by (with_reducible repeat (first | refine blk_drewN ?_ _ | refine blk_drew ?_ | refine blk_alloc ?_ _)); exact BK510.out), GW510.out, GE510.out, NB502_510.out, NB510_502.out, NB503_510.out, NB510_503.out, (by repeat (first | (with_reducible first | exact HB.out | apply below_alloc | apply pw_below_drewN | apply below_drew1 | refine below_set ?_ GE502.out | refine below_set ?_ GE503.out | refine below_set ?_ GE510.out) | exact HB.out))⟩)
                      · skip
                        refine box_step ?hg (N := 6) ?hd (cs := #[.int .i64 0, .int .i64 0, .int .i64 0]) (t := 23) ?hr ?_; (case hd => rfl); (case hg => rfl); (case hr => first | (go_simp; done) | (go_simp; rfl))
                        intro gb511 hg w13 hbox hb
                        have n0_ := Aside0.mk (bb BK502.out hb)
                        have n1_ := Aside0.mk (bb BK503.out hb)
                        have n2_ := Aside0.mk (bb BK510.out hb)
                        have n3_ := Aside0.mk (bs HB.out hb)
                        have n4_ := Aside0.mk (hbox)
                        have n5_ := Aside0.mk ((by rw [hg]; exact (bz HB.out) : w.heap.size ≤ gb511))
                        have n6_ := Aside0.mk ((by rw [hg]; exact (bz HB.out) : w.heap.size ≤ gb511))
                        have n7_ := Aside0.mk ((by rw [hg]; exact Nat.ne_of_lt (blk_lt (g := gb502) (o := .cells #[.int .i64 a0_0, .int .i64 a0_1, .int .i64 a0_2] 23 (0, 0)) (by (with_reducible repeat (first | refine blk_drewN ?_ _ | refine blk_drew ?_ | refine blk_alloc ?_ _)); exact BK502.out)) : gb502 ≠ gb511))
                        have n8_ := Aside0.mk ((by rw [hg]; exact Nat.ne_of_gt (blk_lt (g := gb502) (o := .cells #[.int .i64 a0_0, .int .i64 a0_1, .int .i64 a0_2] 23 (0, 0)) (by (with_reducible repeat (first | refine blk_drewN ?_ _ | refine blk_drew ?_ | refine blk_alloc ?_ _)); exact BK502.out)) : gb511 ≠ gb502))
                        have n9_ := Aside0.mk ((by rw [hg]; exact Nat.ne_of_lt (blk_lt (g := gb503) (o := .cells #[.int .i64 a1_0, .int .i64 a1_1, .int .i64 a1_2] 23 (0, 0)) (by (with_reducible repeat (first | refine blk_drewN ?_ _ | refine blk_drew ?_ | refine blk_alloc ?_ _)); exact BK503.out)) : gb503 ≠ gb511))
                        have n10_ := Aside0.mk ((by rw [hg]; exact Nat.ne_of_gt (blk_lt (g := gb503) (o := .cells #[.int .i64 a1_0, .int .i64 a1_1, .int .i64 a1_2] 23 (0, 0)) (by (with_reducible repeat (first | refine blk_drewN ?_ _ | refine blk_drew ?_ | refine blk_alloc ?_ _)); exact BK503.out)) : gb511 ≠ gb503))
                        have n11_ := Aside0.mk ((by rw [hg]; exact Nat.ne_of_lt (blk_lt (g := gb510) (o := .cells #[.int .i64 0, .int .i64 0, .int .i64 0] 23 (0, 0)) (by (with_reducible repeat (first | refine blk_drewN ?_ _ | refine blk_drew ?_ | refine blk_alloc ?_ _)); exact BK510.out)) : gb510 ≠ gb511))
                        have n12_ := Aside0.mk ((by rw [hg]; exact Nat.ne_of_gt (blk_lt (g := gb510) (o := .cells #[.int .i64 0, .int .i64 0, .int .i64 0] 23 (0, 0)) (by (with_reducible repeat (first | refine blk_drewN ?_ _ | refine blk_drew ?_ | refine blk_alloc ?_ _)); exact BK510.out)) : gb511 ≠ gb510))
                        clear BK502
                        clear BK503
                        clear BK510
                        clear HB
                        have BK502 := n0_
                        have BK503 := n1_
                        have BK510 := n2_
                        have HB := n3_
                        have BK511 := n4_
                        have GW511 := n5_
                        have GE511 := n6_
                        have NB502_511 := n7_
                        have NB511_502 := n8_
                        have NB503_511 := n9_
                        have NB511_503 := n10_
                        have NB510_511 := n11_
                        have NB511_510 := n12_
                        clear n0_ n1_ n2_ n3_ n4_ n5_ n6_ n7_ n8_ n9_ n10_ n11_ n12_
                        clear hb hbox hg
                        refine hK.out _ _ ⟨(blk_cell BK502.out 0).trans rfl, (blk_cell BK502.out 1).trans rfl, (blk_cell BK502.out 2).trans rfl, (blk_cell BK503.out 0).trans rfl, (blk_cell BK503.out 1).trans rfl, (blk_cell BK503.out 2).trans rfl⟩ (fun hHeld => ?_)
                        clear hK K
                        refine norm_ (a' := ?_) ?_ ?_
                        rotate_left
                        · show Act.put _ (some 6) _ = _
                          simp only [Act.put, List.setIfInBounds_toArray, List.set_cons_zero, List.set_cons_succ, i64_w, i32_w]
                          rfl
                        exact norm_ (by first | (simp only [putAll, Act.put, List.setIfInBounds_toArray, List.set_cons_zero, List.set_cons_succ]; done) | (simp only [putAll, Act.put, List.setIfInBounds_toArray, List.set_cons_zero, List.set_cons_succ]; rfl)) (hJ16_17 (gb510, gb511) _ ⟨hHeld, (by (with_reducible repeat (first | refine blk_drewN ?_ _ | refine blk_drew ?_ | refine blk_alloc ?_ _)); exact BK502.out), (by (with_reducible repeat (first | refine blk_drewN ?_ _ | refine blk_drew ?_ | refine blk_alloc ?_ _)); exact BK503.out), (by (with_reducible repeat (first | refine blk_drewN ?_ _ | refine blk_drew ?_ | refine blk_alloc ?_ _)); exact BK510.out), (by (with_reducible repeat (first | refine blk_drewN ?_ _ | refine blk_drew ?_ | refine blk_alloc ?_ _)); exact BK511.out), GW510.out, GE510.out, NB502_510.out, NB510_502.out, NB503_510.out, NB510_503.out, NB511_510.out, NB510_511.out, GW511.out, GE511.out, NB502_511.out, NB511_502.out, NB503_511.out, NB511_503.out, (by repeat (first | (with_reducible first | exact HB.out | apply below_alloc | apply pw_below_drewN | apply below_drew1 | refine below_set ?_ GE502.out | refine below_set ?_ GE503.out | refine below_set ?_ GE510.out | refine below_set ?_ GE511.out) | exact HB.out))⟩)
                  · skip
                    rintro _ w12 ⟨hS_, h0_, h1_, h2_⟩
                    have n0_ : Aside0 (w12.heap[gb502]? = some (.cells #[.int .i64 a0_0, .int .i64 a0_1, .int .i64 a0_2] 23 (0, 0))) := ⟨h0_⟩
                    have n1_ : Aside0 (w12.heap[gb503]? = some (.cells #[.int .i64 a1_0, .int .i64 a1_1, .int .i64 a1_2] 23 (0, 0))) := ⟨h1_⟩
                    have n2_ : Aside0 (Below w.heap.size w w12) := ⟨h2_⟩
                    clear BK502
                    clear BK503
                    clear HB
                    clear h0_ h1_ h2_
                    have BK502 := n0_
                    have BK503 := n1_
                    have HB := n2_
                    clear n0_ n1_ n2_
                    have hHeld : w12.cell? ⟨gb502, 0, none⟩ = some (.int .i64 a0_0) ∧ w12.cell? ⟨gb502, 1, none⟩ = some (.int .i64 a0_1) ∧ w12.cell? ⟨gb502, 2, none⟩ = some (.int .i64 a0_2) ∧ w12.cell? ⟨gb503, 0, none⟩ = some (.int .i64 a1_0) ∧ w12.cell? ⟨gb503, 1, none⟩ = some (.int .i64 a1_1) ∧ w12.cell? ⟨gb503, 2, none⟩ = some (.int .i64 a1_2) := hS_
                    refine norm_ (a' := ?_) ?_ ?_
                    rotate_left
                    · simp only [putAll, Act.put, List.setIfInBounds_toArray, List.set_cons_zero, List.set_cons_succ]
                      rfl
                    refine three_ (i := 15) (j := 16) (k := 17) (Ni := some 27) (Nj := some 5) (Nk := some 6) (fl 16 20 []) (fl 15 20 [16]) (fl 15 20 [17]) rfl rfl rfl rfl rfl rfl (three_of HT_.out (by kernel_rfl)) (by decide) (by decide) (by decide) (fun K hK => ?_) (fun K hK => ?_) (fun K hK => ?_)
                    · skip
                      refine goes_ Try.func12 (by kernel_rfl) rfl #[.agg #[.int .i64 a1_0, .int .i64 a1_1, .int .i64 a1_2], .int .i64 9999] (by rfl) rfl rfl (by (try simp only [List.map_toArray, List.map_cons, List.map_nil]); first | done | rfl | (simp only [List.length_drop, List.length_take]; rfl)) ?_
                      with_reducible refine (chattelref09_Make.calls k a1_0 a1_1 a1_2 9999 t507 t508 t509 _ A4.out).mono ?_
                      rintro e w13 ⟨rfl, hb⟩
                      refine ⟨_, rfl, ?_⟩
                      replace BK502 := Aside0.mk (bb BK502.out hb)
                      replace BK503 := Aside0.mk (bb BK503.out hb)
                      replace HB := Aside0.mk (bs HB.out hb)
                      (try clear hb)
                      (try clear hb2)
                      (try clear hk)
                      (try clear hi)
                      refine hK.out _ _ ⟨(blk_cell BK502.out 0).trans rfl, (blk_cell BK502.out 1).trans rfl, (blk_cell BK502.out 2).trans rfl, (blk_cell BK503.out 0).trans rfl, (blk_cell BK503.out 1).trans rfl, (blk_cell BK503.out 2).trans rfl⟩ (fun hHeld => ?_)
                      clear hK K
                      refine norm_ (a' := ?_) ?_ ?_
                      rotate_left
                      · show Act.put _ (some 27) _ = _
                        simp only [Act.put, List.setIfInBounds_toArray, List.set_cons_zero, List.set_cons_succ, i64_w, i32_w]
                        rfl
                      exact norm_ (by first | (simp only [putAll, Act.put, List.setIfInBounds_toArray, List.set_cons_zero, List.set_cons_succ]; done) | (simp only [putAll, Act.put, List.setIfInBounds_toArray, List.set_cons_zero, List.set_cons_succ]; rfl)) (hJ7_15 () _ ⟨hHeld, (by (with_reducible repeat (first | refine blk_drewN ?_ _ | refine blk_drew ?_ | refine blk_alloc ?_ _)); exact BK502.out), (by (with_reducible repeat (first | refine blk_drewN ?_ _ | refine blk_drew ?_ | refine blk_alloc ?_ _)); exact BK503.out), (by repeat (first | (with_reducible first | exact HB.out | apply below_alloc | apply pw_below_drewN | apply below_drew1 | refine below_set ?_ GE502.out | refine below_set ?_ GE503.out) | exact HB.out))⟩)
                    · skip
                      refine box_step ?hg (N := 5) ?hd (cs := #[.int .i64 0, .int .i64 0, .int .i64 0]) (t := 23) ?hr ?_; (case hd => rfl); (case hg => rfl); (case hr => first | (go_simp; done) | (go_simp; rfl))
                      intro gb510 hg w13 hbox hb
                      have n0_ := Aside0.mk (bb BK502.out hb)
                      have n1_ := Aside0.mk (bb BK503.out hb)
                      have n2_ := Aside0.mk (bs HB.out hb)
                      have n3_ := Aside0.mk (hbox)
                      have n4_ := Aside0.mk ((by rw [hg]; exact (bz HB.out) : w.heap.size ≤ gb510))
                      have n5_ := Aside0.mk ((by rw [hg]; exact (bz HB.out) : w.heap.size ≤ gb510))
                      have n6_ := Aside0.mk ((by rw [hg]; exact Nat.ne_of_lt (blk_lt (g := gb502) (o := .cells #[.int .i64 a0_0, .int .i64 a0_1, .int .i64 a0_2] 23 (0, 0)) (by (with_reducible repeat (first | refine blk_drewN ?_ _ | refine blk_drew ?_ | refine blk_alloc ?_ _)); exact BK502.out)) : gb502 ≠ gb510))
                      have n7_ := Aside0.mk ((by rw [hg]; exact Nat.ne_of_gt (blk_lt (g := gb502) (o := .cells #[.int .i64 a0_0, .int .i64 a0_1, .int .i64 a0_2] 23 (0, 0)) (by (with_reducible repeat (first | refine blk_drewN ?_ _ | refine blk_drew ?_ | refine blk_alloc ?_ _)); exact BK502.out)) : gb510 ≠ gb502))
                      have n8_ := Aside0.mk ((by rw [hg]; exact Nat.ne_of_lt (blk_lt (g := gb503) (o := .cells #[.int .i64 a1_0, .int .i64 a1_1, .int .i64 a1_2] 23 (0, 0)) (by (with_reducible repeat (first | refine blk_drewN ?_ _ | refine blk_drew ?_ | refine blk_alloc ?_ _)); exact BK503.out)) : gb503 ≠ gb510))
                      have n9_ := Aside0.mk ((by rw [hg]; exact Nat.ne_of_gt (blk_lt (g := gb503) (o := .cells #[.int .i64 a1_0, .int .i64 a1_1, .int .i64 a1_2] 23 (0, 0)) (by (with_reducible repeat (first | refine blk_drewN ?_ _ | refine blk_drew ?_ | refine blk_alloc ?_ _)); exact BK503.out)) : gb510 ≠ gb503))
                      clear BK502
                      clear BK503
                      clear HB
                      have BK502 := n0_
                      have BK503 := n1_
                      have HB := n2_
                      have BK510 := n3_
                      have GW510 := n4_
                      have GE510 := n5_
                      have NB502_510 := n6_
                      have NB510_502 := n7_
                      have NB503_510 := n8_
                      have NB510_503 := n9_
                      clear n0_ n1_ n2_ n3_ n4_ n5_ n6_ n7_ n8_ n9_
                      clear hb hbox hg
                      refine hK.out _ _ ⟨(blk_cell BK502.out 0).trans rfl, (blk_cell BK502.out 1).trans rfl, (blk_cell BK502.out 2).trans rfl, (blk_cell BK503.out 0).trans rfl, (blk_cell BK503.out 1).trans rfl, (blk_cell BK503.out 2).trans rfl⟩ (fun hHeld => ?_)
                      clear hK K
                      refine norm_ (a' := ?_) ?_ ?_
                      rotate_left
                      · show Act.put _ (some 5) _ = _
                        simp only [Act.put, List.setIfInBounds_toArray, List.set_cons_zero, List.set_cons_succ, i64_w, i32_w]
                        rfl
                      exact norm_ (by first | (simp only [putAll, Act.put, List.setIfInBounds_toArray, List.set_cons_zero, List.set_cons_succ]; done) | (simp only [putAll, Act.put, List.setIfInBounds_toArray, List.set_cons_zero, List.set_cons_succ]; rfl)) (hJ7_16 (gb510) _ ⟨hHeld, (by (with_reducible repeat (first | refine blk_drewN ?_ _ | refine blk_drew ?_ | refine blk_alloc ?_ _)); exact BK502.out), (by (with_reducible repeat (first | refine blk_drewN ?_ _ | refine blk_drew ?_ | refine blk_alloc ?_ _)); exact BK503.out), (by (with_reducible repeat (first | refine blk_drewN ?_ _ | refine blk_drew ?_ | refine blk_alloc ?_ _)); exact BK510.out), GW510.out, GE510.out, NB502_510.out, NB510_502.out, NB503_510.out, NB510_503.out, (by repeat (first | (with_reducible first | exact HB.out | apply below_alloc | apply pw_below_drewN | apply below_drew1 | refine below_set ?_ GE502.out | refine below_set ?_ GE503.out | refine below_set ?_ GE510.out) | exact HB.out))⟩)
                    · skip
                      refine box_step ?hg (N := 6) ?hd (cs := #[.int .i64 0, .int .i64 0, .int .i64 0]) (t := 23) ?hr ?_; (case hd => rfl); (case hg => rfl); (case hr => first | (go_simp; done) | (go_simp; rfl))
                      intro gb511 hg w13 hbox hb
                      have n0_ := Aside0.mk (bb BK502.out hb)
                      have n1_ := Aside0.mk (bb BK503.out hb)
                      have n2_ := Aside0.mk (bs HB.out hb)
                      have n3_ := Aside0.mk (hbox)
                      have n4_ := Aside0.mk ((by rw [hg]; exact (bz HB.out) : w.heap.size ≤ gb511))
                      have n5_ := Aside0.mk ((by rw [hg]; exact (bz HB.out) : w.heap.size ≤ gb511))
                      have n6_ := Aside0.mk ((by rw [hg]; exact Nat.ne_of_lt (blk_lt (g := gb502) (o := .cells #[.int .i64 a0_0, .int .i64 a0_1, .int .i64 a0_2] 23 (0, 0)) (by (with_reducible repeat (first | refine blk_drewN ?_ _ | refine blk_drew ?_ | refine blk_alloc ?_ _)); exact BK502.out)) : gb502 ≠ gb511))
                      have n7_ := Aside0.mk ((by rw [hg]; exact Nat.ne_of_gt (blk_lt (g := gb502) (o := .cells #[.int .i64 a0_0, .int .i64 a0_1, .int .i64 a0_2] 23 (0, 0)) (by (with_reducible repeat (first | refine blk_drewN ?_ _ | refine blk_drew ?_ | refine blk_alloc ?_ _)); exact BK502.out)) : gb511 ≠ gb502))
                      have n8_ := Aside0.mk ((by rw [hg]; exact Nat.ne_of_lt (blk_lt (g := gb503) (o := .cells #[.int .i64 a1_0, .int .i64 a1_1, .int .i64 a1_2] 23 (0, 0)) (by (with_reducible repeat (first | refine blk_drewN ?_ _ | refine blk_drew ?_ | refine blk_alloc ?_ _)); exact BK503.out)) : gb503 ≠ gb511))
                      have n9_ := Aside0.mk ((by rw [hg]; exact Nat.ne_of_gt (blk_lt (g := gb503) (o := .cells #[.int .i64 a1_0, .int .i64 a1_1, .int .i64 a1_2] 23 (0, 0)) (by (with_reducible repeat (first | refine blk_drewN ?_ _ | refine blk_drew ?_ | refine blk_alloc ?_ _)); exact BK503.out)) : gb511 ≠ gb503))
                      clear BK502
                      clear BK503
                      clear HB
                      have BK502 := n0_
                      have BK503 := n1_
                      have HB := n2_
                      have BK511 := n3_
                      have GW511 := n4_
                      have GE511 := n5_
                      have NB502_511 := n6_
                      have NB511_502 := n7_
                      have NB503_511 := n8_
                      have NB511_503 := n9_
                      clear n0_ n1_ n2_ n3_ n4_ n5_ n6_ n7_ n8_ n9_
                      clear hb hbox hg
                      refine hK.out _ _ ⟨(blk_cell BK502.out 0).trans rfl, (blk_cell BK502.out 1).trans rfl, (blk_cell BK502.out 2).trans rfl, (blk_cell BK503.out 0).trans rfl, (blk_cell BK503.out 1).trans rfl, (blk_cell BK503.out 2).trans rfl⟩ (fun hHeld => ?_)
                      clear hK K
                      refine norm_ (a' := ?_) ?_ ?_
                      rotate_left
                      · show Act.put _ (some 6) _ = _
                        simp only [Act.put, List.setIfInBounds_toArray, List.set_cons_zero, List.set_cons_succ, i64_w, i32_w]
                        rfl
                      exact norm_ (by first | (simp only [putAll, Act.put, List.setIfInBounds_toArray, List.set_cons_zero, List.set_cons_succ]; done) | (simp only [putAll, Act.put, List.setIfInBounds_toArray, List.set_cons_zero, List.set_cons_succ]; rfl)) (hJ7_17 (gb511) _ ⟨hHeld, (by (with_reducible repeat (first | refine blk_drewN ?_ _ | refine blk_drew ?_ | refine blk_alloc ?_ _)); exact BK502.out), (by (with_reducible repeat (first | refine blk_drewN ?_ _ | refine blk_drew ?_ | refine blk_alloc ?_ _)); exact BK503.out), (by (with_reducible repeat (first | refine blk_drewN ?_ _ | refine blk_drew ?_ | refine blk_alloc ?_ _)); exact BK511.out), GW511.out, GE511.out, NB502_511.out, NB511_502.out, NB503_511.out, NB511_503.out, (by repeat (first | (with_reducible first | exact HB.out | apply below_alloc | apply pw_below_drewN | apply below_drew1 | refine below_set ?_ GE502.out | refine below_set ?_ GE503.out | refine below_set ?_ GE511.out) | exact HB.out))⟩)
                · skip
                  rintro ⟨gb510, gb511⟩ w13 ⟨hS_, h0_, h1_, h2_, h3_, h4_, h5_, h6_, h7_, h8_, h9_, h10_, h11_, h12_, h13_, h14_, h15_, h16_, h17_, h18_⟩
                  have n0_ : Aside0 (w13.heap[gb502]? = some (.cells #[.int .i64 a0_0, .int .i64 a0_1, .int .i64 a0_2] 23 (0, 0))) := ⟨h0_⟩
                  have n1_ : Aside0 (w13.heap[gb503]? = some (.cells #[.int .i64 a1_0, .int .i64 a1_1, .int .i64 a1_2] 23 (0, 0))) := ⟨h1_⟩
                  have n2_ : Aside0 (w13.heap[gb510]? = some (.cells #[.int .i64 0, .int .i64 0, .int .i64 0] 23 (0, 0))) := ⟨h2_⟩
                  have n3_ : Aside0 (w13.heap[gb511]? = some (.cells #[.int .i64 0, .int .i64 0, .int .i64 0] 23 (0, 0))) := ⟨h3_⟩
                  have n4_ : Aside0 (w.heap.size ≤ gb510) := ⟨h4_⟩
                  have n5_ : Aside0 (w.heap.size ≤ gb510) := ⟨h5_⟩
                  have n6_ : Aside0 (gb502 ≠ gb510) := ⟨h6_⟩
                  have n7_ : Aside0 (gb510 ≠ gb502) := ⟨h7_⟩
                  have n8_ : Aside0 (gb503 ≠ gb510) := ⟨h8_⟩
                  have n9_ : Aside0 (gb510 ≠ gb503) := ⟨h9_⟩
                  have n10_ : Aside0 (gb511 ≠ gb510) := ⟨h10_⟩
                  have n11_ : Aside0 (gb510 ≠ gb511) := ⟨h11_⟩
                  have n12_ : Aside0 (w.heap.size ≤ gb511) := ⟨h12_⟩
                  have n13_ : Aside0 (w.heap.size ≤ gb511) := ⟨h13_⟩
                  have n14_ : Aside0 (gb502 ≠ gb511) := ⟨h14_⟩
                  have n15_ : Aside0 (gb511 ≠ gb502) := ⟨h15_⟩
                  have n16_ : Aside0 (gb503 ≠ gb511) := ⟨h16_⟩
                  have n17_ : Aside0 (gb511 ≠ gb503) := ⟨h17_⟩
                  have n18_ : Aside0 (Below w.heap.size w w13) := ⟨h18_⟩
                  clear BK502
                  clear BK503
                  clear HB
                  clear h0_ h1_ h2_ h3_ h4_ h5_ h6_ h7_ h8_ h9_ h10_ h11_ h12_ h13_ h14_ h15_ h16_ h17_ h18_
                  have BK502 := n0_
                  have BK503 := n1_
                  have BK510 := n2_
                  have BK511 := n3_
                  have GW510 := n4_
                  have GE510 := n5_
                  have NB502_510 := n6_
                  have NB510_502 := n7_
                  have NB503_510 := n8_
                  have NB510_503 := n9_
                  have NB511_510 := n10_
                  have NB510_511 := n11_
                  have GW511 := n12_
                  have GE511 := n13_
                  have NB502_511 := n14_
                  have NB511_502 := n15_
                  have NB503_511 := n16_
                  have NB511_503 := n17_
                  have HB := n18_
                  clear n0_ n1_ n2_ n3_ n4_ n5_ n6_ n7_ n8_ n9_ n10_ n11_ n12_ n13_ n14_ n15_ n16_ n17_ n18_
                  have hHeld : w13.cell? ⟨gb502, 0, none⟩ = some (.int .i64 a0_0) ∧ w13.cell? ⟨gb502, 1, none⟩ = some (.int .i64 a0_1) ∧ w13.cell? ⟨gb502, 2, none⟩ = some (.int .i64 a0_2) ∧ w13.cell? ⟨gb503, 0, none⟩ = some (.int .i64 a1_0) ∧ w13.cell? ⟨gb503, 1, none⟩ = some (.int .i64 a1_1) ∧ w13.cell? ⟨gb503, 2, none⟩ = some (.int .i64 a1_2) := hS_
                  refine norm_ (a' := ?_) ?_ ?_
                  rotate_left
                  · simp only [putAll, Act.put, List.setIfInBounds_toArray, List.set_cons_zero, List.set_cons_succ]
                    rfl
                  refine one_ (i := 7) (N := some 19) (fl 15 20 [16, 17]) rfl rfl (one_of HT_.out (by kernel_rfl)) (by decide) (fun K hK => ?_)
                  refine goes_ Try.func12 (by kernel_rfl) rfl #[.agg #[.int .i64 a0_0, .int .i64 a0_1, .int .i64 a0_2], .int .i64 9999] (by rfl) rfl rfl (by (try simp only [List.map_toArray, List.map_cons, List.map_nil]); first | done | rfl | (simp only [List.length_drop, List.length_take]; rfl)) ?_
                  with_reducible refine (chattelref09_Make.calls k a0_0 a0_1 a0_2 9999 t504 t505 t506 _ A3.out).mono ?_
                  rintro e w14 ⟨rfl, hb⟩
                  refine ⟨_, rfl, ?_⟩
                  replace BK502 := Aside0.mk (bb BK502.out hb)
                  replace BK503 := Aside0.mk (bb BK503.out hb)
                  replace BK510 := Aside0.mk (bb BK510.out hb)
                  replace BK511 := Aside0.mk (bb BK511.out hb)
                  replace HB := Aside0.mk (bs HB.out hb)
                  (try clear hb)
                  (try clear hb2)
                  (try clear hk)
                  (try clear hi)
                  refine hK.out _ _ ⟨(blk_cell BK502.out 0).trans rfl, (blk_cell BK502.out 1).trans rfl, (blk_cell BK502.out 2).trans rfl, (blk_cell BK503.out 0).trans rfl, (blk_cell BK503.out 1).trans rfl, (blk_cell BK503.out 2).trans rfl⟩ (fun hHeld => ?_)
                  clear hK K
                  refine norm_ (a' := ?_) ?_ ?_
                  rotate_left
                  · show Act.put _ (some 19) _ = _
                    simp only [Act.put, List.setIfInBounds_toArray, List.set_cons_zero, List.set_cons_succ, i64_w, i32_w]
                    rfl
                  exact norm_ (by first | (simp only [putAll, Act.put, List.setIfInBounds_toArray, List.set_cons_zero, List.set_cons_succ]; done) | (simp only [putAll, Act.put, List.setIfInBounds_toArray, List.set_cons_zero, List.set_cons_succ]; rfl)) (hJ7_16_17 (gb510, gb511) _ ⟨hHeld, (by (with_reducible repeat (first | refine blk_drewN ?_ _ | refine blk_drew ?_ | refine blk_alloc ?_ _)); exact BK502.out), (by (with_reducible repeat (first | refine blk_drewN ?_ _ | refine blk_drew ?_ | refine blk_alloc ?_ _)); exact BK503.out), (by (with_reducible repeat (first | refine blk_drewN ?_ _ | refine blk_drew ?_ | refine blk_alloc ?_ _)); exact BK510.out), (by (with_reducible repeat (first | refine blk_drewN ?_ _ | refine blk_drew ?_ | refine blk_alloc ?_ _)); exact BK511.out), GW510.out, GE510.out, NB502_510.out, NB510_502.out, NB503_510.out, NB510_503.out, NB511_510.out, NB510_511.out, GW511.out, GE511.out, NB502_511.out, NB511_502.out, NB503_511.out, NB511_503.out, (by repeat (first | (with_reducible first | exact HB.out | apply below_alloc | apply pw_below_drewN | apply below_drew1 | refine below_set ?_ GE502.out | refine below_set ?_ GE503.out | refine below_set ?_ GE510.out | refine below_set ?_ GE511.out) | exact HB.out))⟩)
              · skip
                rintro gb511 w13 ⟨hS_, h0_, h1_, h2_, h3_, h4_, h5_, h6_, h7_, h8_, h9_⟩
                have n0_ : Aside0 (w13.heap[gb502]? = some (.cells #[.int .i64 a0_0, .int .i64 a0_1, .int .i64 a0_2] 23 (0, 0))) := ⟨h0_⟩
                have n1_ : Aside0 (w13.heap[gb503]? = some (.cells #[.int .i64 a1_0, .int .i64 a1_1, .int .i64 a1_2] 23 (0, 0))) := ⟨h1_⟩
                have n2_ : Aside0 (w13.heap[gb511]? = some (.cells #[.int .i64 0, .int .i64 0, .int .i64 0] 23 (0, 0))) := ⟨h2_⟩
                have n3_ : Aside0 (w.heap.size ≤ gb511) := ⟨h3_⟩
                have n4_ : Aside0 (w.heap.size ≤ gb511) := ⟨h4_⟩
                have n5_ : Aside0 (gb502 ≠ gb511) := ⟨h5_⟩
                have n6_ : Aside0 (gb511 ≠ gb502) := ⟨h6_⟩
                have n7_ : Aside0 (gb503 ≠ gb511) := ⟨h7_⟩
                have n8_ : Aside0 (gb511 ≠ gb503) := ⟨h8_⟩
                have n9_ : Aside0 (Below w.heap.size w w13) := ⟨h9_⟩
                clear BK502
                clear BK503
                clear HB
                clear h0_ h1_ h2_ h3_ h4_ h5_ h6_ h7_ h8_ h9_
                have BK502 := n0_
                have BK503 := n1_
                have BK511 := n2_
                have GW511 := n3_
                have GE511 := n4_
                have NB502_511 := n5_
                have NB511_502 := n6_
                have NB503_511 := n7_
                have NB511_503 := n8_
                have HB := n9_
                clear n0_ n1_ n2_ n3_ n4_ n5_ n6_ n7_ n8_ n9_
                have hHeld : w13.cell? ⟨gb502, 0, none⟩ = some (.int .i64 a0_0) ∧ w13.cell? ⟨gb502, 1, none⟩ = some (.int .i64 a0_1) ∧ w13.cell? ⟨gb502, 2, none⟩ = some (.int .i64 a0_2) ∧ w13.cell? ⟨gb503, 0, none⟩ = some (.int .i64 a1_0) ∧ w13.cell? ⟨gb503, 1, none⟩ = some (.int .i64 a1_1) ∧ w13.cell? ⟨gb503, 2, none⟩ = some (.int .i64 a1_2) := hS_
                refine norm_ (a' := ?_) ?_ ?_
                rotate_left
                · simp only [putAll, Act.put, List.setIfInBounds_toArray, List.set_cons_zero, List.set_cons_succ]
                  rfl
                refine two_ (i := 15) (j := 16) (Ni := some 27) (Nj := some 5) (fl 16 20 [17]) (fl 15 20 [16, 17]) rfl rfl rfl rfl (two_of HT_.out (by kernel_rfl)) (by decide) (by decide) (fun K hK => ?_) (fun K hK => ?_)
                · skip
                  refine goes_ Try.func12 (by kernel_rfl) rfl #[.agg #[.int .i64 a1_0, .int .i64 a1_1, .int .i64 a1_2], .int .i64 9999] (by rfl) rfl rfl (by (try simp only [List.map_toArray, List.map_cons, List.map_nil]); first | done | rfl | (simp only [List.length_drop, List.length_take]; rfl)) ?_
                  with_reducible refine (chattelref09_Make.calls k a1_0 a1_1 a1_2 9999 t507 t508 t509 _ A4.out).mono ?_
                  rintro e w14 ⟨rfl, hb⟩
                  refine ⟨_, rfl, ?_⟩
                  replace BK502 := Aside0.mk (bb BK502.out hb)
                  replace BK503 := Aside0.mk (bb BK503.out hb)
                  replace BK511 := Aside0.mk (bb BK511.out hb)
                  replace HB := Aside0.mk (bs HB.out hb)
                  (try clear hb)
                  (try clear hb2)
                  (try clear hk)
                  (try clear hi)
                  refine hK.out _ _ ⟨(blk_cell BK502.out 0).trans rfl, (blk_cell BK502.out 1).trans rfl, (blk_cell BK502.out 2).trans rfl, (blk_cell BK503.out 0).trans rfl, (blk_cell BK503.out 1).trans rfl, (blk_cell BK503.out 2).trans rfl⟩ (fun hHeld => ?_)
                  clear hK K
                  refine norm_ (a' := ?_) ?_ ?_
                  rotate_left
                  · show Act.put _ (some 27) _ = _
                    simp only [Act.put, List.setIfInBounds_toArray, List.set_cons_zero, List.set_cons_succ, i64_w, i32_w]
                    rfl
                  exact norm_ (by first | (simp only [putAll, Act.put, List.setIfInBounds_toArray, List.set_cons_zero, List.set_cons_succ]; done) | (simp only [putAll, Act.put, List.setIfInBounds_toArray, List.set_cons_zero, List.set_cons_succ]; rfl)) (hJ7_15_17 (gb511) _ ⟨hHeld, (by (with_reducible repeat (first | refine blk_drewN ?_ _ | refine blk_drew ?_ | refine blk_alloc ?_ _)); exact BK502.out), (by (with_reducible repeat (first | refine blk_drewN ?_ _ | refine blk_drew ?_ | refine blk_alloc ?_ _)); exact BK503.out), (by (with_reducible repeat (first | refine blk_drewN ?_ _ | refine blk_drew ?_ | refine blk_alloc ?_ _)); exact BK511.out), GW511.out, GE511.out, NB502_511.out, NB511_502.out, NB503_511.out, NB511_503.out, (by repeat (first | (with_reducible first | exact HB.out | apply below_alloc | apply pw_below_drewN | apply below_drew1 | refine below_set ?_ GE502.out | refine below_set ?_ GE503.out | refine below_set ?_ GE511.out) | exact HB.out))⟩)
                · skip
                  refine box_step ?hg (N := 5) ?hd (cs := #[.int .i64 0, .int .i64 0, .int .i64 0]) (t := 23) ?hr ?_; (case hd => rfl); (case hg => rfl); (case hr => first | (go_simp; done) | (go_simp; rfl))
                  intro gb510 hg w14 hbox hb
                  have n0_ := Aside0.mk (bb BK502.out hb)
                  have n1_ := Aside0.mk (bb BK503.out hb)
                  have n2_ := Aside0.mk (bb BK511.out hb)
                  have n3_ := Aside0.mk (bs HB.out hb)
                  have n4_ := Aside0.mk (hbox)
                  have n5_ := Aside0.mk ((by rw [hg]; exact (bz HB.out) : w.heap.size ≤ gb510))
                  have n6_ := Aside0.mk ((by rw [hg]; exact (bz HB.out) : w.heap.size ≤ gb510))
                  have n7_ := Aside0.mk ((by rw [hg]; exact Nat.ne_of_lt (blk_lt (g := gb502) (o := .cells #[.int .i64 a0_0, .int .i64 a0_1, .int .i64 a0_2] 23 (0, 0)) (by (with_reducible repeat (first | refine blk_drewN ?_ _ | refine blk_drew ?_ | refine blk_alloc ?_ _)); exact BK502.out)) : gb502 ≠ gb510))
                  have n8_ := Aside0.mk ((by rw [hg]; exact Nat.ne_of_gt (blk_lt (g := gb502) (o := .cells #[.int .i64 a0_0, .int .i64 a0_1, .int .i64 a0_2] 23 (0, 0)) (by (with_reducible repeat (first | refine blk_drewN ?_ _ | refine blk_drew ?_ | refine blk_alloc ?_ _)); exact BK502.out)) : gb510 ≠ gb502))
                  have n9_ := Aside0.mk ((by rw [hg]; exact Nat.ne_of_lt (blk_lt (g := gb503) (o := .cells #[.int .i64 a1_0, .int .i64 a1_1, .int .i64 a1_2] 23 (0, 0)) (by (with_reducible repeat (first | refine blk_drewN ?_ _ | refine blk_drew ?_ | refine blk_alloc ?_ _)); exact BK503.out)) : gb503 ≠ gb510))
                  have n10_ := Aside0.mk ((by rw [hg]; exact Nat.ne_of_gt (blk_lt (g := gb503) (o := .cells #[.int .i64 a1_0, .int .i64 a1_1, .int .i64 a1_2] 23 (0, 0)) (by (with_reducible repeat (first | refine blk_drewN ?_ _ | refine blk_drew ?_ | refine blk_alloc ?_ _)); exact BK503.out)) : gb510 ≠ gb503))
                  have n11_ := Aside0.mk ((by rw [hg]; exact Nat.ne_of_lt (blk_lt (g := gb511) (o := .cells #[.int .i64 0, .int .i64 0, .int .i64 0] 23 (0, 0)) (by (with_reducible repeat (first | refine blk_drewN ?_ _ | refine blk_drew ?_ | refine blk_alloc ?_ _)); exact BK511.out)) : gb511 ≠ gb510))
                  have n12_ := Aside0.mk ((by rw [hg]; exact Nat.ne_of_gt (blk_lt (g := gb511) (o := .cells #[.int .i64 0, .int .i64 0, .int .i64 0] 23 (0, 0)) (by (with_reducible repeat (first | refine blk_drewN ?_ _ | refine blk_drew ?_ | refine blk_alloc ?_ _)); exact BK511.out)) : gb510 ≠ gb511))
                  clear BK502
                  clear BK503
                  clear BK511
                  clear HB
                  have BK502 := n0_
                  have BK503 := n1_
                  have BK511 := n2_
                  have HB := n3_
                  have BK510 := n4_
                  have GW510 := n5_
                  have GE510 := n6_
                  have NB502_510 := n7_
                  have NB510_502 := n8_
                  have NB503_510 := n9_
                  have NB510_503 := n10_
                  have NB511_510 := n11_
                  have NB510_511 := n12_
                  clear n0_ n1_ n2_ n3_ n4_ n5_ n6_ n7_ n8_ n9_ n10_ n11_ n12_
                  clear hb hbox hg
                  refine hK.out _ _ ⟨(blk_cell BK502.out 0).trans rfl, (blk_cell BK502.out 1).trans rfl, (blk_cell BK502.out 2).trans rfl, (blk_cell BK503.out 0).trans rfl, (blk_cell BK503.out 1).trans rfl, (blk_cell BK503.out 2).trans rfl⟩ (fun hHeld => ?_)
                  clear hK K
                  refine norm_ (a' := ?_) ?_ ?_
                  rotate_left
                  · show Act.put _ (some 5) _ = _
                    simp only [Act.put, List.setIfInBounds_toArray, List.set_cons_zero, List.set_cons_succ, i64_w, i32_w]
                    rfl
                  exact norm_ (by first | (simp only [putAll, Act.put, List.setIfInBounds_toArray, List.set_cons_zero, List.set_cons_succ]; done) | (simp only [putAll, Act.put, List.setIfInBounds_toArray, List.set_cons_zero, List.set_cons_succ]; rfl)) (hJ7_16_17 (gb510, gb511) _ ⟨hHeld, (by (with_reducible repeat (first | refine blk_drewN ?_ _ | refine blk_drew ?_ | refine blk_alloc ?_ _)); exact BK502.out), (by (with_reducible repeat (first | refine blk_drewN ?_ _ | refine blk_drew ?_ | refine blk_alloc ?_ _)); exact BK503.out), (by (with_reducible repeat (first | refine blk_drewN ?_ _ | refine blk_drew ?_ | refine blk_alloc ?_ _)); exact BK510.out), (by (with_reducible repeat (first | refine blk_drewN ?_ _ | refine blk_drew ?_ | refine blk_alloc ?_ _)); exact BK511.out), GW510.out, GE510.out, NB502_510.out, NB510_502.out, NB503_510.out, NB510_503.out, NB511_510.out, NB510_511.out, GW511.out, GE511.out, NB502_511.out, NB511_502.out, NB503_511.out, NB511_503.out, (by repeat (first | (with_reducible first | exact HB.out | apply below_alloc | apply pw_below_drewN | apply below_drew1 | refine below_set ?_ GE502.out | refine below_set ?_ GE503.out | refine below_set ?_ GE511.out | refine below_set ?_ GE510.out) | exact HB.out))⟩)
            · skip
              rintro gb510 w13 ⟨hS_, h0_, h1_, h2_, h3_, h4_, h5_, h6_, h7_, h8_, h9_⟩
              have n0_ : Aside0 (w13.heap[gb502]? = some (.cells #[.int .i64 a0_0, .int .i64 a0_1, .int .i64 a0_2] 23 (0, 0))) := ⟨h0_⟩
              have n1_ : Aside0 (w13.heap[gb503]? = some (.cells #[.int .i64 a1_0, .int .i64 a1_1, .int .i64 a1_2] 23 (0, 0))) := ⟨h1_⟩
              have n2_ : Aside0 (w13.heap[gb510]? = some (.cells #[.int .i64 0, .int .i64 0, .int .i64 0] 23 (0, 0))) := ⟨h2_⟩
              have n3_ : Aside0 (w.heap.size ≤ gb510) := ⟨h3_⟩
              have n4_ : Aside0 (w.heap.size ≤ gb510) := ⟨h4_⟩
              have n5_ : Aside0 (gb502 ≠ gb510) := ⟨h5_⟩
              have n6_ : Aside0 (gb510 ≠ gb502) := ⟨h6_⟩
              have n7_ : Aside0 (gb503 ≠ gb510) := ⟨h7_⟩
              have n8_ : Aside0 (gb510 ≠ gb503) := ⟨h8_⟩
              have n9_ : Aside0 (Below w.heap.size w w13) := ⟨h9_⟩
              clear BK502
              clear BK503
              clear HB
              clear h0_ h1_ h2_ h3_ h4_ h5_ h6_ h7_ h8_ h9_
              have BK502 := n0_
              have BK503 := n1_
              have BK510 := n2_
              have GW510 := n3_
              have GE510 := n4_
              have NB502_510 := n5_
              have NB510_502 := n6_
              have NB503_510 := n7_
              have NB510_503 := n8_
              have HB := n9_
              clear n0_ n1_ n2_ n3_ n4_ n5_ n6_ n7_ n8_ n9_
              have hHeld : w13.cell? ⟨gb502, 0, none⟩ = some (.int .i64 a0_0) ∧ w13.cell? ⟨gb502, 1, none⟩ = some (.int .i64 a0_1) ∧ w13.cell? ⟨gb502, 2, none⟩ = some (.int .i64 a0_2) ∧ w13.cell? ⟨gb503, 0, none⟩ = some (.int .i64 a1_0) ∧ w13.cell? ⟨gb503, 1, none⟩ = some (.int .i64 a1_1) ∧ w13.cell? ⟨gb503, 2, none⟩ = some (.int .i64 a1_2) := hS_
              refine norm_ (a' := ?_) ?_ ?_
              rotate_left
              · simp only [putAll, Act.put, List.setIfInBounds_toArray, List.set_cons_zero, List.set_cons_succ]
                rfl
              refine two_ (i := 15) (j := 17) (Ni := some 27) (Nj := some 6) (fl 17 20 []) (fl 15 20 [16, 17]) rfl rfl rfl rfl (two_of HT_.out (by kernel_rfl)) (by decide) (by decide) (fun K hK => ?_) (fun K hK => ?_)
              · skip
                refine goes_ Try.func12 (by kernel_rfl) rfl #[.agg #[.int .i64 a1_0, .int .i64 a1_1, .int .i64 a1_2], .int .i64 9999] (by rfl) rfl rfl (by (try simp only [List.map_toArray, List.map_cons, List.map_nil]); first | done | rfl | (simp only [List.length_drop, List.length_take]; rfl)) ?_
                with_reducible refine (chattelref09_Make.calls k a1_0 a1_1 a1_2 9999 t507 t508 t509 _ A4.out).mono ?_
                rintro e w14 ⟨rfl, hb⟩
                refine ⟨_, rfl, ?_⟩
                replace BK502 := Aside0.mk (bb BK502.out hb)
                replace BK503 := Aside0.mk (bb BK503.out hb)
                replace BK510 := Aside0.mk (bb BK510.out hb)
                replace HB := Aside0.mk (bs HB.out hb)
                (try clear hb)
                (try clear hb2)
                (try clear hk)
                (try clear hi)
                refine hK.out _ _ ⟨(blk_cell BK502.out 0).trans rfl, (blk_cell BK502.out 1).trans rfl, (blk_cell BK502.out 2).trans rfl, (blk_cell BK503.out 0).trans rfl, (blk_cell BK503.out 1).trans rfl, (blk_cell BK503.out 2).trans rfl⟩ (fun hHeld => ?_)
                clear hK K
                refine norm_ (a' := ?_) ?_ ?_
                rotate_left
                · show Act.put _ (some 27) _ = _
                  simp only [Act.put, List.setIfInBounds_toArray, List.set_cons_zero, List.set_cons_succ, i64_w, i32_w]
                  rfl
                exact norm_ (by first | (simp only [putAll, Act.put, List.setIfInBounds_toArray, List.set_cons_zero, List.set_cons_succ]; done) | (simp only [putAll, Act.put, List.setIfInBounds_toArray, List.set_cons_zero, List.set_cons_succ]; rfl)) (hJ7_15_16 (gb510) _ ⟨hHeld, (by (with_reducible repeat (first | refine blk_drewN ?_ _ | refine blk_drew ?_ | refine blk_alloc ?_ _)); exact BK502.out), (by (with_reducible repeat (first | refine blk_drewN ?_ _ | refine blk_drew ?_ | refine blk_alloc ?_ _)); exact BK503.out), (by (with_reducible repeat (first | refine blk_drewN ?_ _ | refine blk_drew ?_ | refine blk_alloc ?_ _)); exact BK510.out), GW510.out, GE510.out, NB502_510.out, NB510_502.out, NB503_510.out, NB510_503.out, (by repeat (first | (with_reducible first | exact HB.out | apply below_alloc | apply pw_below_drewN | apply below_drew1 | refine below_set ?_ GE502.out | refine below_set ?_ GE503.out | refine below_set ?_ GE510.out) | exact HB.out))⟩)
              · skip
                refine box_step ?hg (N := 6) ?hd (cs := #[.int .i64 0, .int .i64 0, .int .i64 0]) (t := 23) ?hr ?_; (case hd => rfl); (case hg => rfl); (case hr => first | (go_simp; done) | (go_simp; rfl))
                intro gb511 hg w14 hbox hb
                have n0_ := Aside0.mk (bb BK502.out hb)
                have n1_ := Aside0.mk (bb BK503.out hb)
                have n2_ := Aside0.mk (bb BK510.out hb)
                have n3_ := Aside0.mk (bs HB.out hb)
                have n4_ := Aside0.mk (hbox)
                have n5_ := Aside0.mk ((by rw [hg]; exact (bz HB.out) : w.heap.size ≤ gb511))
                have n6_ := Aside0.mk ((by rw [hg]; exact (bz HB.out) : w.heap.size ≤ gb511))
                have n7_ := Aside0.mk ((by rw [hg]; exact Nat.ne_of_lt (blk_lt (g := gb502) (o := .cells #[.int .i64 a0_0, .int .i64 a0_1, .int .i64 a0_2] 23 (0, 0)) (by (with_reducible repeat (first | refine blk_drewN ?_ _ | refine blk_drew ?_ | refine blk_alloc ?_ _)); exact BK502.out)) : gb502 ≠ gb511))
                have n8_ := Aside0.mk ((by rw [hg]; exact Nat.ne_of_gt (blk_lt (g := gb502) (o := .cells #[.int .i64 a0_0, .int .i64 a0_1, .int .i64 a0_2] 23 (0, 0)) (by (with_reducible repeat (first | refine blk_drewN ?_ _ | refine blk_drew ?_ | refine blk_alloc ?_ _)); exact BK502.out)) : gb511 ≠ gb502))
                have n9_ := Aside0.mk ((by rw [hg]; exact Nat.ne_of_lt (blk_lt (g := gb503) (o := .cells #[.int .i64 a1_0, .int .i64 a1_1, .int .i64 a1_2] 23 (0, 0)) (by (with_reducible repeat (first | refine blk_drewN ?_ _ | refine blk_drew ?_ | refine blk_alloc ?_ _)); exact BK503.out)) : gb503 ≠ gb511))
                have n10_ := Aside0.mk ((by rw [hg]; exact Nat.ne_of_gt (blk_lt (g := gb503) (o := .cells #[.int .i64 a1_0, .int .i64 a1_1, .int .i64 a1_2] 23 (0, 0)) (by (with_reducible repeat (first | refine blk_drewN ?_ _ | refine blk_drew ?_ | refine blk_alloc ?_ _)); exact BK503.out)) : gb511 ≠ gb503))
                have n11_ := Aside0.mk ((by rw [hg]; exact Nat.ne_of_lt (blk_lt (g := gb510) (o := .cells #[.int .i64 0, .int .i64 0, .int .i64 0] 23 (0, 0)) (by (with_reducible repeat (first | refine blk_drewN ?_ _ | refine blk_drew ?_ | refine blk_alloc ?_ _)); exact BK510.out)) : gb510 ≠ gb511))
                have n12_ := Aside0.mk ((by rw [hg]; exact Nat.ne_of_gt (blk_lt (g := gb510) (o := .cells #[.int .i64 0, .int .i64 0, .int .i64 0] 23 (0, 0)) (by (with_reducible repeat (first | refine blk_drewN ?_ _ | refine blk_drew ?_ | refine blk_alloc ?_ _)); exact BK510.out)) : gb511 ≠ gb510))
                clear BK502
                clear BK503
                clear BK510
                clear HB
                have BK502 := n0_
                have BK503 := n1_
                have BK510 := n2_
                have HB := n3_
                have BK511 := n4_
                have GW511 := n5_
                have GE511 := n6_
                have NB502_511 := n7_
                have NB511_502 := n8_
                have NB503_511 := n9_
                have NB511_503 := n10_
                have NB510_511 := n11_
                have NB511_510 := n12_
                clear n0_ n1_ n2_ n3_ n4_ n5_ n6_ n7_ n8_ n9_ n10_ n11_ n12_
                clear hb hbox hg
                refine hK.out _ _ ⟨(blk_cell BK502.out 0).trans rfl, (blk_cell BK502.out 1).trans rfl, (blk_cell BK502.out 2).trans rfl, (blk_cell BK503.out 0).trans rfl, (blk_cell BK503.out 1).trans rfl, (blk_cell BK503.out 2).trans rfl⟩ (fun hHeld => ?_)
                clear hK K
                refine norm_ (a' := ?_) ?_ ?_
                rotate_left
                · show Act.put _ (some 6) _ = _
                  simp only [Act.put, List.setIfInBounds_toArray, List.set_cons_zero, List.set_cons_succ, i64_w, i32_w]
                  rfl
                exact norm_ (by first | (simp only [putAll, Act.put, List.setIfInBounds_toArray, List.set_cons_zero, List.set_cons_succ]; done) | (simp only [putAll, Act.put, List.setIfInBounds_toArray, List.set_cons_zero, List.set_cons_succ]; rfl)) (hJ7_16_17 (gb510, gb511) _ ⟨hHeld, (by (with_reducible repeat (first | refine blk_drewN ?_ _ | refine blk_drew ?_ | refine blk_alloc ?_ _)); exact BK502.out), (by (with_reducible repeat (first | refine blk_drewN ?_ _ | refine blk_drew ?_ | refine blk_alloc ?_ _)); exact BK503.out), (by (with_reducible repeat (first | refine blk_drewN ?_ _ | refine blk_drew ?_ | refine blk_alloc ?_ _)); exact BK510.out), (by (with_reducible repeat (first | refine blk_drewN ?_ _ | refine blk_drew ?_ | refine blk_alloc ?_ _)); exact BK511.out), GW510.out, GE510.out, NB502_510.out, NB510_502.out, NB503_510.out, NB510_503.out, NB511_510.out, NB510_511.out, GW511.out, GE511.out, NB502_511.out, NB511_502.out, NB503_511.out, NB511_503.out, (by repeat (first | (with_reducible first | exact HB.out | apply below_alloc | apply pw_below_drewN | apply below_drew1 | refine below_set ?_ GE502.out | refine below_set ?_ GE503.out | refine below_set ?_ GE510.out | refine below_set ?_ GE511.out) | exact HB.out))⟩)
          · skip
            rintro _ w13 ⟨hS_, h0_, h1_, h2_⟩
            have n0_ : Aside0 (w13.heap[gb502]? = some (.cells #[.int .i64 a0_0, .int .i64 a0_1, .int .i64 a0_2] 23 (0, 0))) := ⟨h0_⟩
            have n1_ : Aside0 (w13.heap[gb503]? = some (.cells #[.int .i64 a1_0, .int .i64 a1_1, .int .i64 a1_2] 23 (0, 0))) := ⟨h1_⟩
            have n2_ : Aside0 (Below w.heap.size w w13) := ⟨h2_⟩
            clear BK502
            clear BK503
            clear HB
            clear h0_ h1_ h2_
            have BK502 := n0_
            have BK503 := n1_
            have HB := n2_
            clear n0_ n1_ n2_
            have hHeld : w13.cell? ⟨gb502, 0, none⟩ = some (.int .i64 a0_0) ∧ w13.cell? ⟨gb502, 1, none⟩ = some (.int .i64 a0_1) ∧ w13.cell? ⟨gb502, 2, none⟩ = some (.int .i64 a0_2) ∧ w13.cell? ⟨gb503, 0, none⟩ = some (.int .i64 a1_0) ∧ w13.cell? ⟨gb503, 1, none⟩ = some (.int .i64 a1_1) ∧ w13.cell? ⟨gb503, 2, none⟩ = some (.int .i64 a1_2) := hS_
            refine norm_ (a' := ?_) ?_ ?_
            rotate_left
            · simp only [putAll, Act.put, List.setIfInBounds_toArray, List.set_cons_zero, List.set_cons_succ]
              rfl
            refine two_ (i := 16) (j := 17) (Ni := some 5) (Nj := some 6) (fl 17 20 []) (fl 16 20 [17]) rfl rfl rfl rfl (two_of HT_.out (by kernel_rfl)) (by decide) (by decide) (fun K hK => ?_) (fun K hK => ?_)
            · skip
              refine box_step ?hg (N := 5) ?hd (cs := #[.int .i64 0, .int .i64 0, .int .i64 0]) (t := 23) ?hr ?_; (case hd => rfl); (case hg => rfl); (case hr => first | (go_simp; done) | (go_simp; rfl))
              intro gb510 hg w14 hbox hb
              have n0_ := Aside0.mk (bb BK502.out hb)
              have n1_ := Aside0.mk (bb BK503.out hb)
              have n2_ := Aside0.mk (bs HB.out hb)
              have n3_ := Aside0.mk (hbox)
              have n4_ := Aside0.mk ((by rw [hg]; exact (bz HB.out) : w.heap.size ≤ gb510))
              have n5_ := Aside0.mk ((by rw [hg]; exact (bz HB.out) : w.heap.size ≤ gb510))
              have n6_ := Aside0.mk ((by rw [hg]; exact Nat.ne_of_lt (blk_lt (g := gb502) (o := .cells #[.int .i64 a0_0, .int .i64 a0_1, .int .i64 a0_2] 23 (0, 0)) (by (with_reducible repeat (first | refine blk_drewN ?_ _ | refine blk_drew ?_ | refine blk_alloc ?_ _)); exact BK502.out)) : gb502 ≠ gb510))
              have n7_ := Aside0.mk ((by rw [hg]; exact Nat.ne_of_gt (blk_lt (g := gb502) (o := .cells #[.int .i64 a0_0, .int .i64 a0_1, .int .i64 a0_2] 23 (0, 0)) (by (with_reducible repeat (first | refine blk_drewN ?_ _ | refine blk_drew ?_ | refine blk_alloc ?_ _)); exact BK502.out)) : gb510 ≠ gb502))
              have n8_ := Aside0.mk ((by rw [hg]; exact Nat.ne_of_lt (blk_lt (g := gb503) (o := .cells #[.int .i64 a1_0, .int .i64 a1_1, .int .i64 a1_2] 23 (0, 0)) (by (with_reducible repeat (first | refine blk_drewN ?_ _ | refine blk_drew ?_ | refine blk_alloc ?_ _)); exact BK503.out)) : gb503 ≠ gb510))
              have n9_ := Aside0.mk ((by rw [hg]; exact Nat.ne_of_gt (blk_lt (g := gb503) (o := .cells #[.int .i64 a1_0, .int .i64 a1_1, .int .i64 a1_2] 23 (0, 0)) (by (with_reducible repeat (first | refine blk_drewN ?_ _ | refine blk_drew ?_ | refine blk_alloc ?_ _)); exact BK503.out)) : gb510 ≠ gb503))
              clear BK502
              clear BK503
              clear HB
              have BK502 := n0_
              have BK503 := n1_
              have HB := n2_
              have BK510 := n3_
              have GW510 := n4_
              have GE510 := n5_
              have NB502_510 := n6_
              have NB510_502 := n7_
              have NB503_510 := n8_
              have NB510_503 := n9_
              clear n0_ n1_ n2_ n3_ n4_ n5_ n6_ n7_ n8_ n9_
              clear hb hbox hg
              refine hK.out _ _ ⟨(blk_cell BK502.out 0).trans rfl, (blk_cell BK502.out 1).trans rfl, (blk_cell BK502.out 2).trans rfl, (blk_cell BK503.out 0).trans rfl, (blk_cell BK503.out 1).trans rfl, (blk_cell BK503.out 2).trans rfl⟩ (fun hHeld => ?_)
              clear hK K
              refine norm_ (a' := ?_) ?_ ?_
              rotate_left
              · show Act.put _ (some 5) _ = _
                simp only [Act.put, List.setIfInBounds_toArray, List.set_cons_zero, List.set_cons_succ, i64_w, i32_w]
                rfl
              exact norm_ (by first | (simp only [putAll, Act.put, List.setIfInBounds_toArray, List.set_cons_zero, List.set_cons_succ]; done) | (simp only [putAll, Act.put, List.setIfInBounds_toArray, List.set_cons_zero, List.set_cons_succ]; rfl)) (hJ7_15_16 (gb510) _ ⟨hHeld, (by (with_reducible repeat (first | refine blk_drewN ?_ _ | refine blk_drew ?_ | refine blk_alloc ?_ _)); exact BK502.out), (by (with_reducible repeat (first | refine blk_drewN ?_ _ | refine blk_drew ?_ | refine blk_alloc ?_ _)); exact BK503.out), (by (with_reducible repeat (first | refine blk_drewN ?_ _ | refine blk_drew ?_ | refine blk_alloc ?_ _)); exact BK510.out), GW510.out, GE510.out, NB502_510.out, NB510_502.out, NB503_510.out, NB510_503.out, (by repeat (first | (with_reducible first | exact HB.out | apply below_alloc | apply pw_below_drewN | apply below_drew1 | refine below_set ?_ GE502.out | refine below_set ?_ GE503.out | refine below_set ?_ GE510.out) | exact HB.out))⟩)
            · skip
              refine box_step ?hg (N := 6) ?hd (cs := #[.int .i64 0, .int .i64 0, .int .i64 0]) (t := 23) ?hr ?_; (case hd => rfl); (case hg => rfl); (case hr => first | (go_simp; done) | (go_simp; rfl))
              intro gb511 hg w14 hbox hb
              have n0_ := Aside0.mk (bb BK502.out hb)
              have n1_ := Aside0.mk (bb BK503.out hb)
              have n2_ := Aside0.mk (bs HB.out hb)
              have n3_ := Aside0.mk (hbox)
              have n4_ := Aside0.mk ((by rw [hg]; exact (bz HB.out) : w.heap.size ≤ gb511))
              have n5_ := Aside0.mk ((by rw [hg]; exact (bz HB.out) : w.heap.size ≤ gb511))
              have n6_ := Aside0.mk ((by rw [hg]; exact Nat.ne_of_lt (blk_lt (g := gb502) (o := .cells #[.int .i64 a0_0, .int .i64 a0_1, .int .i64 a0_2] 23 (0, 0)) (by (with_reducible repeat (first | refine blk_drewN ?_ _ | refine blk_drew ?_ | refine blk_alloc ?_ _)); exact BK502.out)) : gb502 ≠ gb511))
              have n7_ := Aside0.mk ((by rw [hg]; exact Nat.ne_of_gt (blk_lt (g := gb502) (o := .cells #[.int .i64 a0_0, .int .i64 a0_1, .int .i64 a0_2] 23 (0, 0)) (by (with_reducible repeat (first | refine blk_drewN ?_ _ | refine blk_drew ?_ | refine blk_alloc ?_ _)); exact BK502.out)) : gb511 ≠ gb502))
              have n8_ := Aside0.mk ((by rw [hg]; exact Nat.ne_of_lt (blk_lt (g := gb503) (o := .cells #[.int .i64 a1_0, .int .i64 a1_1, .int .i64 a1_2] 23 (0, 0)) (by (with_reducible repeat (first | refine blk_drewN ?_ _ | refine blk_drew ?_ | refine blk_alloc ?_ _)); exact BK503.out)) : gb503 ≠ gb511))
              have n9_ := Aside0.mk ((by rw [hg]; exact Nat.ne_of_gt (blk_lt (g := gb503) (o := .cells #[.int .i64 a1_0, .int .i64 a1_1, .int .i64 a1_2] 23 (0, 0)) (by (with_reducible repeat (first | refine blk_drewN ?_ _ | refine blk_drew ?_ | refine blk_alloc ?_ _)); exact BK503.out)) : gb511 ≠ gb503))
              clear BK502
              clear BK503
              clear HB
              have BK502 := n0_
              have BK503 := n1_
              have HB := n2_
              have BK511 := n3_
              have GW511 := n4_
              have GE511 := n5_
              have NB502_511 := n6_
              have NB511_502 := n7_
              have NB503_511 := n8_
              have NB511_503 := n9_
              clear n0_ n1_ n2_ n3_ n4_ n5_ n6_ n7_ n8_ n9_
              clear hb hbox hg
              refine hK.out _ _ ⟨(blk_cell BK502.out 0).trans rfl, (blk_cell BK502.out 1).trans rfl, (blk_cell BK502.out 2).trans rfl, (blk_cell BK503.out 0).trans rfl, (blk_cell BK503.out 1).trans rfl, (blk_cell BK503.out 2).trans rfl⟩ (fun hHeld => ?_)
              clear hK K
              refine norm_ (a' := ?_) ?_ ?_
              rotate_left
              · show Act.put _ (some 6) _ = _
                simp only [Act.put, List.setIfInBounds_toArray, List.set_cons_zero, List.set_cons_succ, i64_w, i32_w]
                rfl
              exact norm_ (by first | (simp only [putAll, Act.put, List.setIfInBounds_toArray, List.set_cons_zero, List.set_cons_succ]; done) | (simp only [putAll, Act.put, List.setIfInBounds_toArray, List.set_cons_zero, List.set_cons_succ]; rfl)) (hJ7_15_17 (gb511) _ ⟨hHeld, (by (with_reducible repeat (first | refine blk_drewN ?_ _ | refine blk_drew ?_ | refine blk_alloc ?_ _)); exact BK502.out), (by (with_reducible repeat (first | refine blk_drewN ?_ _ | refine blk_drew ?_ | refine blk_alloc ?_ _)); exact BK503.out), (by (with_reducible repeat (first | refine blk_drewN ?_ _ | refine blk_drew ?_ | refine blk_alloc ?_ _)); exact BK511.out), GW511.out, GE511.out, NB502_511.out, NB511_502.out, NB503_511.out, NB511_503.out, (by repeat (first | (with_reducible first | exact HB.out | apply below_alloc | apply pw_below_drewN | apply below_drew1 | refine below_set ?_ GE502.out | refine below_set ?_ GE503.out | refine below_set ?_ GE511.out) | exact HB.out))⟩)
        · skip
          rintro ⟨gb510, gb511⟩ w14 ⟨hS_, h0_, h1_, h2_, h3_, h4_, h5_, h6_, h7_, h8_, h9_, h10_, h11_, h12_, h13_, h14_, h15_, h16_, h17_, h18_⟩
          have n0_ : Aside0 (w14.heap[gb502]? = some (.cells #[.int .i64 a0_0, .int .i64 a0_1, .int .i64 a0_2] 23 (0, 0))) := ⟨h0_⟩
          have n1_ : Aside0 (w14.heap[gb503]? = some (.cells #[.int .i64 a1_0, .int .i64 a1_1, .int .i64 a1_2] 23 (0, 0))) := ⟨h1_⟩
          have n2_ : Aside0 (w14.heap[gb510]? = some (.cells #[.int .i64 0, .int .i64 0, .int .i64 0] 23 (0, 0))) := ⟨h2_⟩
          have n3_ : Aside0 (w14.heap[gb511]? = some (.cells #[.int .i64 0, .int .i64 0, .int .i64 0] 23 (0, 0))) := ⟨h3_⟩
          have n4_ : Aside0 (w.heap.size ≤ gb510) := ⟨h4_⟩
          have n5_ : Aside0 (w.heap.size ≤ gb510) := ⟨h5_⟩
          have n6_ : Aside0 (gb502 ≠ gb510) := ⟨h6_⟩
          have n7_ : Aside0 (gb510 ≠ gb502) := ⟨h7_⟩
          have n8_ : Aside0 (gb503 ≠ gb510) := ⟨h8_⟩
          have n9_ : Aside0 (gb510 ≠ gb503) := ⟨h9_⟩
          have n10_ : Aside0 (gb511 ≠ gb510) := ⟨h10_⟩
          have n11_ : Aside0 (gb510 ≠ gb511) := ⟨h11_⟩
          have n12_ : Aside0 (w.heap.size ≤ gb511) := ⟨h12_⟩
          have n13_ : Aside0 (w.heap.size ≤ gb511) := ⟨h13_⟩
          have n14_ : Aside0 (gb502 ≠ gb511) := ⟨h14_⟩
          have n15_ : Aside0 (gb511 ≠ gb502) := ⟨h15_⟩
          have n16_ : Aside0 (gb503 ≠ gb511) := ⟨h16_⟩
          have n17_ : Aside0 (gb511 ≠ gb503) := ⟨h17_⟩
          have n18_ : Aside0 (Below w.heap.size w w14) := ⟨h18_⟩
          clear BK502
          clear BK503
          clear HB
          clear h0_ h1_ h2_ h3_ h4_ h5_ h6_ h7_ h8_ h9_ h10_ h11_ h12_ h13_ h14_ h15_ h16_ h17_ h18_
          have BK502 := n0_
          have BK503 := n1_
          have BK510 := n2_
          have BK511 := n3_
          have GW510 := n4_
          have GE510 := n5_
          have NB502_510 := n6_
          have NB510_502 := n7_
          have NB503_510 := n8_
          have NB510_503 := n9_
          have NB511_510 := n10_
          have NB510_511 := n11_
          have GW511 := n12_
          have GE511 := n13_
          have NB502_511 := n14_
          have NB511_502 := n15_
          have NB503_511 := n16_
          have NB511_503 := n17_
          have HB := n18_
          clear n0_ n1_ n2_ n3_ n4_ n5_ n6_ n7_ n8_ n9_ n10_ n11_ n12_ n13_ n14_ n15_ n16_ n17_ n18_
          have hHeld : w14.cell? ⟨gb502, 0, none⟩ = some (.int .i64 a0_0) ∧ w14.cell? ⟨gb502, 1, none⟩ = some (.int .i64 a0_1) ∧ w14.cell? ⟨gb502, 2, none⟩ = some (.int .i64 a0_2) ∧ w14.cell? ⟨gb503, 0, none⟩ = some (.int .i64 a1_0) ∧ w14.cell? ⟨gb503, 1, none⟩ = some (.int .i64 a1_1) ∧ w14.cell? ⟨gb503, 2, none⟩ = some (.int .i64 a1_2) := hS_
          refine norm_ (a' := ?_) ?_ ?_
          rotate_left
          · simp only [putAll, Act.put, List.setIfInBounds_toArray, List.set_cons_zero, List.set_cons_succ]
            rfl
          refine one_ (i := 15) (N := some 27) (fl 18 20 []) rfl rfl (one_of HT_.out (by kernel_rfl)) (by decide) (fun K hK => ?_)
          refine goes_ Try.func12 (by kernel_rfl) rfl #[.agg #[.int .i64 a1_0, .int .i64 a1_1, .int .i64 a1_2], .int .i64 9999] (by rfl) rfl rfl (by (try simp only [List.map_toArray, List.map_cons, List.map_nil]); first | done | rfl | (simp only [List.length_drop, List.length_take]; rfl)) ?_
          with_reducible refine (chattelref09_Make.calls k a1_0 a1_1 a1_2 9999 t507 t508 t509 _ A4.out).mono ?_
          rintro e w15 ⟨rfl, hb⟩
          refine ⟨_, rfl, ?_⟩
          replace BK502 := Aside0.mk (bb BK502.out hb)
          replace BK503 := Aside0.mk (bb BK503.out hb)
          replace BK510 := Aside0.mk (bb BK510.out hb)
          replace BK511 := Aside0.mk (bb BK511.out hb)
          replace HB := Aside0.mk (bs HB.out hb)
          (try clear hb)
          (try clear hb2)
          (try clear hk)
          (try clear hi)
          refine hK.out _ _ ⟨(blk_cell BK502.out 0).trans rfl, (blk_cell BK502.out 1).trans rfl, (blk_cell BK502.out 2).trans rfl, (blk_cell BK503.out 0).trans rfl, (blk_cell BK503.out 1).trans rfl, (blk_cell BK503.out 2).trans rfl⟩ (fun hHeld => ?_)
          clear hK K
          refine norm_ (a' := ?_) ?_ ?_
          rotate_left
          · show Act.put _ (some 27) _ = _
            simp only [Act.put, List.setIfInBounds_toArray, List.set_cons_zero, List.set_cons_succ, i64_w, i32_w]
            rfl
          exact norm_ (by first | (simp only [putAll, Act.put, List.setIfInBounds_toArray, List.set_cons_zero, List.set_cons_succ]; done) | (simp only [putAll, Act.put, List.setIfInBounds_toArray, List.set_cons_zero, List.set_cons_succ]; rfl)) (hJ7_15_16_17 (gb510, gb511) _ ⟨hHeld, (by (with_reducible repeat (first | refine blk_drewN ?_ _ | refine blk_drew ?_ | refine blk_alloc ?_ _)); exact BK502.out), (by (with_reducible repeat (first | refine blk_drewN ?_ _ | refine blk_drew ?_ | refine blk_alloc ?_ _)); exact BK503.out), (by (with_reducible repeat (first | refine blk_drewN ?_ _ | refine blk_drew ?_ | refine blk_alloc ?_ _)); exact BK510.out), (by (with_reducible repeat (first | refine blk_drewN ?_ _ | refine blk_drew ?_ | refine blk_alloc ?_ _)); exact BK511.out), GW510.out, GE510.out, NB502_510.out, NB510_502.out, NB503_510.out, NB510_503.out, NB511_510.out, NB510_511.out, GW511.out, GE511.out, NB502_511.out, NB511_502.out, NB503_511.out, NB511_503.out, (by repeat (first | (with_reducible first | exact HB.out | apply below_alloc | apply pw_below_drewN | apply below_drew1 | refine below_set ?_ GE502.out | refine below_set ?_ GE503.out | refine below_set ?_ GE510.out | refine below_set ?_ GE511.out) | exact HB.out))⟩)
      · skip
        rintro gb511 w14 ⟨hS_, h0_, h1_, h2_, h3_, h4_, h5_, h6_, h7_, h8_, h9_⟩
        have n0_ : Aside0 (w14.heap[gb502]? = some (.cells #[.int .i64 a0_0, .int .i64 a0_1, .int .i64 a0_2] 23 (0, 0))) := ⟨h0_⟩
        have n1_ : Aside0 (w14.heap[gb503]? = some (.cells #[.int .i64 a1_0, .int .i64 a1_1, .int .i64 a1_2] 23 (0, 0))) := ⟨h1_⟩
        have n2_ : Aside0 (w14.heap[gb511]? = some (.cells #[.int .i64 0, .int .i64 0, .int .i64 0] 23 (0, 0))) := ⟨h2_⟩
        have n3_ : Aside0 (w.heap.size ≤ gb511) := ⟨h3_⟩
        have n4_ : Aside0 (w.heap.size ≤ gb511) := ⟨h4_⟩
        have n5_ : Aside0 (gb502 ≠ gb511) := ⟨h5_⟩
        have n6_ : Aside0 (gb511 ≠ gb502) := ⟨h6_⟩
        have n7_ : Aside0 (gb503 ≠ gb511) := ⟨h7_⟩
        have n8_ : Aside0 (gb511 ≠ gb503) := ⟨h8_⟩
        have n9_ : Aside0 (Below w.heap.size w w14) := ⟨h9_⟩
        clear BK502
        clear BK503
        clear HB
        clear h0_ h1_ h2_ h3_ h4_ h5_ h6_ h7_ h8_ h9_
        have BK502 := n0_
        have BK503 := n1_
        have BK511 := n2_
        have GW511 := n3_
        have GE511 := n4_
        have NB502_511 := n5_
        have NB511_502 := n6_
        have NB503_511 := n7_
        have NB511_503 := n8_
        have HB := n9_
        clear n0_ n1_ n2_ n3_ n4_ n5_ n6_ n7_ n8_ n9_
        have hHeld : w14.cell? ⟨gb502, 0, none⟩ = some (.int .i64 a0_0) ∧ w14.cell? ⟨gb502, 1, none⟩ = some (.int .i64 a0_1) ∧ w14.cell? ⟨gb502, 2, none⟩ = some (.int .i64 a0_2) ∧ w14.cell? ⟨gb503, 0, none⟩ = some (.int .i64 a1_0) ∧ w14.cell? ⟨gb503, 1, none⟩ = some (.int .i64 a1_1) ∧ w14.cell? ⟨gb503, 2, none⟩ = some (.int .i64 a1_2) := hS_
        refine norm_ (a' := ?_) ?_ ?_
        rotate_left
        · simp only [putAll, Act.put, List.setIfInBounds_toArray, List.set_cons_zero, List.set_cons_succ]
          rfl
        refine one_ (i := 16) (N := some 5) (fl 18 20 []) rfl rfl (one_of HT_.out (by kernel_rfl)) (by decide) (fun K hK => ?_)
        refine box_step ?hg (N := 5) ?hd (cs := #[.int .i64 0, .int .i64 0, .int .i64 0]) (t := 23) ?hr ?_; (case hd => rfl); (case hg => rfl); (case hr => first | (go_simp; done) | (go_simp; rfl))
        intro gb510 hg w15 hbox hb
        have n0_ := Aside0.mk (bb BK502.out hb)
        have n1_ := Aside0.mk (bb BK503.out hb)
        have n2_ := Aside0.mk (bb BK511.out hb)
        have n3_ := Aside0.mk (bs HB.out hb)
        have n4_ := Aside0.mk (hbox)
        have n5_ := Aside0.mk ((by rw [hg]; exact (bz HB.out) : w.heap.size ≤ gb510))
        have n6_ := Aside0.mk ((by rw [hg]; exact (bz HB.out) : w.heap.size ≤ gb510))
        have n7_ := Aside0.mk ((by rw [hg]; exact Nat.ne_of_lt (blk_lt (g := gb502) (o := .cells #[.int .i64 a0_0, .int .i64 a0_1, .int .i64 a0_2] 23 (0, 0)) (by (with_reducible repeat (first | refine blk_drewN ?_ _ | refine blk_drew ?_ | refine blk_alloc ?_ _)); exact BK502.out)) : gb502 ≠ gb510))
        have n8_ := Aside0.mk ((by rw [hg]; exact Nat.ne_of_gt (blk_lt (g := gb502) (o := .cells #[.int .i64 a0_0, .int .i64 a0_1, .int .i64 a0_2] 23 (0, 0)) (by (with_reducible repeat (first | refine blk_drewN ?_ _ | refine blk_drew ?_ | refine blk_alloc ?_ _)); exact BK502.out)) : gb510 ≠ gb502))
        have n9_ := Aside0.mk ((by rw [hg]; exact Nat.ne_of_lt (blk_lt (g := gb503) (o := .cells #[.int .i64 a1_0, .int .i64 a1_1, .int .i64 a1_2] 23 (0, 0)) (by (with_reducible repeat (first | refine blk_drewN ?_ _ | refine blk_drew ?_ | refine blk_alloc ?_ _)); exact BK503.out)) : gb503 ≠ gb510))
        have n10_ := Aside0.mk ((by rw [hg]; exact Nat.ne_of_gt (blk_lt (g := gb503) (o := .cells #[.int .i64 a1_0, .int .i64 a1_1, .int .i64 a1_2] 23 (0, 0)) (by (with_reducible repeat (first | refine blk_drewN ?_ _ | refine blk_drew ?_ | refine blk_alloc ?_ _)); exact BK503.out)) : gb510 ≠ gb503))
        have n11_ := Aside0.mk ((by rw [hg]; exact Nat.ne_of_lt (blk_lt (g := gb511) (o := .cells #[.int .i64 0, .int .i64 0, .int .i64 0] 23 (0, 0)) (by (with_reducible repeat (first | refine blk_drewN ?_ _ | refine blk_drew ?_ | refine blk_alloc ?_ _)); exact BK511.out)) : gb511 ≠ gb510))
        have n12_ := Aside0.mk ((by rw [hg]; exact Nat.ne_of_gt (blk_lt (g := gb511) (o := .cells #[.int .i64 0, .int .i64 0, .int .i64 0] 23 (0, 0)) (by (with_reducible repeat (first | refine blk_drewN ?_ _ | refine blk_drew ?_ | refine blk_alloc ?_ _)); exact BK511.out)) : gb510 ≠ gb511))
        clear BK502
        clear BK503
        clear BK511
        clear HB
        have BK502 := n0_
        have BK503 := n1_
        have BK511 := n2_
        have HB := n3_
        have BK510 := n4_
        have GW510 := n5_
        have GE510 := n6_
        have NB502_510 := n7_
        have NB510_502 := n8_
        have NB503_510 := n9_
        have NB510_503 := n10_
        have NB511_510 := n11_
        have NB510_511 := n12_
        clear n0_ n1_ n2_ n3_ n4_ n5_ n6_ n7_ n8_ n9_ n10_ n11_ n12_
        clear hb hbox hg
        refine hK.out _ _ ⟨(blk_cell BK502.out 0).trans rfl, (blk_cell BK502.out 1).trans rfl, (blk_cell BK502.out 2).trans rfl, (blk_cell BK503.out 0).trans rfl, (blk_cell BK503.out 1).trans rfl, (blk_cell BK503.out 2).trans rfl⟩ (fun hHeld => ?_)
        clear hK K
        refine norm_ (a' := ?_) ?_ ?_
        rotate_left
        · show Act.put _ (some 5) _ = _
          simp only [Act.put, List.setIfInBounds_toArray, List.set_cons_zero, List.set_cons_succ, i64_w, i32_w]
          rfl
        exact norm_ (by first | (simp only [putAll, Act.put, List.setIfInBounds_toArray, List.set_cons_zero, List.set_cons_succ]; done) | (simp only [putAll, Act.put, List.setIfInBounds_toArray, List.set_cons_zero, List.set_cons_succ]; rfl)) (hJ7_15_16_17 (gb510, gb511) _ ⟨hHeld, (by (with_reducible repeat (first | refine blk_drewN ?_ _ | refine blk_drew ?_ | refine blk_alloc ?_ _)); exact BK502.out), (by (with_reducible repeat (first | refine blk_drewN ?_ _ | refine blk_drew ?_ | refine blk_alloc ?_ _)); exact BK503.out), (by (with_reducible repeat (first | refine blk_drewN ?_ _ | refine blk_drew ?_ | refine blk_alloc ?_ _)); exact BK510.out), (by (with_reducible repeat (first | refine blk_drewN ?_ _ | refine blk_drew ?_ | refine blk_alloc ?_ _)); exact BK511.out), GW510.out, GE510.out, NB502_510.out, NB510_502.out, NB503_510.out, NB510_503.out, NB511_510.out, NB510_511.out, GW511.out, GE511.out, NB502_511.out, NB511_502.out, NB503_511.out, NB511_503.out, (by repeat (first | (with_reducible first | exact HB.out | apply below_alloc | apply pw_below_drewN | apply below_drew1 | refine below_set ?_ GE502.out | refine below_set ?_ GE503.out | refine below_set ?_ GE511.out | refine below_set ?_ GE510.out) | exact HB.out))⟩)
    · skip
      rintro gb510 w14 ⟨hS_, h0_, h1_, h2_, h3_, h4_, h5_, h6_, h7_, h8_, h9_⟩
      have n0_ : Aside0 (w14.heap[gb502]? = some (.cells #[.int .i64 a0_0, .int .i64 a0_1, .int .i64 a0_2] 23 (0, 0))) := ⟨h0_⟩
      have n1_ : Aside0 (w14.heap[gb503]? = some (.cells #[.int .i64 a1_0, .int .i64 a1_1, .int .i64 a1_2] 23 (0, 0))) := ⟨h1_⟩
      have n2_ : Aside0 (w14.heap[gb510]? = some (.cells #[.int .i64 0, .int .i64 0, .int .i64 0] 23 (0, 0))) := ⟨h2_⟩
      have n3_ : Aside0 (w.heap.size ≤ gb510) := ⟨h3_⟩
      have n4_ : Aside0 (w.heap.size ≤ gb510) := ⟨h4_⟩
      have n5_ : Aside0 (gb502 ≠ gb510) := ⟨h5_⟩
      have n6_ : Aside0 (gb510 ≠ gb502) := ⟨h6_⟩
      have n7_ : Aside0 (gb503 ≠ gb510) := ⟨h7_⟩
      have n8_ : Aside0 (gb510 ≠ gb503) := ⟨h8_⟩
      have n9_ : Aside0 (Below w.heap.size w w14) := ⟨h9_⟩
      clear BK502
      clear BK503
      clear HB
      clear h0_ h1_ h2_ h3_ h4_ h5_ h6_ h7_ h8_ h9_
      have BK502 := n0_
      have BK503 := n1_
      have BK510 := n2_
      have GW510 := n3_
      have GE510 := n4_
      have NB502_510 := n5_
      have NB510_502 := n6_
      have NB503_510 := n7_
      have NB510_503 := n8_
      have HB := n9_
      clear n0_ n1_ n2_ n3_ n4_ n5_ n6_ n7_ n8_ n9_
      have hHeld : w14.cell? ⟨gb502, 0, none⟩ = some (.int .i64 a0_0) ∧ w14.cell? ⟨gb502, 1, none⟩ = some (.int .i64 a0_1) ∧ w14.cell? ⟨gb502, 2, none⟩ = some (.int .i64 a0_2) ∧ w14.cell? ⟨gb503, 0, none⟩ = some (.int .i64 a1_0) ∧ w14.cell? ⟨gb503, 1, none⟩ = some (.int .i64 a1_1) ∧ w14.cell? ⟨gb503, 2, none⟩ = some (.int .i64 a1_2) := hS_
      refine norm_ (a' := ?_) ?_ ?_
      rotate_left
      · simp only [putAll, Act.put, List.setIfInBounds_toArray, List.set_cons_zero, List.set_cons_succ]
        rfl
      refine one_ (i := 17) (N := some 6) (fl 18 20 []) rfl rfl (one_of HT_.out (by kernel_rfl)) (by decide) (fun K hK => ?_)
      refine box_step ?hg (N := 6) ?hd (cs := #[.int .i64 0, .int .i64 0, .int .i64 0]) (t := 23) ?hr ?_; (case hd => rfl); (case hg => rfl); (case hr => first | (go_simp; done) | (go_simp; rfl))
      intro gb511 hg w15 hbox hb
      have n0_ := Aside0.mk (bb BK502.out hb)
      have n1_ := Aside0.mk (bb BK503.out hb)
      have n2_ := Aside0.mk (bb BK510.out hb)
      have n3_ := Aside0.mk (bs HB.out hb)
      have n4_ := Aside0.mk (hbox)
      have n5_ := Aside0.mk ((by rw [hg]; exact (bz HB.out) : w.heap.size ≤ gb511))
      have n6_ := Aside0.mk ((by rw [hg]; exact (bz HB.out) : w.heap.size ≤ gb511))
      have n7_ := Aside0.mk ((by rw [hg]; exact Nat.ne_of_lt (blk_lt (g := gb502) (o := .cells #[.int .i64 a0_0, .int .i64 a0_1, .int .i64 a0_2] 23 (0, 0)) (by (with_reducible repeat (first | refine blk_drewN ?_ _ | refine blk_drew ?_ | refine blk_alloc ?_ _)); exact BK502.out)) : gb502 ≠ gb511))
      have n8_ := Aside0.mk ((by rw [hg]; exact Nat.ne_of_gt (blk_lt (g := gb502) (o := .cells #[.int .i64 a0_0, .int .i64 a0_1, .int .i64 a0_2] 23 (0, 0)) (by (with_reducible repeat (first | refine blk_drewN ?_ _ | refine blk_drew ?_ | refine blk_alloc ?_ _)); exact BK502.out)) : gb511 ≠ gb502))
      have n9_ := Aside0.mk ((by rw [hg]; exact Nat.ne_of_lt (blk_lt (g := gb503) (o := .cells #[.int .i64 a1_0, .int .i64 a1_1, .int .i64 a1_2] 23 (0, 0)) (by (with_reducible repeat (first | refine blk_drewN ?_ _ | refine blk_drew ?_ | refine blk_alloc ?_ _)); exact BK503.out)) : gb503 ≠ gb511))
      have n10_ := Aside0.mk ((by rw [hg]; exact Nat.ne_of_gt (blk_lt (g := gb503) (o := .cells #[.int .i64 a1_0, .int .i64 a1_1, .int .i64 a1_2] 23 (0, 0)) (by (with_reducible repeat (first | refine blk_drewN ?_ _ | refine blk_drew ?_ | refine blk_alloc ?_ _)); exact BK503.out)) : gb511 ≠ gb503))
      have n11_ := Aside0.mk ((by rw [hg]; exact Nat.ne_of_lt (blk_lt (g := gb510) (o := .cells #[.int .i64 0, .int .i64 0, .int .i64 0] 23 (0, 0)) (by (with_reducible repeat (first | refine blk_drewN ?_ _ | refine blk_drew ?_ | refine blk_alloc ?_ _)); exact BK510.out)) : gb510 ≠ gb511))
      have n12_ := Aside0.mk ((by rw [hg]; exact Nat.ne_of_gt (blk_lt (g := gb510) (o := .cells #[.int .i64 0, .int .i64 0, .int .i64 0] 23 (0, 0)) (by (with_reducible repeat (first | refine blk_drewN ?_ _ | refine blk_drew ?_ | refine blk_alloc ?_ _)); exact BK510.out)) : gb511 ≠ gb510))
      clear BK502
      clear BK503
      clear BK510
      clear HB
      have BK502 := n0_
      have BK503 := n1_
      have BK510 := n2_
      have HB := n3_
      have BK511 := n4_
      have GW511 := n5_
      have GE511 := n6_
      have NB502_511 := n7_
      have NB511_502 := n8_
      have NB503_511 := n9_
      have NB511_503 := n10_
      have NB510_511 := n11_
      have NB511_510 := n12_
      clear n0_ n1_ n2_ n3_ n4_ n5_ n6_ n7_ n8_ n9_ n10_ n11_ n12_
      clear hb hbox hg
      refine hK.out _ _ ⟨(blk_cell BK502.out 0).trans rfl, (blk_cell BK502.out 1).trans rfl, (blk_cell BK502.out 2).trans rfl, (blk_cell BK503.out 0).trans rfl, (blk_cell BK503.out 1).trans rfl, (blk_cell BK503.out 2).trans rfl⟩ (fun hHeld => ?_)
      clear hK K
      refine norm_ (a' := ?_) ?_ ?_
      rotate_left
      · show Act.put _ (some 6) _ = _
        simp only [Act.put, List.setIfInBounds_toArray, List.set_cons_zero, List.set_cons_succ, i64_w, i32_w]
        rfl
      exact norm_ (by first | (simp only [putAll, Act.put, List.setIfInBounds_toArray, List.set_cons_zero, List.set_cons_succ]; done) | (simp only [putAll, Act.put, List.setIfInBounds_toArray, List.set_cons_zero, List.set_cons_succ]; rfl)) (hJ7_15_16_17 (gb510, gb511) _ ⟨hHeld, (by (with_reducible repeat (first | refine blk_drewN ?_ _ | refine blk_drew ?_ | refine blk_alloc ?_ _)); exact BK502.out), (by (with_reducible repeat (first | refine blk_drewN ?_ _ | refine blk_drew ?_ | refine blk_alloc ?_ _)); exact BK503.out), (by (with_reducible repeat (first | refine blk_drewN ?_ _ | refine blk_drew ?_ | refine blk_alloc ?_ _)); exact BK510.out), (by (with_reducible repeat (first | refine blk_drewN ?_ _ | refine blk_drew ?_ | refine blk_alloc ?_ _)); exact BK511.out), GW510.out, GE510.out, NB502_510.out, NB510_502.out, NB503_510.out, NB510_503.out, NB511_510.out, NB510_511.out, GW511.out, GE511.out, NB502_511.out, NB511_502.out, NB503_511.out, NB511_503.out, (by repeat (first | (with_reducible first | exact HB.out | apply below_alloc | apply pw_below_drewN | apply below_drew1 | refine below_set ?_ GE502.out | refine below_set ?_ GE503.out | refine below_set ?_ GE510.out | refine below_set ?_ GE511.out) | exact HB.out))⟩)
  rintro ⟨gb510, gb511⟩ w15 ⟨hS_, h0_, h1_, h2_, h3_, h4_, h5_, h6_, h7_, h8_, h9_, h10_, h11_, h12_, h13_, h14_, h15_, h16_, h17_, h18_⟩
  have n0_ : Aside0 (w15.heap[gb502]? = some (.cells #[.int .i64 a0_0, .int .i64 a0_1, .int .i64 a0_2] 23 (0, 0))) := ⟨h0_⟩
  have n1_ : Aside0 (w15.heap[gb503]? = some (.cells #[.int .i64 a1_0, .int .i64 a1_1, .int .i64 a1_2] 23 (0, 0))) := ⟨h1_⟩
  have n2_ : Aside0 (w15.heap[gb510]? = some (.cells #[.int .i64 0, .int .i64 0, .int .i64 0] 23 (0, 0))) := ⟨h2_⟩
  have n3_ : Aside0 (w15.heap[gb511]? = some (.cells #[.int .i64 0, .int .i64 0, .int .i64 0] 23 (0, 0))) := ⟨h3_⟩
  have n4_ : Aside0 (w.heap.size ≤ gb510) := ⟨h4_⟩
  have n5_ : Aside0 (w.heap.size ≤ gb510) := ⟨h5_⟩
  have n6_ : Aside0 (gb502 ≠ gb510) := ⟨h6_⟩
  have n7_ : Aside0 (gb510 ≠ gb502) := ⟨h7_⟩
  have n8_ : Aside0 (gb503 ≠ gb510) := ⟨h8_⟩
  have n9_ : Aside0 (gb510 ≠ gb503) := ⟨h9_⟩
  have n10_ : Aside0 (gb511 ≠ gb510) := ⟨h10_⟩
  have n11_ : Aside0 (gb510 ≠ gb511) := ⟨h11_⟩
  have n12_ : Aside0 (w.heap.size ≤ gb511) := ⟨h12_⟩
  have n13_ : Aside0 (w.heap.size ≤ gb511) := ⟨h13_⟩
  have n14_ : Aside0 (gb502 ≠ gb511) := ⟨h14_⟩
  have n15_ : Aside0 (gb511 ≠ gb502) := ⟨h15_⟩
  have n16_ : Aside0 (gb503 ≠ gb511) := ⟨h16_⟩
  have n17_ : Aside0 (gb511 ≠ gb503) := ⟨h17_⟩
  have n18_ : Aside0 (Below w.heap.size w w15) := ⟨h18_⟩
  clear BK502
  clear BK503
  clear HB
  clear h0_ h1_ h2_ h3_ h4_ h5_ h6_ h7_ h8_ h9_ h10_ h11_ h12_ h13_ h14_ h15_ h16_ h17_ h18_
  have BK502 := n0_
  have BK503 := n1_
  have BK510 := n2_
  have BK511 := n3_
  have GW510 := n4_
  have GE510 := n5_
  have NB502_510 := n6_
  have NB510_502 := n7_
  have NB503_510 := n8_
  have NB510_503 := n9_
  have NB511_510 := n10_
  have NB510_511 := n11_
  have GW511 := n12_
  have GE511 := n13_
  have NB502_511 := n14_
  have NB511_502 := n15_
  have NB503_511 := n16_
  have NB511_503 := n17_
  have HB := n18_
  clear n0_ n1_ n2_ n3_ n4_ n5_ n6_ n7_ n8_ n9_ n10_ n11_ n12_ n13_ n14_ n15_ n16_ n17_ n18_
  have hHeld : w15.cell? ⟨gb502, 0, none⟩ = some (.int .i64 a0_0) ∧ w15.cell? ⟨gb502, 1, none⟩ = some (.int .i64 a0_1) ∧ w15.cell? ⟨gb502, 2, none⟩ = some (.int .i64 a0_2) ∧ w15.cell? ⟨gb503, 0, none⟩ = some (.int .i64 a1_0) ∧ w15.cell? ⟨gb503, 1, none⟩ = some (.int .i64 a1_1) ∧ w15.cell? ⟨gb503, 2, none⟩ = some (.int .i64 a1_2) := hS_
  refine norm_ (a' := ?_) ?_ ?_
  rotate_left
  · simp only [putAll, Act.put, List.setIfInBounds_toArray, List.set_cons_zero, List.set_cons_succ]
    rfl
  refine one_ (i := 18) (N := none) (fl 19 20 []) rfl rfl (one_of HT_.out (by kernel_rfl)) (by decide) (fun K hK => ?_)
  have hs16 : w15.cell? ⟨gb510, 0, none⟩ = some (.int .i64 0) := (blk_cell BK510.out 0).trans rfl
  have hfs16 := blk_frozen BK510.out 0
  have hns16_0 := NB502_510.out
  have hns16_1 := NB503_510.out
  have hns16_3 := NB511_510.out
  have hms16_0 := NB510_502.out
  have hms16_1 := NB510_503.out
  have hms16_3 := NB510_511.out
  have hs17 : w15.cell? ⟨gb510, 1, none⟩ = some (.int .i64 0) := (blk_cell BK510.out 1).trans rfl
  have hfs17 := blk_frozen BK510.out 1
  have hns17_0 := NB502_510.out
  have hns17_1 := NB503_510.out
  have hns17_3 := NB511_510.out
  have hms17_0 := NB510_502.out
  have hms17_1 := NB510_503.out
  have hms17_3 := NB510_511.out
  have hs18 : w15.cell? ⟨gb510, 2, none⟩ = some (.int .i64 0) := (blk_cell BK510.out 2).trans rfl
  have hfs18 := blk_frozen BK510.out 2
  have hns18_0 := NB502_510.out
  have hns18_1 := NB503_510.out
  have hns18_3 := NB511_510.out
  have hms18_0 := NB510_502.out
  have hms18_1 := NB510_503.out
  have hms18_3 := NB510_511.out
  refine skip_ (w1 := ?_) (by rfl) rfl ?_ ?_
  rotate_left
  · go_simp
    rfl
  refine hK.out _ _ ⟨((cell_far (p := ⟨gb510, _, none⟩) NB502_510.out _).trans (((cell_far (p := ⟨gb510, _, none⟩) NB502_510.out _).trans (((cell_far (p := ⟨gb510, _, none⟩) NB502_510.out _).trans (hHeld.1)))))), ((cell_far (p := ⟨gb510, _, none⟩) NB502_510.out _).trans (((cell_far (p := ⟨gb510, _, none⟩) NB502_510.out _).trans (((cell_far (p := ⟨gb510, _, none⟩) NB502_510.out _).trans (hHeld.2.1)))))), ((cell_far (p := ⟨gb510, _, none⟩) NB502_510.out _).trans (((cell_far (p := ⟨gb510, _, none⟩) NB502_510.out _).trans (((cell_far (p := ⟨gb510, _, none⟩) NB502_510.out _).trans (hHeld.2.2.1)))))), ((cell_far (p := ⟨gb510, _, none⟩) NB503_510.out _).trans (((cell_far (p := ⟨gb510, _, none⟩) NB503_510.out _).trans (((cell_far (p := ⟨gb510, _, none⟩) NB503_510.out _).trans (hHeld.2.2.2.1)))))), ((cell_far (p := ⟨gb510, _, none⟩) NB503_510.out _).trans (((cell_far (p := ⟨gb510, _, none⟩) NB503_510.out _).trans (((cell_far (p := ⟨gb510, _, none⟩) NB503_510.out _).trans (hHeld.2.2.2.2.1)))))), ((cell_far (p := ⟨gb510, _, none⟩) NB503_510.out _).trans (((cell_far (p := ⟨gb510, _, none⟩) NB503_510.out _).trans (((cell_far (p := ⟨gb510, _, none⟩) NB503_510.out _).trans (hHeld.2.2.2.2.2))))))⟩ (fun hHeld => ?_)
  clear hK K
  refine one_ (i := 19) (N := none) (fl 20 20 []) rfl rfl (one_of HT_.out (by kernel_rfl)) (by decide) (fun K hK => ?_)
  have hs19 : w15.cell? ⟨gb511, 0, none⟩ = some (.int .i64 0) := (blk_cell BK511.out 0).trans rfl
  have hfs19 := blk_frozen BK511.out 0
  have hns19_0 := NB502_511.out
  have hns19_1 := NB503_511.out
  have hns19_2 := NB510_511.out
  have hms19_0 := NB511_502.out
  have hms19_1 := NB511_503.out
  have hms19_2 := NB511_510.out
  have hs20 : w15.cell? ⟨gb511, 1, none⟩ = some (.int .i64 0) := (blk_cell BK511.out 1).trans rfl
  have hfs20 := blk_frozen BK511.out 1
  have hns20_0 := NB502_511.out
  have hns20_1 := NB503_511.out
  have hns20_2 := NB510_511.out
  have hms20_0 := NB511_502.out
  have hms20_1 := NB511_503.out
  have hms20_2 := NB511_510.out
  have hs21 : w15.cell? ⟨gb511, 2, none⟩ = some (.int .i64 0) := (blk_cell BK511.out 2).trans rfl
  have hfs21 := blk_frozen BK511.out 2
  have hns21_0 := NB502_511.out
  have hns21_1 := NB503_511.out
  have hns21_2 := NB510_511.out
  have hms21_0 := NB511_502.out
  have hms21_1 := NB511_503.out
  have hms21_2 := NB511_510.out
  refine skip_ (w1 := ?_) (by rfl) rfl ?_ ?_
  rotate_left
  · go_simp
    rfl
  refine hK.out _ _ ⟨((cell_far (p := ⟨gb511, _, none⟩) NB502_511.out _).trans (((cell_far (p := ⟨gb511, _, none⟩) NB502_511.out _).trans (((cell_far (p := ⟨gb511, _, none⟩) NB502_511.out _).trans (hHeld.1)))))), ((cell_far (p := ⟨gb511, _, none⟩) NB502_511.out _).trans (((cell_far (p := ⟨gb511, _, none⟩) NB502_511.out _).trans (((cell_far (p := ⟨gb511, _, none⟩) NB502_511.out _).trans (hHeld.2.1)))))), ((cell_far (p := ⟨gb511, _, none⟩) NB502_511.out _).trans (((cell_far (p := ⟨gb511, _, none⟩) NB502_511.out _).trans (((cell_far (p := ⟨gb511, _, none⟩) NB502_511.out _).trans (hHeld.2.2.1)))))), ((cell_far (p := ⟨gb511, _, none⟩) NB503_511.out _).trans (((cell_far (p := ⟨gb511, _, none⟩) NB503_511.out _).trans (((cell_far (p := ⟨gb511, _, none⟩) NB503_511.out _).trans (hHeld.2.2.2.1)))))), ((cell_far (p := ⟨gb511, _, none⟩) NB503_511.out _).trans (((cell_far (p := ⟨gb511, _, none⟩) NB503_511.out _).trans (((cell_far (p := ⟨gb511, _, none⟩) NB503_511.out _).trans (hHeld.2.2.2.2.1)))))), ((cell_far (p := ⟨gb511, _, none⟩) NB503_511.out _).trans (((cell_far (p := ⟨gb511, _, none⟩) NB503_511.out _).trans (((cell_far (p := ⟨gb511, _, none⟩) NB503_511.out _).trans (hHeld.2.2.2.2.2))))))⟩ (fun hHeld => ?_)
  clear hK K
  refine done_ (done_of HT_.out (by kernel_rfl)) ?_
  have hnb22 := NB510_502.out
  have hnc22 := NB502_510.out
  have hnb23 := NB510_503.out
  have hnc23 := NB503_510.out
  have hnb24 := NB510_511.out
  have hnc24 := NB511_510.out
  have hcz25_0 : w15.cell? ⟨gb510, 0, none⟩ = some (.int .i64 0) := (blk_cell BK510.out 0).trans rfl
  have hcz25_1 : w15.cell? ⟨gb510, 1, none⟩ = some (.int .i64 0) := (blk_cell BK510.out 1).trans rfl
  have hcz25_2 : w15.cell? ⟨gb510, 2, none⟩ = some (.int .i64 0) := (blk_cell BK510.out 2).trans rfl
  have hfz25_0 := blk_frozen BK510.out 0
  have hfz25_1 := blk_frozen BK510.out 1
  have hfz25_2 := blk_frozen BK510.out 2
  go_upto_if 40 with (first | ((with_reducible refine gate_callee (f := 22) rfl ?_); refine goesL_ (some 30) rfl rfl Try.func22 (by kernel_rfl) rfl #[.agg #[.int .i64 t504, .int .i64 t505, .int .i64 t506]] rfl (by (try simp only [List.map_toArray, List.map_cons, List.map_nil]); first | done | rfl | (simp only [List.length_drop, List.length_take]; rfl)) ?_; (with_reducible refine (date_Number.calls k t504 t505 t506 t512 t513 _ A5.out).mono ?_); rintro e w26 ⟨rfl, hb⟩; refine ⟨_, rfl, ?_⟩; replace BK502 := Aside0.mk (blk_below (g := gb502) (o := .cells #[.int .i64 a0_0, .int .i64 a0_1, .int .i64 a0_2] 23 (0, 0)) (by (with_reducible repeat (first | refine blk_drewN ?_ _ | refine blk_drew ?_ | refine blk_alloc ?_ _)); refine blk_far ?_ NB502_511.out _; (with_reducible repeat (first | refine blk_drewN ?_ _ | refine blk_drew ?_ | refine blk_alloc ?_ _)); refine blk_far ?_ NB502_511.out _; (with_reducible repeat (first | refine blk_drewN ?_ _ | refine blk_drew ?_ | refine blk_alloc ?_ _)); refine blk_far ?_ NB502_511.out _; (with_reducible repeat (first | refine blk_drewN ?_ _ | refine blk_drew ?_ | refine blk_alloc ?_ _)); refine blk_far ?_ NB502_510.out _; (with_reducible repeat (first | refine blk_drewN ?_ _ | refine blk_drew ?_ | refine blk_alloc ?_ _)); refine blk_far ?_ NB502_510.out _; (with_reducible repeat (first | refine blk_drewN ?_ _ | refine blk_drew ?_ | refine blk_alloc ?_ _)); refine blk_far ?_ NB502_510.out _; (with_reducible repeat (first | refine blk_drewN ?_ _ | refine blk_drew ?_ | refine blk_alloc ?_ _)); exact BK502.out) hb); replace BK503 := Aside0.mk (blk_below (g := gb503) (o := .cells #[.int .i64 a1_0, .int .i64 a1_1, .int .i64 a1_2] 23 (0, 0)) (by (with_reducible repeat (first | refine blk_drewN ?_ _ | refine blk_drew ?_ | refine blk_alloc ?_ _)); refine blk_far ?_ NB503_511.out _; (with_reducible repeat (first | refine blk_drewN ?_ _ | refine blk_drew ?_ | refine blk_alloc ?_ _)); refine blk_far ?_ NB503_511.out _; (with_reducible repeat (first | refine blk_drewN ?_ _ | refine blk_drew ?_ | refine blk_alloc ?_ _)); refine blk_far ?_ NB503_511.out _; (with_reducible repeat (first | refine blk_drewN ?_ _ | refine blk_drew ?_ | refine blk_alloc ?_ _)); refine blk_far ?_ NB503_510.out _; (with_reducible repeat (first | refine blk_drewN ?_ _ | refine blk_drew ?_ | refine blk_alloc ?_ _)); refine blk_far ?_ NB503_510.out _; (with_reducible repeat (first | refine blk_drewN ?_ _ | refine blk_drew ?_ | refine blk_alloc ?_ _)); refine blk_far ?_ NB503_510.out _; (with_reducible repeat (first | refine blk_drewN ?_ _ | refine blk_drew ?_ | refine blk_alloc ?_ _)); exact BK503.out) hb); replace BK510 := Aside0.mk (blk_below (g := gb510) (o := .cells #[.int .i64 t504, .int .i64 t505, .int .i64 t506] 23 (0, 0)) (by (with_reducible repeat (first | refine blk_drewN ?_ _ | refine blk_drew ?_ | refine blk_alloc ?_ _)); refine blk_far ?_ NB510_511.out _; (with_reducible repeat (first | refine blk_drewN ?_ _ | refine blk_drew ?_ | refine blk_alloc ?_ _)); refine blk_far ?_ NB510_511.out _; (with_reducible repeat (first | refine blk_drewN ?_ _ | refine blk_drew ?_ | refine blk_alloc ?_ _)); refine blk_far ?_ NB510_511.out _; (with_reducible repeat (first | refine blk_drewN ?_ _ | refine blk_drew ?_ | refine blk_alloc ?_ _)); refine blk_put (cs := #[.int .i64 t504, .int .i64 t505, .int .i64 0]) ?_ 2 _ rfl; (with_reducible repeat (first | refine blk_drewN ?_ _ | refine blk_drew ?_ | refine blk_alloc ?_ _)); refine blk_put (cs := #[.int .i64 t504, .int .i64 0, .int .i64 0]) ?_ 1 _ rfl; (with_reducible repeat (first | refine blk_drewN ?_ _ | refine blk_drew ?_ | refine blk_alloc ?_ _)); refine blk_put (cs := #[.int .i64 0, .int .i64 0, .int .i64 0]) ?_ 0 _ rfl; (with_reducible repeat (first | refine blk_drewN ?_ _ | refine blk_drew ?_ | refine blk_alloc ?_ _)); exact BK510.out) hb); replace BK511 := Aside0.mk (blk_below (g := gb511) (o := .cells #[.int .i64 t507, .int .i64 t508, .int .i64 t509] 23 (0, 0)) (by (with_reducible repeat (first | refine blk_drewN ?_ _ | refine blk_drew ?_ | refine blk_alloc ?_ _)); refine blk_put (cs := #[.int .i64 t507, .int .i64 t508, .int .i64 0]) ?_ 2 _ rfl; (with_reducible repeat (first | refine blk_drewN ?_ _ | refine blk_drew ?_ | refine blk_alloc ?_ _)); refine blk_put (cs := #[.int .i64 t507, .int .i64 0, .int .i64 0]) ?_ 1 _ rfl; (with_reducible repeat (first | refine blk_drewN ?_ _ | refine blk_drew ?_ | refine blk_alloc ?_ _)); refine blk_put (cs := #[.int .i64 0, .int .i64 0, .int .i64 0]) ?_ 0 _ rfl; (with_reducible repeat (first | refine blk_drewN ?_ _ | refine blk_drew ?_ | refine blk_alloc ?_ _)); refine blk_far ?_ NB511_510.out _; (with_reducible repeat (first | refine blk_drewN ?_ _ | refine blk_drew ?_ | refine blk_alloc ?_ _)); refine blk_far ?_ NB511_510.out _; (with_reducible repeat (first | refine blk_drewN ?_ _ | refine blk_drew ?_ | refine blk_alloc ?_ _)); refine blk_far ?_ NB511_510.out _; (with_reducible repeat (first | refine blk_drewN ?_ _ | refine blk_drew ?_ | refine blk_alloc ?_ _)); exact BK511.out) hb); replace HB := Aside0.mk (below_step (by repeat (first | (with_reducible first | exact HB.out | apply below_alloc | apply pw_below_drewN | apply below_drew1 | refine below_set ?_ GE502.out | refine below_set ?_ GE503.out | refine below_set ?_ GE510.out | refine below_set ?_ GE511.out) | exact HB.out)) hb); (try clear hb); (try clear hb2); (try clear hk); (try clear hi); have hnb27 := NB511_502.out; have hnc27 := NB502_511.out; have hnb28 := NB511_503.out; have hnc28 := NB503_511.out; have hcz29_0 : w26.cell? ⟨gb511, 0, none⟩ = some (.int .i64 t507) := (blk_cell BK511.out 0).trans rfl; have hcz29_1 : w26.cell? ⟨gb511, 1, none⟩ = some (.int .i64 t508) := (blk_cell BK511.out 1).trans rfl; have hcz29_2 : w26.cell? ⟨gb511, 2, none⟩ = some (.int .i64 t509) := (blk_cell BK511.out 2).trans rfl; have hfz29_0 := blk_frozen BK511.out 0; have hfz29_1 := blk_frozen BK511.out 1; have hfz29_2 := blk_frozen BK511.out 2) | ((with_reducible refine gate_callee (f := 22) rfl ?_); refine goesL_ (some 35) rfl rfl Try.func22 (by kernel_rfl) rfl #[.agg #[.int .i64 t507, .int .i64 t508, .int .i64 t509]] rfl (by (try simp only [List.map_toArray, List.map_cons, List.map_nil]); first | done | rfl | (simp only [List.length_drop, List.length_take]; rfl)) ?_; (with_reducible refine (date_Number.calls k t507 t508 t509 t514 t515 _ A6.out).mono ?_); rintro e w30 ⟨rfl, hb⟩; refine ⟨_, rfl, ?_⟩; replace BK502 := Aside0.mk (bb BK502.out hb); replace BK503 := Aside0.mk (bb BK503.out hb); replace BK510 := Aside0.mk (bb BK510.out hb); replace BK511 := Aside0.mk (bb BK511.out hb); replace HB := Aside0.mk (bs HB.out hb); (try clear hb); (try clear hb2); (try clear hk); (try clear hi)))
  (try simp only [Act.put, List.setIfInBounds_toArray, List.set_cons_zero, List.set_cons_succ])
  go_cut [11] (fun v11 wc => ∃ (kq : Nat) (x11_6 : Int), v11 = .int .i64 x11_6 ∧ Aside0 (chattellaw09_DateOrder.j0 kq t512 t514 x11_6 a0_0 a0_1 a0_2 a1_0 a1_1 a1_2 t504 t505 t506 t507 t508 t509 = some r) ∧ Aside0 (kq ≤ k) ∧ Aside0 (wc.heap[gb502]? = some (.cells #[.int .i64 a0_0, .int .i64 a0_1, .int .i64 a0_2] 23 (0, 0))) ∧ Aside0 (wc.heap[gb503]? = some (.cells #[.int .i64 a1_0, .int .i64 a1_1, .int .i64 a1_2] 23 (0, 0))) ∧ Aside0 (wc.heap[gb510]? = some (.cells #[.int .i64 t504, .int .i64 t505, .int .i64 t506] 23 (0, 0))) ∧ Aside0 (wc.heap[gb511]? = some (.cells #[.int .i64 t507, .int .i64 t508, .int .i64 t509] 23 (0, 0))) ∧ Aside0 (Below w.heap.size w wc))
  case first =>
    have H := HC7.out
    clear HC7
    by_cases c31 : t512 < t514
    · rw [if_pos c31] at H
      have c31b0 : decide (t512 < t514) = true := decide_eq_true c31
      clear c31
      (first | rw [c31b0] | (simp only [i64_w, i32_w]; rw [c31b0]) | skip)
      have H' := Aside0.mk H
      clear H
      go_wp2
      (refine Met.intro ?_; go_step; (repeat apply Exists.intro); refine ⟨?rel, ?frame⟩)
      case frame => first | rfl | (rw [c31b0]; first | done | rfl) | (simp only [c31b0]; first | done | rfl)
      case rel => exact ⟨_, ((-1)), (by first | rfl | (simp; done) | (simp [*]; done)), H', ⟨by first | omega | exact Nat.le_refl _⟩, ⟨by (with_reducible repeat (first | refine blk_drewN ?_ _ | refine blk_drew ?_ | refine blk_alloc ?_ _)); exact BK502.out⟩, ⟨by (with_reducible repeat (first | refine blk_drewN ?_ _ | refine blk_drew ?_ | refine blk_alloc ?_ _)); exact BK503.out⟩, ⟨by (with_reducible repeat (first | refine blk_drewN ?_ _ | refine blk_drew ?_ | refine blk_alloc ?_ _)); exact BK510.out⟩, ⟨by (with_reducible repeat (first | refine blk_drewN ?_ _ | refine blk_drew ?_ | refine blk_alloc ?_ _)); exact BK511.out⟩, ⟨by repeat (first | (with_reducible first | exact HB.out | apply below_alloc | apply pw_below_drewN | apply below_drew1 | refine below_set ?_ GE502.out | refine below_set ?_ GE503.out | refine below_set ?_ GE510.out | refine below_set ?_ GE511.out) | exact HB.out)⟩⟩
    · rw [if_neg c31] at H
      have c31b0 : decide (t512 < t514) = false := decide_eq_false c31
      clear c31
      (first | rw [c31b0] | (simp only [i64_w, i32_w]; rw [c31b0]) | skip)
      have H' := Aside0.mk H
      clear H
      go_wp2
      (refine Met.intro ?_; go_step; (repeat apply Exists.intro); refine ⟨?rel, ?frame⟩)
      case frame => first | rfl | (rw [c31b0]; first | done | rfl) | (simp only [c31b0]; first | done | rfl)
      case rel => exact ⟨_, (0), (by first | rfl | (simp; done) | (simp [*]; done)), H', ⟨by first | omega | exact Nat.le_refl _⟩, ⟨by (with_reducible repeat (first | refine blk_drewN ?_ _ | refine blk_drew ?_ | refine blk_alloc ?_ _)); exact BK502.out⟩, ⟨by (with_reducible repeat (first | refine blk_drewN ?_ _ | refine blk_drew ?_ | refine blk_alloc ?_ _)); exact BK503.out⟩, ⟨by (with_reducible repeat (first | refine blk_drewN ?_ _ | refine blk_drew ?_ | refine blk_alloc ?_ _)); exact BK510.out⟩, ⟨by (with_reducible repeat (first | refine blk_drewN ?_ _ | refine blk_drew ?_ | refine blk_alloc ?_ _)); exact BK511.out⟩, ⟨by repeat (first | (with_reducible first | exact HB.out | apply below_alloc | apply pw_below_drewN | apply below_drew1 | refine below_set ?_ GE502.out | refine below_set ?_ GE503.out | refine below_set ?_ GE510.out | refine below_set ?_ GE511.out) | exact HB.out)⟩⟩
  case rest =>
    clear HC7
    try clear c1
    try clear c2
    try clear p2
    try clear c3
    try clear c12
    try clear c22
    try clear c23
    try clear c24
    try clear c27
    try clear c28
    try clear c31
    try clear c31b0
    try clear hcz25_0
    try clear hcz25_1
    try clear hcz25_2
    try clear hcz29_0
    try clear hcz29_1
    try clear hcz29_2
    try clear hfz25_0
    try clear hfz25_1
    try clear hfz25_2
    try clear hfz29_0
    try clear hfz29_1
    try clear hfz29_2
    obtain ⟨kq, x11_6, rfl, HA, HJ6, BK502, BK503, BK510, BK511, HB⟩ := hcut
    cases kq with
    | zero => exact absurd HA.out (by simp [chattellaw09_DateOrder.j0])
    | succ kj6 =>
      have H := HA.out
      clear HA
      simp only [chattellaw09_DateOrder.j0] at H
      have HC32 := Aside0.mk H
      clear H
      go_upto_if 43 with (fail)
      go_cut [11] (fun v11 wc => ∃ (kq : Nat) (x11_31 : Int), v11 = .int .i64 x11_31 ∧ Aside0 (chattellaw09_DateOrder.j1 kq x11_31 a0_0 a0_1 a0_2 a1_0 a1_1 a1_2 t504 t505 t506 t507 t508 t509 = some r) ∧ Aside0 (kq ≤ kj6) ∧ Aside0 (wc.heap[gb502]? = some (.cells #[.int .i64 a0_0, .int .i64 a0_1, .int .i64 a0_2] 23 (0, 0))) ∧ Aside0 (wc.heap[gb503]? = some (.cells #[.int .i64 a1_0, .int .i64 a1_1, .int .i64 a1_2] 23 (0, 0))) ∧ Aside0 (wc.heap[gb510]? = some (.cells #[.int .i64 t504, .int .i64 t505, .int .i64 t506] 23 (0, 0))) ∧ Aside0 (wc.heap[gb511]? = some (.cells #[.int .i64 t507, .int .i64 t508, .int .i64 t509] 23 (0, 0))) ∧ Aside0 (Below w.heap.size w wc))
      case first =>
        have H := HC32.out
        clear HC32
        by_cases c33 : t512 > t514
        · rw [if_pos c33] at H
          have c33b0 : decide (t514 < t512) = true := decide_eq_true c33
          clear c33
          (first | rw [c33b0] | (simp only [i64_w, i32_w]; rw [c33b0]) | skip)
          have H' := Aside0.mk H
          clear H
          go_wp2
          (refine Met.intro ?_; go_step; (repeat apply Exists.intro); refine ⟨?rel, ?frame⟩)
          case frame => first | rfl | (rw [c33b0]; first | done | rfl) | (simp only [c33b0]; first | done | rfl)
          case rel => exact ⟨_, (1), (by first | rfl | (simp; done) | (simp [*]; done)), H', ⟨by have := HJ6.out; first | omega | exact Nat.le_refl _⟩, ⟨by (with_reducible repeat (first | refine blk_drewN ?_ _ | refine blk_drew ?_ | refine blk_alloc ?_ _)); exact BK502.out⟩, ⟨by (with_reducible repeat (first | refine blk_drewN ?_ _ | refine blk_drew ?_ | refine blk_alloc ?_ _)); exact BK503.out⟩, ⟨by (with_reducible repeat (first | refine blk_drewN ?_ _ | refine blk_drew ?_ | refine blk_alloc ?_ _)); exact BK510.out⟩, ⟨by (with_reducible repeat (first | refine blk_drewN ?_ _ | refine blk_drew ?_ | refine blk_alloc ?_ _)); exact BK511.out⟩, ⟨by repeat (first | (with_reducible first | exact HB.out | apply below_alloc | apply pw_below_drewN | apply below_drew1 | refine below_set ?_ GE502.out | refine below_set ?_ GE503.out | refine below_set ?_ GE510.out | refine below_set ?_ GE511.out) | exact HB.out)⟩⟩
        · rw [if_neg c33] at H
          have c33b0 : decide (t514 < t512) = false := decide_eq_false c33
          clear c33
          (first | rw [c33b0] | (simp only [i64_w, i32_w]; rw [c33b0]) | skip)
          have H' := Aside0.mk H
          clear H
          go_wp2
          (refine Met.intro ?_; go_step; (repeat apply Exists.intro); refine ⟨?rel, ?frame⟩)
          case frame => first | rfl | (rw [c33b0]; first | done | rfl) | (simp only [c33b0]; first | done | rfl)
          case rel => exact ⟨_, (x11_6), (by first | rfl | (simp; done) | (simp [*]; done)), H', ⟨by have := HJ6.out; first | omega | exact Nat.le_refl _⟩, ⟨by (with_reducible repeat (first | refine blk_drewN ?_ _ | refine blk_drew ?_ | refine blk_alloc ?_ _)); exact BK502.out⟩, ⟨by (with_reducible repeat (first | refine blk_drewN ?_ _ | refine blk_drew ?_ | refine blk_alloc ?_ _)); exact BK503.out⟩, ⟨by (with_reducible repeat (first | refine blk_drewN ?_ _ | refine blk_drew ?_ | refine blk_alloc ?_ _)); exact BK510.out⟩, ⟨by (with_reducible repeat (first | refine blk_drewN ?_ _ | refine blk_drew ?_ | refine blk_alloc ?_ _)); exact BK511.out⟩, ⟨by repeat (first | (with_reducible first | exact HB.out | apply below_alloc | apply pw_below_drewN | apply below_drew1 | refine below_set ?_ GE502.out | refine below_set ?_ GE503.out | refine below_set ?_ GE510.out | refine below_set ?_ GE511.out) | exact HB.out)⟩⟩
      case rest =>
        clear HC32
        try clear c1
        try clear c2
        try clear p2
        try clear c3
        try clear c12
        try clear c22
        try clear c23
        try clear c24
        try clear c27
        try clear c28
        try clear c31
        try clear c31b0
        try clear c33
        try clear c33b0
        try clear hcz25_0
        try clear hcz25_1
        try clear hcz25_2
        try clear hcz29_0
        try clear hcz29_1
        try clear hcz29_2
        try clear hfz25_0
        try clear hfz25_1
        try clear hfz25_2
        try clear hfz29_0
        try clear hfz29_1
        try clear hfz29_2
        try clear p2
        obtain ⟨kq, x11_31, rfl, HA, HJ31, BK502, BK503, BK510, BK511, HB⟩ := hcut
        cases kq with
        | zero => exact absurd HA.out (by simp [chattellaw09_DateOrder.j1])
        | succ kj31 =>
          have H := HA.out
          clear HA
          simp only [chattellaw09_DateOrder.j1] at H
          replace H := Option.bind_eq_some_iff.mp H
          obtain ⟨t516, A340, H⟩ := H
          replace H : (if t516 = true then ((date_Cmp.f kj31 a0_0 a0_1 a0_2 a1_0 a1_1 a1_2).bind fun t517 => ((chattelref09_Cmp.f kj31 a0_0 a0_1 a0_2 a1_0 a1_1 a1_2).bind fun t518 => (if t517 = t518 then ((date_Cmp.f kj31 t504 t505 t506 t507 t508 t509).bind fun t519 => (if t519 = x11_31 then ((date_Cmp.f kj31 a1_0 a1_1 a1_2 a0_0 a0_1 a0_2).bind fun t520 => ((date_Cmp.f kj31 a0_0 a0_1 a0_2 a1_0 a1_1 a1_2).bind fun t521 => (if t520 = (wrap64 (-t521)) then ((date_Cmp.f kj31 a0_0 a0_1 a0_2 a0_0 a0_1 a0_2).bind fun t522 => (some (t522 == 0))) else (some false)))) else (some false))) else (some false)))) else (some false)) = some r := H
          have A34 := Aside0.mk A340
          clear A340
          by_cases c35 : t516 = true
          · subst c35
            have H1 : ((date_Cmp.f kj31 a0_0 a0_1 a0_2 a1_0 a1_1 a1_2).bind fun t517 => ((chattelref09_Cmp.f kj31 a0_0 a0_1 a0_2 a1_0 a1_1 a1_2).bind fun t518 => (if t517 = t518 then ((date_Cmp.f kj31 t504 t505 t506 t507 t508 t509).bind fun t519 => (if t519 = x11_31 then ((date_Cmp.f kj31 a1_0 a1_1 a1_2 a0_0 a0_1 a0_2).bind fun t520 => ((date_Cmp.f kj31 a0_0 a0_1 a0_2 a1_0 a1_1 a1_2).bind fun t521 => (if t520 = (wrap64 (-t521)) then ((date_Cmp.f kj31 a0_0 a0_1 a0_2 a0_0 a0_1 a0_2).bind fun t522 => (some (t522 == 0))) else (some false)))) else (some false))) else (some false)))) = some r := by rw [if_pos rfl] at H; exact H
            clear H
            have H := H1
            clear H1
            replace H := Option.bind_eq_some_iff.mp H
            obtain ⟨t517, A360, H⟩ := H
            replace H : ((chattelref09_Cmp.f kj31 a0_0 a0_1 a0_2 a1_0 a1_1 a1_2).bind fun t518 => (if t517 = t518 then ((date_Cmp.f kj31 t504 t505 t506 t507 t508 t509).bind fun t519 => (if t519 = x11_31 then ((date_Cmp.f kj31 a1_0 a1_1 a1_2 a0_0 a0_1 a0_2).bind fun t520 => ((date_Cmp.f kj31 a0_0 a0_1 a0_2 a1_0 a1_1 a1_2).bind fun t521 => (if t520 = (wrap64 (-t521)) then ((date_Cmp.f kj31 a0_0 a0_1 a0_2 a0_0 a0_1 a0_2).bind fun t522 => (some (t522 == 0))) else (some false)))) else (some false))) else (some false))) = some r := H
            have A36 := Aside0.mk A360
            clear A360
            replace H := Option.bind_eq_some_iff.mp H
            obtain ⟨t518, A370, H⟩ := H
            replace H : (if t517 = t518 then ((date_Cmp.f kj31 t504 t505 t506 t507 t508 t509).bind fun t519 => (if t519 = x11_31 then ((date_Cmp.f kj31 a1_0 a1_1 a1_2 a0_0 a0_1 a0_2).bind fun t520 => ((date_Cmp.f kj31 a0_0 a0_1 a0_2 a1_0 a1_1 a1_2).bind fun t521 => (if t520 = (wrap64 (-t521)) then ((date_Cmp.f kj31 a0_0 a0_1 a0_2 a0_0 a0_1 a0_2).bind fun t522 => (some (t522 == 0))) else (some false)))) else (some false))) else (some false)) = some r := H
            have A37 := Aside0.mk A370
            clear A370
            by_cases c38 : t517 = t518
            rotate_left
            · rw [if_neg c38] at H
              have c38b0 : (t517 == t518) = false := beq_eq_false_iff_ne.mpr c38
              have c38b1 : (t517 != t518) = true := bne_iff_ne.mpr c38
              exact absurd (Option.some.inj H) (by rw [ht_]; decide)
            rw [if_pos c38] at H
            have c38b0 : (t517 == t518) = true := beq_iff_eq.mpr c38
            have c38b1 : (t517 != t518) = false := bne_eq_false_iff_eq.mpr c38
            clear c38
            replace H := Option.bind_eq_some_iff.mp H
            obtain ⟨t519, A390, H⟩ := H
            replace H : (if t519 = x11_31 then ((date_Cmp.f kj31 a1_0 a1_1 a1_2 a0_0 a0_1 a0_2).bind fun t520 => ((date_Cmp.f kj31 a0_0 a0_1 a0_2 a1_0 a1_1 a1_2).bind fun t521 => (if t520 = (wrap64 (-t521)) then ((date_Cmp.f kj31 a0_0 a0_1 a0_2 a0_0 a0_1 a0_2).bind fun t522 => (some (t522 == 0))) else (some false)))) else (some false)) = some r := H
            have A39 := Aside0.mk A390
            clear A390
            by_cases c40 : t519 = x11_31
            rotate_left
            · rw [if_neg c40] at H
              have c40b0 : (t519 == x11_31) = false := beq_eq_false_iff_ne.mpr c40
              have c40b1 : (t519 != x11_31) = true := bne_iff_ne.mpr c40
              exact absurd (Option.some.inj H) (by rw [ht_]; decide)
            rw [if_pos c40] at H
            have c40b0 : (t519 == x11_31) = true := beq_iff_eq.mpr c40
            have c40b1 : (t519 != x11_31) = false := bne_eq_false_iff_eq.mpr c40
            clear c40
            replace H := Option.bind_eq_some_iff.mp H
            obtain ⟨t520, A410, H⟩ := H
            replace H : ((date_Cmp.f kj31 a0_0 a0_1 a0_2 a1_0 a1_1 a1_2).bind fun t521 => (if t520 = (wrap64 (-t521)) then ((date_Cmp.f kj31 a0_0 a0_1 a0_2 a0_0 a0_1 a0_2).bind fun t522 => (some (t522 == 0))) else (some false))) = some r := H
            have A41 := Aside0.mk A410
            clear A410
            replace H := Option.bind_eq_some_iff.mp H
            obtain ⟨t521, A420, H⟩ := H
            replace H : (if t520 = (wrap64 (-t521)) then ((date_Cmp.f kj31 a0_0 a0_1 a0_2 a0_0 a0_1 a0_2).bind fun t522 => (some (t522 == 0))) else (some false)) = some r := H
            have A42 := Aside0.mk A420
            clear A420
            by_cases c43 : t520 = (wrap64 (-t521))
            rotate_left
            · rw [if_neg c43] at H
              have c43b0 : (t520 == (wrap64 (-t521))) = false := beq_eq_false_iff_ne.mpr c43
              have c43b1 : (t520 != (wrap64 (-t521))) = true := bne_iff_ne.mpr c43
              exact absurd (Option.some.inj H) (by rw [ht_]; decide)
            rw [if_pos c43] at H
            have c43b0 : (t520 == (wrap64 (-t521))) = true := beq_iff_eq.mpr c43
            have c43b1 : (t520 != (wrap64 (-t521))) = false := bne_eq_false_iff_eq.mpr c43
            clear c43
            replace H := Option.bind_eq_some_iff.mp H
            obtain ⟨t522, A440, H⟩ := H
            replace H : (some (t522 == 0)) = some r := H
            have A44 := Aside0.mk A440
            clear A440
            obtain rfl := Option.some.inj H
            try go_wp2
            replace BK502 := Aside0.mk (blk_drew BK502.out)
            replace BK503 := Aside0.mk (blk_drew BK503.out)
            replace BK510 := Aside0.mk (blk_drew BK510.out)
            replace BK511 := Aside0.mk (blk_drew BK511.out)
            replace HB := Aside0.mk (below_drew1 HB.out)
            refine start_ (n := 34) (S := fun w' => w'.cell? ⟨gb502, 0, none⟩ = some (.int .i64 a0_0) ∧ w'.cell? ⟨gb502, 1, none⟩ = some (.int .i64 a0_1) ∧ w'.cell? ⟨gb502, 2, none⟩ = some (.int .i64 a0_2) ∧ w'.cell? ⟨gb503, 0, none⟩ = some (.int .i64 a1_0) ∧ w'.cell? ⟨gb503, 1, none⟩ = some (.int .i64 a1_1) ∧ w'.cell? ⟨gb503, 2, none⟩ = some (.int .i64 a1_2) ∧ w'.cell? ⟨gb510, 0, none⟩ = some (.int .i64 t504) ∧ w'.cell? ⟨gb510, 1, none⟩ = some (.int .i64 t505) ∧ w'.cell? ⟨gb510, 2, none⟩ = some (.int .i64 t506) ∧ w'.cell? ⟨gb511, 0, none⟩ = some (.int .i64 t507) ∧ w'.cell? ⟨gb511, 1, none⟩ = some (.int .i64 t508) ∧ w'.cell? ⟨gb511, 2, none⟩ = some (.int .i64 t509)) (ds := []) (fl 0 34 []) (by kernel_rfl) rfl rfl ⟨(blk_cell BK502.out 0).trans rfl, (blk_cell BK502.out 1).trans rfl, (blk_cell BK502.out 2).trans rfl, (blk_cell BK503.out 0).trans rfl, (blk_cell BK503.out 1).trans rfl, (blk_cell BK503.out 2).trans rfl, (blk_cell BK510.out 0).trans rfl, (blk_cell BK510.out 1).trans rfl, (blk_cell BK510.out 2).trans rfl, (blk_cell BK511.out 0).trans rfl, (blk_cell BK511.out 1).trans rfl, (blk_cell BK511.out 2).trans rfl⟩ (fun hHeld => ?_); refine with_tabW chattellaw09_DateOrder.tab9 chattellaw09_DateOrder.bits9 (fun HT_ HW_ => ?_)
            generalize wc.drew = w45 at BK502 BK503 BK510 BK511 HB hHeld ⊢
            refine one_ (i := 0) (N := some 44) (fl 1 34 []) rfl rfl (one_of HT_.out (by kernel_rfl)) (by decide) (fun K hK => ?_)
            refine goes_ Try.func32 (by kernel_rfl) rfl #[] (by rfl) rfl rfl (by (try simp only [List.map_toArray, List.map_cons, List.map_nil]); first | done | rfl | (simp only [List.length_drop, List.length_take]; rfl)) ?_
            with_reducible refine (chattellaw09_wakes.calls kj31  true _ A34.out).mono ?_
            rintro e w46 ⟨rfl, hb⟩
            refine ⟨_, rfl, ?_⟩
            replace BK502 := Aside0.mk (bb BK502.out hb)
            replace BK503 := Aside0.mk (bb BK503.out hb)
            replace BK510 := Aside0.mk (bb BK510.out hb)
            replace BK511 := Aside0.mk (bb BK511.out hb)
            replace HB := Aside0.mk (bs HB.out hb)
            (try clear hb)
            (try clear hb2)
            (try clear hk)
            (try clear hi)
            refine hK.out _ _ ⟨(blk_cell BK502.out 0).trans rfl, (blk_cell BK502.out 1).trans rfl, (blk_cell BK502.out 2).trans rfl, (blk_cell BK503.out 0).trans rfl, (blk_cell BK503.out 1).trans rfl, (blk_cell BK503.out 2).trans rfl, (blk_cell BK510.out 0).trans rfl, (blk_cell BK510.out 1).trans rfl, (blk_cell BK510.out 2).trans rfl, (blk_cell BK511.out 0).trans rfl, (blk_cell BK511.out 1).trans rfl, (blk_cell BK511.out 2).trans rfl⟩ (fun hHeld => ?_)
            clear hK K
            refine norm_ (a' := ?_) ?_ ?_
            rotate_left
            · show Act.put _ (some 44) _ = _
              simp only [Act.put, List.setIfInBounds_toArray, List.set_cons_zero, List.set_cons_succ, i64_w, i32_w]
              rfl
            refine pure_ (i := 1) (N := some 45) (v := ?_) (a' := ?_) (fl 2 34 []) rfl rfl (any_of HT_.out (by kernel_rfl)) (fun _ _ _ h => h) (Or.inl ⟨by rfl, ?_⟩) ?_ ?_
            rotate_left
            · intro w'
              go_simp
              with_reducible rfl
            rotate_left
            · simp only [Act.put, List.setIfInBounds_toArray, List.set_cons_zero, List.set_cons_succ, i64_w, i32_w]
              rfl
            refine take_ (i := 2) (N := some 46) (v := ?_) (a' := ?_) (fl 3 34 []) rfl rfl (take_ofW HT_.out HW_.out (by kernel_rfl)) (fun _ _ _ h => h) (Or.inl ⟨by rfl, ?_⟩) hHeld ?_ ?_
            rotate_left
            · rintro w' ⟨s0, s1, s2, s3, s4, s5, s6, s7, s8, s9, s10, s11⟩
              go_simp
              with_reducible rfl
            rotate_left
            · simp only [Act.put, List.setIfInBounds_toArray, List.set_cons_zero, List.set_cons_succ, i64_w, i32_w]
              rfl
            refine take_ (i := 3) (N := some 47) (v := ?_) (a' := ?_) (fl 4 34 []) rfl rfl (take_ofW HT_.out HW_.out (by kernel_rfl)) (fun _ _ _ h => h) (Or.inl ⟨by rfl, ?_⟩) hHeld ?_ ?_
            rotate_left
            · rintro w' ⟨s0, s1, s2, s3, s4, s5, s6, s7, s8, s9, s10, s11⟩
              go_simp
              with_reducible rfl
            rotate_left
            · simp only [Act.put, List.setIfInBounds_toArray, List.set_cons_zero, List.set_cons_succ, i64_w, i32_w]
              rfl
            refine take_ (i := 5) (N := some 49) (v := ?_) (a' := ?_) (fl 4 34 [5]) rfl rfl (take_ofW HT_.out HW_.out (by kernel_rfl)) (fun _ _ _ h => h) (Or.inl ⟨by rfl, ?_⟩) hHeld ?_ ?_
            rotate_left
            · rintro w' ⟨s0, s1, s2, s3, s4, s5, s6, s7, s8, s9, s10, s11⟩
              go_simp
              with_reducible rfl
            rotate_left
            · simp only [Act.put, List.setIfInBounds_toArray, List.set_cons_zero, List.set_cons_succ, i64_w, i32_w]
              rfl
            refine take_ (i := 6) (N := some 50) (v := ?_) (a' := ?_) (fl 4 34 [5, 6]) rfl rfl (take_ofW HT_.out HW_.out (by kernel_rfl)) (fun _ _ _ h => h) (Or.inl ⟨by rfl, ?_⟩) hHeld ?_ ?_
            rotate_left
            · rintro w' ⟨s0, s1, s2, s3, s4, s5, s6, s7, s8, s9, s10, s11⟩
              go_simp
              with_reducible rfl
            rotate_left
            · simp only [Act.put, List.setIfInBounds_toArray, List.set_cons_zero, List.set_cons_succ, i64_w, i32_w]
              rfl
            refine one_ (i := 4) (N := some 48) (fl 7 34 []) rfl rfl (one_of HT_.out (by kernel_rfl)) (by decide) (fun K hK => ?_)
            refine goes_ Try.func19 (by kernel_rfl) rfl #[.agg #[.int .i64 a0_0, .int .i64 a0_1, .int .i64 a0_2], .agg #[.int .i64 a1_0, .int .i64 a1_1, .int .i64 a1_2]] (by rfl) rfl rfl (by (try simp only [List.map_toArray, List.map_cons, List.map_nil]); first | done | rfl | (simp only [List.length_drop, List.length_take]; rfl)) ?_
            with_reducible refine (date_Cmp.calls kj31 a0_0 a0_1 a0_2 a1_0 a1_1 a1_2 t517 _ A36.out).mono ?_
            rintro e w47 ⟨rfl, hb⟩
            refine ⟨_, rfl, ?_⟩
            replace BK502 := Aside0.mk (bb BK502.out hb)
            replace BK503 := Aside0.mk (bb BK503.out hb)
            replace BK510 := Aside0.mk (bb BK510.out hb)
            replace BK511 := Aside0.mk (bb BK511.out hb)
            replace HB := Aside0.mk (bs HB.out hb)
            (try clear hb)
            (try clear hb2)
            (try clear hk)
            (try clear hi)
            refine hK.out _ _ ⟨(blk_cell BK502.out 0).trans rfl, (blk_cell BK502.out 1).trans rfl, (blk_cell BK502.out 2).trans rfl, (blk_cell BK503.out 0).trans rfl, (blk_cell BK503.out 1).trans rfl, (blk_cell BK503.out 2).trans rfl, (blk_cell BK510.out 0).trans rfl, (blk_cell BK510.out 1).trans rfl, (blk_cell BK510.out 2).trans rfl, (blk_cell BK511.out 0).trans rfl, (blk_cell BK511.out 1).trans rfl, (blk_cell BK511.out 2).trans rfl⟩ (fun hHeld => ?_)
            clear hK K
            refine norm_ (a' := ?_) ?_ ?_
            rotate_left
            · show Act.put _ (some 48) _ = _
              simp only [Act.put, List.setIfInBounds_toArray, List.set_cons_zero, List.set_cons_succ, i64_w, i32_w]
              rfl
            refine one_ (i := 7) (N := some 51) (fl 8 34 []) rfl rfl (one_of HT_.out (by kernel_rfl)) (by decide) (fun K hK => ?_)
            refine goes_ Try.func39 (by kernel_rfl) rfl #[.agg #[.int .i64 a0_0, .int .i64 a0_1, .int .i64 a0_2], .agg #[.int .i64 a1_0, .int .i64 a1_1, .int .i64 a1_2]] (by rfl) rfl rfl (by (try simp only [List.map_toArray, List.map_cons, List.map_nil]); first | done | rfl | (simp only [List.length_drop, List.length_take]; rfl)) ?_
            with_reducible refine (chattelref09_Cmp.calls kj31 a0_0 a0_1 a0_2 a1_0 a1_1 a1_2 t518 _ A37.out).mono ?_
            rintro e w48 ⟨rfl, hb⟩
            refine ⟨_, rfl, ?_⟩
            replace BK502 := Aside0.mk (bb BK502.out hb)
            replace BK503 := Aside0.mk (bb BK503.out hb)
            replace BK510 := Aside0.mk (bb BK510.out hb)
            replace BK511 := Aside0.mk (bb BK511.out hb)
            replace HB := Aside0.mk (bs HB.out hb)
            (try clear hb)
            (try clear hb2)
            (try clear hk)
            (try clear hi)
            refine hK.out _ _ ⟨(blk_cell BK502.out 0).trans rfl, (blk_cell BK502.out 1).trans rfl, (blk_cell BK502.out 2).trans rfl, (blk_cell BK503.out 0).trans rfl, (blk_cell BK503.out 1).trans rfl, (blk_cell BK503.out 2).trans rfl, (blk_cell BK510.out 0).trans rfl, (blk_cell BK510.out 1).trans rfl, (blk_cell BK510.out 2).trans rfl, (blk_cell BK511.out 0).trans rfl, (blk_cell BK511.out 1).trans rfl, (blk_cell BK511.out 2).trans rfl⟩ (fun hHeld => ?_)
            clear hK K
            refine norm_ (a' := ?_) ?_ ?_
            rotate_left
            · show Act.put _ (some 51) _ = _
              simp only [Act.put, List.setIfInBounds_toArray, List.set_cons_zero, List.set_cons_succ, i64_w, i32_w]
              rfl
            refine pure_ (i := 8) (N := some 52) (v := ?_) (a' := ?_) (fl 9 34 []) rfl rfl (any_of HT_.out (by kernel_rfl)) (fun _ _ _ h => h) (Or.inl ⟨by rfl, ?_⟩) ?_ ?_
            rotate_left
            · intro w'
              go_simp
              with_reducible rfl
            rotate_left
            · simp only [Act.put, List.setIfInBounds_toArray, List.set_cons_zero, List.set_cons_succ, i64_w, i32_w]
              rfl
            refine pure_ (i := 9) (N := some 53) (v := ?_) (a' := ?_) (fl 10 34 []) rfl rfl (any_of HT_.out (by kernel_rfl)) (fun _ _ _ h => h) (Or.inl ⟨by rfl, ?_⟩) ?_ ?_
            rotate_left
            · intro w'
              go_simp
              with_reducible rfl
            rotate_left
            · simp only [Act.put, List.setIfInBounds_toArray, List.set_cons_zero, List.set_cons_succ, i64_w, i32_w]
              rfl
            refine pure_ (i := 10) (N := some 54) (v := ?_) (a' := ?_) (fl 11 34 []) rfl rfl (any_of HT_.out (by kernel_rfl)) (fun _ _ _ h => h) (Or.inl ⟨by rfl, ?_⟩) ?_ ?_
            rotate_left
            · intro w'
              go_simp
              with_reducible rfl
            rotate_left
            · simp only [Act.put, List.setIfInBounds_toArray, List.set_cons_zero, List.set_cons_succ, i64_w, i32_w]
              rfl
            refine pure_ (i := 14) (N := some 58) (v := ?_) (a' := ?_) (fl 11 34 [14]) rfl rfl (any_of HT_.out (by kernel_rfl)) (fun _ _ _ h => h) (Or.inl ⟨by rfl, ?_⟩) ?_ ?_
            rotate_left
            · intro w'
              go_simp
              with_reducible rfl
            rotate_left
            · simp only [Act.put, List.setIfInBounds_toArray, List.set_cons_zero, List.set_cons_succ, i64_w, i32_w]
              rfl
            refine take_ (i := 11) (N := some 55) (v := ?_) (a' := ?_) (fl 12 34 [14]) rfl rfl (take_ofW HT_.out HW_.out (by kernel_rfl)) (fun _ _ _ h => h) (Or.inl ⟨by rfl, ?_⟩) hHeld ?_ ?_
            rotate_left
            · rintro w' ⟨s0, s1, s2, s3, s4, s5, s6, s7, s8, s9, s10, s11⟩
              go_simp
              with_reducible rfl
            rotate_left
            · simp only [Act.put, List.setIfInBounds_toArray, List.set_cons_zero, List.set_cons_succ, i64_w, i32_w]
              rfl
            refine take_ (i := 12) (N := some 56) (v := ?_) (a' := ?_) (fl 13 34 [14]) rfl rfl (take_ofW HT_.out HW_.out (by kernel_rfl)) (fun _ _ _ h => h) (Or.inl ⟨by rfl, ?_⟩) hHeld ?_ ?_
            rotate_left
            · rintro w' ⟨s0, s1, s2, s3, s4, s5, s6, s7, s8, s9, s10, s11⟩
              go_simp
              with_reducible rfl
            rotate_left
            · simp only [Act.put, List.setIfInBounds_toArray, List.set_cons_zero, List.set_cons_succ, i64_w, i32_w]
              rfl
            refine one_ (i := 13) (N := some 57) (fl 15 34 []) rfl rfl (one_of HT_.out (by kernel_rfl)) (by decide) (fun K hK => ?_)
            refine goes_ Try.func19 (by kernel_rfl) rfl #[.agg #[.int .i64 t504, .int .i64 t505, .int .i64 t506], .agg #[.int .i64 t507, .int .i64 t508, .int .i64 t509]] (by rfl) rfl rfl (by (try simp only [List.map_toArray, List.map_cons, List.map_nil]); first | done | rfl | (simp only [List.length_drop, List.length_take]; rfl)) ?_
            with_reducible refine (date_Cmp.calls kj31 t504 t505 t506 t507 t508 t509 t519 _ A39.out).mono ?_
            rintro e w49 ⟨rfl, hb⟩
            refine ⟨_, rfl, ?_⟩
            replace BK502 := Aside0.mk (bb BK502.out hb)
            replace BK503 := Aside0.mk (bb BK503.out hb)
            replace BK510 := Aside0.mk (bb BK510.out hb)
            replace BK511 := Aside0.mk (bb BK511.out hb)
            replace HB := Aside0.mk (bs HB.out hb)
            (try clear hb)
            (try clear hb2)
            (try clear hk)
            (try clear hi)
            refine hK.out _ _ ⟨(blk_cell BK502.out 0).trans rfl, (blk_cell BK502.out 1).trans rfl, (blk_cell BK502.out 2).trans rfl, (blk_cell BK503.out 0).trans rfl, (blk_cell BK503.out 1).trans rfl, (blk_cell BK503.out 2).trans rfl, (blk_cell BK510.out 0).trans rfl, (blk_cell BK510.out 1).trans rfl, (blk_cell BK510.out 2).trans rfl, (blk_cell BK511.out 0).trans rfl, (blk_cell BK511.out 1).trans rfl, (blk_cell BK511.out 2).trans rfl⟩ (fun hHeld => ?_)
            clear hK K
            refine norm_ (a' := ?_) ?_ ?_
            rotate_left
            · show Act.put _ (some 57) _ = _
              simp only [Act.put, List.setIfInBounds_toArray, List.set_cons_zero, List.set_cons_succ, i64_w, i32_w]
              rfl
            refine pure_ (i := 15) (N := some 59) (v := ?_) (a' := ?_) (fl 16 34 []) rfl rfl (any_of HT_.out (by kernel_rfl)) (fun _ _ _ h => h) (Or.inl ⟨by rfl, ?_⟩) ?_ ?_
            rotate_left
            · intro w'
              go_simp
              with_reducible rfl
            rotate_left
            · simp only [Act.put, List.setIfInBounds_toArray, List.set_cons_zero, List.set_cons_succ, i64_w, i32_w]
              rfl
            refine pure_ (i := 16) (N := some 60) (v := ?_) (a' := ?_) (fl 17 34 []) rfl rfl (any_of HT_.out (by kernel_rfl)) (fun _ _ _ h => h) (Or.inl ⟨by rfl, ?_⟩) ?_ ?_
            rotate_left
            · intro w'
              go_simp
              with_reducible rfl
            rotate_left
            · simp only [Act.put, List.setIfInBounds_toArray, List.set_cons_zero, List.set_cons_succ, i64_w, i32_w]
              rfl
            refine pure_ (i := 17) (N := some 61) (v := ?_) (a' := ?_) (fl 18 34 []) rfl rfl (any_of HT_.out (by kernel_rfl)) (fun _ _ _ h => h) (Or.inl ⟨by rfl, ?_⟩) ?_ ?_
            rotate_left
            · intro w'
              go_simp
              with_reducible rfl
            rotate_left
            · simp only [Act.put, List.setIfInBounds_toArray, List.set_cons_zero, List.set_cons_succ, i64_w, i32_w]
              rfl
            refine take_ (i := 18) (N := some 62) (v := ?_) (a' := ?_) (fl 19 34 []) rfl rfl (take_ofW HT_.out HW_.out (by kernel_rfl)) (fun _ _ _ h => h) (Or.inl ⟨by rfl, ?_⟩) hHeld ?_ ?_
            rotate_left
            · rintro w' ⟨s0, s1, s2, s3, s4, s5, s6, s7, s8, s9, s10, s11⟩
              go_simp
              with_reducible rfl
            rotate_left
            · simp only [Act.put, List.setIfInBounds_toArray, List.set_cons_zero, List.set_cons_succ, i64_w, i32_w]
              rfl
            refine take_ (i := 19) (N := some 63) (v := ?_) (a' := ?_) (fl 20 34 []) rfl rfl (take_ofW HT_.out HW_.out (by kernel_rfl)) (fun _ _ _ h => h) (Or.inl ⟨by rfl, ?_⟩) hHeld ?_ ?_
            rotate_left
            · rintro w' ⟨s0, s1, s2, s3, s4, s5, s6, s7, s8, s9, s10, s11⟩
              go_simp
              with_reducible rfl
            rotate_left
            · simp only [Act.put, List.setIfInBounds_toArray, List.set_cons_zero, List.set_cons_succ, i64_w, i32_w]
              rfl
            refine take_ (i := 21) (N := some 65) (v := ?_) (a' := ?_) (fl 20 34 [21]) rfl rfl (take_ofW HT_.out HW_.out (by kernel_rfl)) (fun _ _ _ h => h) (Or.inl ⟨by rfl, ?_⟩) hHeld ?_ ?_
            rotate_left
            · rintro w' ⟨s0, s1, s2, s3, s4, s5, s6, s7, s8, s9, s10, s11⟩
              go_simp
              with_reducible rfl
            rotate_left
            · simp only [Act.put, List.setIfInBounds_toArray, List.set_cons_zero, List.set_cons_succ, i64_w, i32_w]
              rfl
            refine take_ (i := 22) (N := some 66) (v := ?_) (a' := ?_) (fl 20 34 [21, 22]) rfl rfl (take_ofW HT_.out HW_.out (by kernel_rfl)) (fun _ _ _ h => h) (Or.inl ⟨by rfl, ?_⟩) hHeld ?_ ?_
            rotate_left
            · rintro w' ⟨s0, s1, s2, s3, s4, s5, s6, s7, s8, s9, s10, s11⟩
              go_simp
              with_reducible rfl
            rotate_left
            · simp only [Act.put, List.setIfInBounds_toArray, List.set_cons_zero, List.set_cons_succ, i64_w, i32_w]
              rfl
            refine one_ (i := 20) (N := some 64) (fl 23 34 []) rfl rfl (one_of HT_.out (by kernel_rfl)) (by decide) (fun K hK => ?_)
            refine goes_ Try.func19 (by kernel_rfl) rfl #[.agg #[.int .i64 a1_0, .int .i64 a1_1, .int .i64 a1_2], .agg #[.int .i64 a0_0, .int .i64 a0_1, .int .i64 a0_2]] (by rfl) rfl rfl (by (try simp only [List.map_toArray, List.map_cons, List.map_nil]); first | done | rfl | (simp only [List.length_drop, List.length_take]; rfl)) ?_
            with_reducible refine (date_Cmp.calls kj31 a1_0 a1_1 a1_2 a0_0 a0_1 a0_2 t520 _ A41.out).mono ?_
            rintro e w50 ⟨rfl, hb⟩
            refine ⟨_, rfl, ?_⟩
            replace BK502 := Aside0.mk (bb BK502.out hb)
            replace BK503 := Aside0.mk (bb BK503.out hb)
            replace BK510 := Aside0.mk (bb BK510.out hb)
            replace BK511 := Aside0.mk (bb BK511.out hb)
            replace HB := Aside0.mk (bs HB.out hb)
            (try clear hb)
            (try clear hb2)
            (try clear hk)
            (try clear hi)
            refine hK.out _ _ ⟨(blk_cell BK502.out 0).trans rfl, (blk_cell BK502.out 1).trans rfl, (blk_cell BK502.out 2).trans rfl, (blk_cell BK503.out 0).trans rfl, (blk_cell BK503.out 1).trans rfl, (blk_cell BK503.out 2).trans rfl, (blk_cell BK510.out 0).trans rfl, (blk_cell BK510.out 1).trans rfl, (blk_cell BK510.out 2).trans rfl, (blk_cell BK511.out 0).trans rfl, (blk_cell BK511.out 1).trans rfl, (blk_cell BK511.out 2).trans rfl⟩ (fun hHeld => ?_)
            clear hK K
            refine norm_ (a' := ?_) ?_ ?_
            rotate_left
            · show Act.put _ (some 64) _ = _
              simp only [Act.put, List.setIfInBounds_toArray, List.set_cons_zero, List.set_cons_succ, i64_w, i32_w]
              rfl
            refine one_ (i := 23) (N := some 67) (fl 24 34 []) rfl rfl (one_of HT_.out (by kernel_rfl)) (by decide) (fun K hK => ?_)
            refine goes_ Try.func19 (by kernel_rfl) rfl #[.agg #[.int .i64 a0_0, .int .i64 a0_1, .int .i64 a0_2], .agg #[.int .i64 a1_0, .int .i64 a1_1, .int .i64 a1_2]] (by rfl) rfl rfl (by (try simp only [List.map_toArray, List.map_cons, List.map_nil]); first | done | rfl | (simp only [List.length_drop, List.length_take]; rfl)) ?_
            with_reducible refine (date_Cmp.calls kj31 a0_0 a0_1 a0_2 a1_0 a1_1 a1_2 t521 _ A42.out).mono ?_
            rintro e w51 ⟨rfl, hb⟩
            refine ⟨_, rfl, ?_⟩
            replace BK502 := Aside0.mk (bb BK502.out hb)
            replace BK503 := Aside0.mk (bb BK503.out hb)
            replace BK510 := Aside0.mk (bb BK510.out hb)
            replace BK511 := Aside0.mk (bb BK511.out hb)
            replace HB := Aside0.mk (bs HB.out hb)
            (try clear hb)
            (try clear hb2)
            (try clear hk)
            (try clear hi)
            refine hK.out _ _ ⟨(blk_cell BK502.out 0).trans rfl, (blk_cell BK502.out 1).trans rfl, (blk_cell BK502.out 2).trans rfl, (blk_cell BK503.out 0).trans rfl, (blk_cell BK503.out 1).trans rfl, (blk_cell BK503.out 2).trans rfl, (blk_cell BK510.out 0).trans rfl, (blk_cell BK510.out 1).trans rfl, (blk_cell BK510.out 2).trans rfl, (blk_cell BK511.out 0).trans rfl, (blk_cell BK511.out 1).trans rfl, (blk_cell BK511.out 2).trans rfl⟩ (fun hHeld => ?_)
            clear hK K
            refine norm_ (a' := ?_) ?_ ?_
            rotate_left
            · show Act.put _ (some 67) _ = _
              simp only [Act.put, List.setIfInBounds_toArray, List.set_cons_zero, List.set_cons_succ, i64_w, i32_w]
              rfl
            refine pure_ (i := 24) (N := some 68) (v := ?_) (a' := ?_) (fl 25 34 []) rfl rfl (any_of HT_.out (by kernel_rfl)) (fun _ _ _ h => h) (Or.inl ⟨by rfl, ?_⟩) ?_ ?_
            rotate_left
            · intro w'
              go_simp
              with_reducible rfl
            rotate_left
            · simp only [Act.put, List.setIfInBounds_toArray, List.set_cons_zero, List.set_cons_succ, i64_w, i32_w]
              rfl
            refine pure_ (i := 25) (N := some 69) (v := ?_) (a' := ?_) (fl 26 34 []) rfl rfl (any_of HT_.out (by kernel_rfl)) (fun _ _ _ h => h) (Or.inl ⟨by rfl, ?_⟩) ?_ ?_
            rotate_left
            · intro w'
              go_simp
              with_reducible rfl
            rotate_left
            · simp only [Act.put, List.setIfInBounds_toArray, List.set_cons_zero, List.set_cons_succ, i64_w, i32_w]
              rfl
            refine pure_ (i := 26) (N := some 70) (v := ?_) (a' := ?_) (fl 27 34 []) rfl rfl (any_of HT_.out (by kernel_rfl)) (fun _ _ _ h => h) (Or.inl ⟨by rfl, ?_⟩) ?_ ?_
            rotate_left
            · intro w'
              go_simp
              with_reducible rfl
            rotate_left
            · simp only [Act.put, List.setIfInBounds_toArray, List.set_cons_zero, List.set_cons_succ, i64_w, i32_w]
              rfl
            refine pure_ (i := 27) (N := some 71) (v := ?_) (a' := ?_) (fl 28 34 []) rfl rfl (any_of HT_.out (by kernel_rfl)) (fun _ _ _ h => h) (Or.inl ⟨by rfl, ?_⟩) ?_ ?_
            rotate_left
            · intro w'
              go_simp
              with_reducible rfl
            rotate_left
            · simp only [Act.put, List.setIfInBounds_toArray, List.set_cons_zero, List.set_cons_succ, i64_w, i32_w]
              rfl
            refine take_ (i := 28) (N := some 72) (v := ?_) (a' := ?_) (fl 29 34 []) rfl rfl (take_ofW HT_.out HW_.out (by kernel_rfl)) (fun _ _ _ h => h) (Or.inl ⟨by rfl, ?_⟩) hHeld ?_ ?_
            rotate_left
            · rintro w' ⟨s0, s1, s2, s3, s4, s5, s6, s7, s8, s9, s10, s11⟩
              go_simp
              with_reducible rfl
            rotate_left
            · simp only [Act.put, List.setIfInBounds_toArray, List.set_cons_zero, List.set_cons_succ, i64_w, i32_w]
              rfl
            refine take_ (i := 29) (N := some 73) (v := ?_) (a' := ?_) (fl 30 34 []) rfl rfl (take_ofW HT_.out HW_.out (by kernel_rfl)) (fun _ _ _ h => h) (Or.inl ⟨by rfl, ?_⟩) hHeld ?_ ?_
            rotate_left
            · rintro w' ⟨s0, s1, s2, s3, s4, s5, s6, s7, s8, s9, s10, s11⟩
              go_simp
              with_reducible rfl
            rotate_left
            · simp only [Act.put, List.setIfInBounds_toArray, List.set_cons_zero, List.set_cons_succ, i64_w, i32_w]
              rfl
            refine one_ (i := 30) (N := some 74) (fl 31 34 []) rfl rfl (one_of HT_.out (by kernel_rfl)) (by decide) (fun K hK => ?_)
            refine goes_ Try.func19 (by kernel_rfl) rfl #[.agg #[.int .i64 a0_0, .int .i64 a0_1, .int .i64 a0_2], .agg #[.int .i64 a0_0, .int .i64 a0_1, .int .i64 a0_2]] (by rfl) rfl rfl (by (try simp only [List.map_toArray, List.map_cons, List.map_nil]); first | done | rfl | (simp only [List.length_drop, List.length_take]; rfl)) ?_
            with_reducible refine (date_Cmp.calls kj31 a0_0 a0_1 a0_2 a0_0 a0_1 a0_2 t522 _ A44.out).mono ?_
            rintro e w52 ⟨rfl, hb⟩
            refine ⟨_, rfl, ?_⟩
            replace BK502 := Aside0.mk (bb BK502.out hb)
            replace BK503 := Aside0.mk (bb BK503.out hb)
            replace BK510 := Aside0.mk (bb BK510.out hb)
            replace BK511 := Aside0.mk (bb BK511.out hb)
            replace HB := Aside0.mk (bs HB.out hb)
            (try clear hb)
            (try clear hb2)
            (try clear hk)
            (try clear hi)
            refine hK.out _ _ ⟨(blk_cell BK502.out 0).trans rfl, (blk_cell BK502.out 1).trans rfl, (blk_cell BK502.out 2).trans rfl, (blk_cell BK503.out 0).trans rfl, (blk_cell BK503.out 1).trans rfl, (blk_cell BK503.out 2).trans rfl, (blk_cell BK510.out 0).trans rfl, (blk_cell BK510.out 1).trans rfl, (blk_cell BK510.out 2).trans rfl, (blk_cell BK511.out 0).trans rfl, (blk_cell BK511.out 1).trans rfl, (blk_cell BK511.out 2).trans rfl⟩ (fun hHeld => ?_)
            clear hK K
            refine norm_ (a' := ?_) ?_ ?_
            rotate_left
            · show Act.put _ (some 74) _ = _
              simp only [Act.put, List.setIfInBounds_toArray, List.set_cons_zero, List.set_cons_succ, i64_w, i32_w]
              rfl
            refine pure_ (i := 31) (N := some 75) (v := ?_) (a' := ?_) (fl 32 34 []) rfl rfl (any_of HT_.out (by kernel_rfl)) (fun _ _ _ h => h) (Or.inl ⟨by rfl, ?_⟩) ?_ ?_
            rotate_left
            · intro w'
              go_simp
              with_reducible rfl
            rotate_left
            · simp only [Act.put, List.setIfInBounds_toArray, List.set_cons_zero, List.set_cons_succ, i64_w, i32_w]
              rfl
            refine pure_ (i := 32) (N := some 76) (v := ?_) (a' := ?_) (fl 33 34 []) rfl rfl (any_of HT_.out (by kernel_rfl)) (fun _ _ _ h => h) (Or.inl ⟨by rfl, ?_⟩) ?_ ?_
            rotate_left
            · intro w'
              go_simp
              with_reducible rfl
            rotate_left
            · simp only [Act.put, List.setIfInBounds_toArray, List.set_cons_zero, List.set_cons_succ, i64_w, i32_w]
              rfl
            refine pure_ (i := 33) (N := some 4) (v := ?_) (a' := ?_) (fl 34 34 []) rfl rfl (any_of HT_.out (by kernel_rfl)) (fun _ _ _ h => h) (Or.inl ⟨by rfl, ?_⟩) ?_ ?_
            rotate_left
            · intro w'
              go_simp
              with_reducible rfl
            rotate_left
            · simp only [Act.put, List.setIfInBounds_toArray, List.set_cons_zero, List.set_cons_succ, i64_w, i32_w]
              rfl
            refine done_ (done_of HT_.out (by kernel_rfl)) ?_
            try go_wp2
            go_ret
            exact ⟨by first | rfl | (simp [errW_none, errW_some] <;> rfl) | (simp [*, errW_none, errW_some] <;> rfl), by repeat (first | (with_reducible first | exact HB.out | apply below_alloc | apply pw_below_drewN | apply below_drew1 | refine below_set ?_ GE502.out | refine below_set ?_ GE503.out | refine below_set ?_ GE510.out | refine below_set ?_ GE511.out) | exact HB.out)⟩
          · replace c35 := Bool.eq_false_iff.mpr c35
            subst c35
            have H1 : (some false) = some r := by rw [if_neg (show ¬ (false = true) by decide)] at H; exact H
            clear H
            have H := H1
            clear H1
            exact absurd (Option.some.inj H) (by rw [ht_]; decide)

/-- THE ONE PURE STATEMENT of chattellaw09_DateOrder: yours. -/
def chattellaw09_DateOrder.Pure : Prop := ∀ (a0_0 : Int) (a0_1 : Int) (a0_2 : Int) (a1_0 : Int) (a1_1 : Int) (a1_2 : Int), (Lit.int .i64 a0_0).wf = true → (Lit.int .i64 a0_1).wf = true → (Lit.int .i64 a0_2).wf = true → (Lit.int .i64 a1_0).wf = true → (Lit.int .i64 a1_1).wf = true → (Lit.int .i64 a1_2).wf = true → ∃ k, chattellaw09_DateOrder.f k a0_0 a0_1 a0_2 a1_0 a1_1 a1_2 = some true
theorem chattellaw09_DateOrder.walk (P : chattellaw09_DateOrder.Pure) (a0_0 : Int) (a0_1 : Int) (a0_2 : Int) (a1_0 : Int) (a1_1 : Int) (a1_2 : Int) (w : World) (w0_0 : (Lit.int .i64 a0_0).wf = true) (w0_1 : (Lit.int .i64 a0_1).wf = true) (w0_2 : (Lit.int .i64 a0_2).wf = true) (w1_0 : (Lit.int .i64 a1_0).wf = true) (w1_1 : (Lit.int .i64 a1_1).wf = true) (w1_2 : (Lit.int .i64 a1_2).wf = true) :
    Calls Try.prog 11 #[.agg #[.int .i64 a0_0, .int .i64 a0_1, .int .i64 a0_2], .agg #[.int .i64 a1_0, .int .i64 a1_1, .int .i64 a1_2]] w fun e w' => e = .returned (.bool true) ∧ Below w.heap.size w w' := by
  obtain ⟨k, h⟩ := P a0_0 a0_1 a0_2 a1_0 a1_1 a1_2 w0_0 w0_1 w0_2 w1_0 w1_1 w1_2
  refine (chattellaw09_DateOrder.calls k a0_0 a0_1 a0_2 a1_0 a1_1 a1_2 true w h rfl).mono ?_
  rintro e w' ⟨rfl, hd⟩
  exact ⟨rfl, hd⟩

end Go.Proofs.Ytfikfmediheioaa.F
