-- Written by this session's printer (wip/tools), out of the translation's own print. Lean checks it.
import Derived.Test.YtfikfmediheioaaF0
import Derived.Test.YtfikfmediheioaaF2
import Derived.Test.YtfikfmediheioaaF3
import Derived.Test.YtfikfmediheioaaF4
import Derived.Test.YtfikfmediheioaaF6
import Derived.Test.YtfikfmediheioaaF7
import Derived.Test.YtfikfmediheioaaF8
import Derived.Test.YtfikfmediheioaaF11
import Derived.Test.YtfikfmediheioaaF19
import Derived.Test.YtfikfmediheioaaF27
import Derived.Test.YtfikfmediheioaaF29
import Derived.Test.YtfikfmediheioaaF30
import Derived.Test.YtfikfmediheioaaF32
import Derived.Test.YtfikfmediheioaaF36
namespace Go.Proofs.Ytfikfmediheioaa.F
open Go.RowKit Go.Proofs.YtfikfmediheioaaW.PrintWords Go.Proofs.YtfikfmediheioaaW.PrintLast Go.Proofs.YtfikfmediheioaaW.PrintMore Go.Proofs.YtfikfmediheioaaX
attribute [local go_sem] max2_int cell_some
attribute [local go_sem] max2_int min2_int max_two min_two max_three min_three max_four min_four   -- for this text's walks alone
set_option linter.unusedVariables false
set_option linter.unusedSimpArgs false

/-! ### chattellaw09_DateTells: function 6 -/
mutual
def chattellaw09_DateTells.l0 : Nat → List (S23) → Int → Int → Option (Bool)
  | 0, _, _, _ => none
  | k + 1, x22, x23, x24 => if x24 < x23 then (if 0 ≤ x24 then (if x24 < (x22.length : Int) then ((chattelref09_Right.f k ((rd_T23 x22 x24).f0) ((rd_T23 x22 x24).f1) ((rd_T23 x22 x24).f2)).bind fun t341 => ((date_Number.f k ((rd_T23 x22 x24).f0) ((rd_T23 x22 x24).f1) ((rd_T23 x22 x24).f2)).bind fun bt342 => ((date_Weekday.f k ((rd_T23 x22 x24).f0) ((rd_T23 x22 x24).f1) ((rd_T23 x22 x24).f2)).bind fun bt344 => ((date_Print.f k ((rd_T23 x22 x24).f0) ((rd_T23 x22 x24).f1) ((rd_T23 x22 x24).f2)).bind fun bt346 => ((date_Leap.f ((rd_T23 x22 x24).f0)).bind fun t348 => ((chattelref09_Leap.f k ((rd_T23 x22 x24).f0)).bind fun t349 => (if (t348 != t349) = true then (chattellaw09_DateTells.j1 k t341 bt342.1 bt342.2 bt344.1 bt344.2 bt346.1 bt346.2 x22 x23 x24 true ((rd_T23 x22 x24).f0) ((rd_T23 x22 x24).f1) ((rd_T23 x22 x24).f2)) else ((date_Days.f k ((rd_T23 x22 x24).f0) ((rd_T23 x22 x24).f1)).bind fun t350 => ((chattelref09_Days.f k ((rd_T23 x22 x24).f0) ((rd_T23 x22 x24).f1)).bind fun t351 => (if t350 = t351 then ((date_Check.f k ((rd_T23 x22 x24).f0) ((rd_T23 x22 x24).f1) ((rd_T23 x22 x24).f2)).bind fun t352 => (chattellaw09_DateTells.j1 k t341 bt342.1 bt342.2 bt344.1 bt344.2 bt346.1 bt346.2 x22 x23 x24 ((t352 == 0) != t341) ((rd_T23 x22 x24).f0) ((rd_T23 x22 x24).f1) ((rd_T23 x22 x24).f2))) else (chattellaw09_DateTells.j1 k t341 bt342.1 bt342.2 bt344.1 bt344.2 bt346.1 bt346.2 x22 x23 x24 true ((rd_T23 x22 x24).f0) ((rd_T23 x22 x24).f1) ((rd_T23 x22 x24).f2)))))))))))) else (none)) else (none)) else ((chattellaw09_wakes.f k).bind fun t338 => (some t338))
def chattellaw09_DateTells.j1 : Nat → Bool → Int → Int → Int → Int → ByteArray → Int → List (S23) → Int → Int → Bool → Int → Int → Int → Option (Bool)
  | 0, _, _, _, _, _, _, _, _, _, _, _, _, _, _ => none
  | k + 1, x5, x6, x7, x8, x9, x10, x11, x22, x23, x24, x71, x341000, x341001, x341002 => if x71 = true then (some false) else (if x5 = true then ((chattelref09_Number.f k x341000 x341001 x341002).bind fun t354 => (if x7 = 0 then (if x9 = 0 then (if x11 = 0 then (if x6 = t354 then (if x8 = (Int.tmod (wrap64 (t354 - 1)) 7) then ((chattelref09_Print.f k x341000 x341001 x341002).bind fun t355 => (if x10.toList = t355.toList then (chattellaw09_DateTells.l0 k x22 x23 (wrap64 (x24 + 1))) else (some false))) else (some false)) else (some false)) else (some false)) else (some false)) else (some false))) else ((date_Check.f k x341000 x341001 x341002).bind fun t353 => (if t353 = 11 then (if x7 = 11 then (if x9 = 11 then (if x11 = 11 then (if x6 = 0 then (if x8 = 0 then (if x10.toList = ([] : List UInt8) then (chattellaw09_DateTells.l0 k x22 x23 (wrap64 (x24 + 1))) else (some false)) else (some false)) else (some false)) else (some false)) else (some false)) else (some false)) else (some false))))
end
def chattellaw09_DateTells.f (k : Nat) (a0_0 : Int) (a0_1 : Int) (a0_2 : Int) : Option (Bool) := (chattelref09_Make.f k a0_0 a0_1 a0_2 9999).bind fun bt332 => ((some (([(⟨a0_0, a0_1, a0_2⟩ : S23), (⟨bt332.1, bt332.2.1, bt332.2.2⟩ : S23)] : List (S23)) : List (S23))).bind fun y335 => (chattellaw09_DateTells.l0 k y335 (y335.length : Int) 0))
theorem chattellaw09_DateTells.mono_l : ∀ k, (∀ y0 y1 y2, LeO (chattellaw09_DateTells.l0 k y0 y1 y2) (chattellaw09_DateTells.l0 (k + 1) y0 y1 y2)) ∧ (∀ y0 y1 y2 y3 y4 y5 y6 y7 y8 y9 y10 y11 y12 y13, LeO (chattellaw09_DateTells.j1 k y0 y1 y2 y3 y4 y5 y6 y7 y8 y9 y10 y11 y12 y13) (chattellaw09_DateTells.j1 (k + 1) y0 y1 y2 y3 y4 y5 y6 y7 y8 y9 y10 y11 y12 y13))
  | 0 => ⟨fun _ _ _ r h => by simp [chattellaw09_DateTells.l0] at h, fun _ _ _ _ _ _ _ _ _ _ _ _ _ _ r h => by simp [chattellaw09_DateTells.j1] at h⟩
  | k + 1 => by
    obtain ⟨ih0, ih1⟩ := chattellaw09_DateTells.mono_l k
    refine ⟨?_, ?_⟩
    · intro y0 y1 y2
      unfold chattellaw09_DateTells.l0
      repeat' first
      | (with_reducible exact ih0 _ _ _)
      | (with_reducible exact ih1 _ _ _ _ _ _ _ _ _ _ _ _ _ _)
      | (with_reducible exact chattellaw09_wakes.mono _)
      | (with_reducible exact chattelref09_Days.mono _ _ _)
      | (with_reducible exact chattelref09_Leap.mono _ _)
      | (with_reducible exact chattelref09_Make.mono _ _ _ _ _)
      | (with_reducible exact chattelref09_Number.mono _ _ _ _)
      | (with_reducible exact chattelref09_Print.mono _ _ _ _)
      | (with_reducible exact chattelref09_Right.mono _ _ _ _)
      | (with_reducible exact date_Check.mono _ _ _ _)
      | (with_reducible exact date_Days.mono _ _ _)
      | (with_reducible exact date_Number.mono _ _ _ _)
      | (with_reducible exact date_Print.mono _ _ _ _)
      | (with_reducible exact date_Weekday.mono _ _ _ _)
      | (with_reducible exact LeO.refl _)
      | (with_reducible exact LeO.none _)
      | (with_reducible refine LeO.ite ?_ ?_)
      | (with_reducible refine LeO.bind ?_ (fun _ => ?_))
      | exact ih0 _ _ _
      | exact ih1 _ _ _ _ _ _ _ _ _ _ _ _ _ _
      | exact chattellaw09_wakes.mono _
      | exact chattelref09_Days.mono _ _ _
      | exact chattelref09_Leap.mono _ _
      | exact chattelref09_Make.mono _ _ _ _ _
      | exact chattelref09_Number.mono _ _ _ _
      | exact chattelref09_Print.mono _ _ _ _
      | exact chattelref09_Right.mono _ _ _ _
      | exact date_Check.mono _ _ _ _
      | exact date_Days.mono _ _ _
      | exact date_Number.mono _ _ _ _
      | exact date_Print.mono _ _ _ _
      | exact date_Weekday.mono _ _ _ _
      | exact LeO.none _
      | refine LeO.ite ?_ ?_
      | refine LeO.bind ?_ (fun _ => ?_)
    · intro y0 y1 y2 y3 y4 y5 y6 y7 y8 y9 y10 y11 y12 y13
      unfold chattellaw09_DateTells.j1
      repeat' first
      | (with_reducible exact ih0 _ _ _)
      | (with_reducible exact ih1 _ _ _ _ _ _ _ _ _ _ _ _ _ _)
      | (with_reducible exact chattellaw09_wakes.mono _)
      | (with_reducible exact chattelref09_Days.mono _ _ _)
      | (with_reducible exact chattelref09_Leap.mono _ _)
      | (with_reducible exact chattelref09_Make.mono _ _ _ _ _)
      | (with_reducible exact chattelref09_Number.mono _ _ _ _)
      | (with_reducible exact chattelref09_Print.mono _ _ _ _)
      | (with_reducible exact chattelref09_Right.mono _ _ _ _)
      | (with_reducible exact date_Check.mono _ _ _ _)
      | (with_reducible exact date_Days.mono _ _ _)
      | (with_reducible exact date_Number.mono _ _ _ _)
      | (with_reducible exact date_Print.mono _ _ _ _)
      | (with_reducible exact date_Weekday.mono _ _ _ _)
      | (with_reducible exact LeO.refl _)
      | (with_reducible exact LeO.none _)
      | (with_reducible refine LeO.ite ?_ ?_)
      | (with_reducible refine LeO.bind ?_ (fun _ => ?_))
      | exact ih0 _ _ _
      | exact ih1 _ _ _ _ _ _ _ _ _ _ _ _ _ _
      | exact chattellaw09_wakes.mono _
      | exact chattelref09_Days.mono _ _ _
      | exact chattelref09_Leap.mono _ _
      | exact chattelref09_Make.mono _ _ _ _ _
      | exact chattelref09_Number.mono _ _ _ _
      | exact chattelref09_Print.mono _ _ _ _
      | exact chattelref09_Right.mono _ _ _ _
      | exact date_Check.mono _ _ _ _
      | exact date_Days.mono _ _ _
      | exact date_Number.mono _ _ _ _
      | exact date_Print.mono _ _ _ _
      | exact date_Weekday.mono _ _ _ _
      | exact LeO.none _
      | refine LeO.ite ?_ ?_
      | refine LeO.bind ?_ (fun _ => ?_)
theorem chattellaw09_DateTells.mono : ∀ a0 a1 a2 k, LeO (chattellaw09_DateTells.f k a0 a1 a2) (chattellaw09_DateTells.f (k + 1) a0 a1 a2) := by
  intro a0 a1 a2 k
  obtain ⟨ih0, ih1⟩ := chattellaw09_DateTells.mono_l k
  unfold chattellaw09_DateTells.f
  repeat' first
      | (with_reducible exact ih0 _ _ _)
      | (with_reducible exact ih1 _ _ _ _ _ _ _ _ _ _ _ _ _ _)
      | (with_reducible exact chattellaw09_wakes.mono _)
      | (with_reducible exact chattelref09_Days.mono _ _ _)
      | (with_reducible exact chattelref09_Leap.mono _ _)
      | (with_reducible exact chattelref09_Make.mono _ _ _ _ _)
      | (with_reducible exact chattelref09_Number.mono _ _ _ _)
      | (with_reducible exact chattelref09_Print.mono _ _ _ _)
      | (with_reducible exact chattelref09_Right.mono _ _ _ _)
      | (with_reducible exact date_Check.mono _ _ _ _)
      | (with_reducible exact date_Days.mono _ _ _)
      | (with_reducible exact date_Number.mono _ _ _ _)
      | (with_reducible exact date_Print.mono _ _ _ _)
      | (with_reducible exact date_Weekday.mono _ _ _ _)
      | (with_reducible exact LeO.refl _)
      | (with_reducible exact LeO.none _)
      | (with_reducible refine LeO.ite ?_ ?_)
      | (with_reducible refine LeO.bind ?_ (fun _ => ?_))
      | exact ih0 _ _ _
      | exact ih1 _ _ _ _ _ _ _ _ _ _ _ _ _ _
      | exact chattellaw09_wakes.mono _
      | exact chattelref09_Days.mono _ _ _
      | exact chattelref09_Leap.mono _ _
      | exact chattelref09_Make.mono _ _ _ _ _
      | exact chattelref09_Number.mono _ _ _ _
      | exact chattelref09_Print.mono _ _ _ _
      | exact chattelref09_Right.mono _ _ _ _
      | exact date_Check.mono _ _ _ _
      | exact date_Days.mono _ _ _
      | exact date_Number.mono _ _ _ _
      | exact date_Print.mono _ _ _ _
      | exact date_Weekday.mono _ _ _ _
      | exact LeO.none _
      | refine LeO.ite ?_ ?_
      | refine LeO.bind ?_ (fun _ => ?_)
def chattellaw09_DateTells.T1 : Bool × List (List Nat × List Nat) := (true, [([], []), ([], []), ([1], [1]), ([], []), ([3], [3]), ([], []), ([5], [5]), ([2, 4, 6], [2, 4, 6]), ([7], [7]), ([0, 8], [0, 8]), ([9], [9]), ([], [])])
def chattellaw09_DateTells.B1 : List Nat := [0, 0, 2, 0, 8, 0, 32, 126, 254, 511, 1023, 0]
theorem chattellaw09_DateTells.tab1 : rtab .any (opsOf Try.f6 1) = chattellaw09_DateTells.T1 := by kernel_rfl
theorem chattellaw09_DateTells.bits1 : waitsOk chattellaw09_DateTells.T1.2 chattellaw09_DateTells.B1 = true := by kernel_rfl
def chattellaw09_DateTells.T8 : Bool × List (List Nat × List Nat) := (true, [([], []), ([0], [0]), ([1], [1]), ([], []), ([3], [3]), ([4, 2], [4]), ([2, 5], [2, 5]), ([6, 5], [6]), ([7], [7]), ([8, 7], [7, 8]), ([7], [7]), ([10, 7], [7, 10]), ([9, 11, 7, 7], [7, 9, 11]), ([7], [7]), ([13, 7], [7, 13]), ([7], [7]), ([15, 7], [7, 15]), ([14, 16, 12, 7], [7, 14, 16]), ([12, 17, 7], [7, 12, 17]), ([7, 18], [7, 18]), ([19, 17], [19]), ([20], [20]), ([21, 20, 20], [20, 21]), ([22, 20], [20, 22]), ([20], [20]), ([23, 24, 20], [20, 23, 24]), ([20, 25], [20, 25])])
def chattellaw09_DateTells.B8 : List Nat := [0, 1, 3, 0, 8, 31, 63, 127, 255, 511, 255, 1279, 4095, 255, 8447, 255, 33023, 131071, 262143, 524287, 1048575, 2097151, 4194303, 8388607, 2097151, 33554431, 67108863]
theorem chattellaw09_DateTells.tab8 : rtab .any (opsOf Try.f6 8) = chattellaw09_DateTells.T8 := by kernel_rfl
theorem chattellaw09_DateTells.bits8 : waitsOk chattellaw09_DateTells.T8.2 chattellaw09_DateTells.B8 = true := by kernel_rfl
set_option maxHeartbeats 8000000 in
set_option maxRecDepth 100000 in
theorem chattellaw09_DateTells.calls (k : Nat) (a0_0 : Int) (a0_1 : Int) (a0_2 : Int) (r : Bool) (w : World) (h : chattellaw09_DateTells.f k a0_0 a0_1 a0_2 = some r) (ht_ : r = true) :
    Calls Try.prog 6 #[.agg #[.int .i64 a0_0, .int .i64 a0_1, .int .i64 a0_2]] w fun e w' => e = .returned (.bool r) ∧ Below w.heap.size w w' := by
  have hu23 := Try.underlying23
  have hu25 := Try.underlying25
  have HB := Aside0.mk (Below.refl w.heap.size w)
  have H : ((chattelref09_Make.f k a0_0 a0_1 a0_2 9999).bind fun bt332 => ((some (([(⟨a0_0, a0_1, a0_2⟩ : S23), (⟨bt332.1, bt332.2.1, bt332.2.2⟩ : S23)] : List (S23)) : List (S23))).bind fun y335 => (chattellaw09_DateTells.l0 k y335 (y335.length : Int) 0))) = some r := h
  clear h
  replace H := Option.bind_eq_some_iff.mp H
  obtain ⟨⟨t332, t333, t334⟩, A20, H⟩ := H
  replace H : ((some (([(⟨a0_0, a0_1, a0_2⟩ : S23), (⟨t332, t333, t334⟩ : S23)] : List (S23)) : List (S23))).bind fun y335 => (chattellaw09_DateTells.l0 k y335 (y335.length : Int) 0)) = some r := H
  have A2 := Aside0.mk A20
  clear A20
  obtain ⟨y335, hy335⟩ : ∃ y_ : List (S23), y_ = (([(⟨a0_0, a0_1, a0_2⟩ : S23), (⟨t332, t333, t334⟩ : S23)] : List (S23))) := ⟨_, rfl⟩
  replace H : (chattellaw09_DateTells.l0 k y335 (y335.length : Int) 0) = some r := by first | (rw [hy335]; with_reducible exact H) | (have H2_ := (Option.bind_some _ _).symm.trans H; rw [hy335]; with_reducible exact H2_) | (have H2_ := (Option.bind_some _ _).symm.trans H; with_reducible exact H2_) | with_reducible exact H | (rw [hy335]; exact H) | exact H
  have Ny335 := Aside0.mk hy335
  clear hy335
  have H' := Aside0.mk H
  clear H
  go_enter Try.func6, Try.ntmps6
  try go_wp2_with (first | ((with_reducible refine gate_dst (N := 1) rfl ?_); refine box_event ?hg (N := 1) ?hd (cs := #[.int .i64 a0_0, .int .i64 a0_1, .int .i64 a0_2]) (t := 23) ?hr ?_; (case hd => rfl); (case hg => rfl); (case hr => first | (go_simp; done) | (go_simp; rfl)); intro gb331 hg w3 hbox hb; have n0_ := Aside0.mk (below_step (by repeat (first | (with_reducible first | exact HB.out | apply below_alloc | apply pw_below_drewN | apply below_drew1) | exact HB.out)) hb); have n1_ := Aside0.mk (hbox); have n2_ := Aside0.mk ((by rw [hg]; exact (below_size (by repeat (first | (with_reducible first | exact HB.out | apply below_alloc | apply pw_below_drewN | apply below_drew1) | exact HB.out))) : w.heap.size ≤ gb331)); have n3_ := Aside0.mk ((by rw [hg]; exact (below_size (by repeat (first | (with_reducible first | exact HB.out | apply below_alloc | apply pw_below_drewN | apply below_drew1) | exact HB.out))) : w.heap.size ≤ gb331)); clear HB; have HB := n0_; have BK331 := n1_; have GW331 := n2_; have GE331 := n3_; clear n0_ n1_ n2_ n3_; clear hb hbox hg))
  replace BK331 := Aside0.mk (blk_drew BK331.out)
  replace HB := Aside0.mk (below_drew1 HB.out)
  refine start_ (n := 12) (S := fun w' => w'.cell? ⟨gb331, 0, none⟩ = some (.int .i64 a0_0) ∧ w'.cell? ⟨gb331, 1, none⟩ = some (.int .i64 a0_1) ∧ w'.cell? ⟨gb331, 2, none⟩ = some (.int .i64 a0_2)) (ds := []) (fl 0 12 []) (by kernel_rfl) rfl rfl ⟨(blk_cell BK331.out 0).trans rfl, (blk_cell BK331.out 1).trans rfl, (blk_cell BK331.out 2).trans rfl⟩ (fun hHeld => ?_); refine with_tabW chattellaw09_DateTells.tab1 chattellaw09_DateTells.bits1 (fun HT_ HW_ => ?_)
  generalize w3.drew = w4 at BK331 HB hHeld ⊢
  refine pure_ (i := 1) (N := some 14) (v := ?_) (a' := ?_) (fl 0 12 [1]) rfl rfl (any_of HT_.out (by kernel_rfl)) (fun _ _ _ h => h) (Or.inl ⟨by rfl, ?_⟩) ?_ ?_
  rotate_left
  · intro w'
    go_simp
    with_reducible rfl
  rotate_left
  · simp only [Act.put, List.setIfInBounds_toArray, List.set_cons_zero, List.set_cons_succ, i64_w, i32_w]
    rfl
  refine pure_ (i := 3) (N := some 16) (v := ?_) (a' := ?_) (fl 0 12 [1, 3]) rfl rfl (any_of HT_.out (by kernel_rfl)) (fun _ _ _ h => h) (Or.inl ⟨by rfl, ?_⟩) ?_ ?_
  rotate_left
  · intro w'
    go_simp
    with_reducible rfl
  rotate_left
  · simp only [Act.put, List.setIfInBounds_toArray, List.set_cons_zero, List.set_cons_succ, i64_w, i32_w]
    rfl
  refine pure_ (i := 5) (N := some 18) (v := ?_) (a' := ?_) (fl 0 12 [1, 3, 5]) rfl rfl (any_of HT_.out (by kernel_rfl)) (fun _ _ _ h => h) (Or.inl ⟨by rfl, ?_⟩) ?_ ?_
  rotate_left
  · intro w'
    go_simp
    with_reducible rfl
  rotate_left
  · simp only [Act.put, List.setIfInBounds_toArray, List.set_cons_zero, List.set_cons_succ, i64_w, i32_w]
    rfl
  refine pure_ (i := 11) (N := some 24) (v := ?_) (a' := ?_) (fl 0 12 [1, 3, 5, 11]) rfl rfl (any_of HT_.out (by kernel_rfl)) (fun _ _ _ h => h) (Or.inl ⟨by rfl, ?_⟩) ?_ ?_
  rotate_left
  · intro w'
    go_simp
    with_reducible rfl
  rotate_left
  · simp only [Act.put, List.setIfInBounds_toArray, List.set_cons_zero, List.set_cons_succ, i64_w, i32_w]
    rfl
  refine take_ (i := 0) (N := some 13) (v := ?_) (a' := ?_) (fl 2 12 [3, 5, 11]) rfl rfl (take_ofW HT_.out HW_.out (by kernel_rfl)) (fun _ _ _ h => h) (Or.inl ⟨by rfl, ?_⟩) hHeld ?_ ?_
  rotate_left
  · rintro w' ⟨s0, s1, s2⟩
    go_simp
    with_reducible rfl
  rotate_left
  · simp only [Act.put, List.setIfInBounds_toArray, List.set_cons_zero, List.set_cons_succ, i64_w, i32_w]
    rfl
  refine take_ (i := 2) (N := some 15) (v := ?_) (a' := ?_) (fl 4 12 [5, 11]) rfl rfl (take_ofW HT_.out HW_.out (by kernel_rfl)) (fun _ _ _ h => h) (Or.inl ⟨by rfl, ?_⟩) hHeld ?_ ?_
  rotate_left
  · rintro w' ⟨s0, s1, s2⟩
    go_simp
    with_reducible rfl
  rotate_left
  · simp only [Act.put, List.setIfInBounds_toArray, List.set_cons_zero, List.set_cons_succ, i64_w, i32_w]
    rfl
  refine take_ (i := 4) (N := some 17) (v := ?_) (a' := ?_) (fl 6 12 [11]) rfl rfl (take_ofW HT_.out HW_.out (by kernel_rfl)) (fun _ _ _ h => h) (Or.inl ⟨by rfl, ?_⟩) hHeld ?_ ?_
  rotate_left
  · rintro w' ⟨s0, s1, s2⟩
    go_simp
    with_reducible rfl
  rotate_left
  · simp only [Act.put, List.setIfInBounds_toArray, List.set_cons_zero, List.set_cons_succ, i64_w, i32_w]
    rfl
  refine take_ (i := 6) (N := some 19) (v := ?_) (a' := ?_) (fl 7 12 [11]) rfl rfl (take_ofW HT_.out HW_.out (by kernel_rfl)) (fun _ _ _ h => h) (Or.inl ⟨by rfl, ?_⟩) hHeld ?_ ?_
  rotate_left
  · rintro w' ⟨s0, s1, s2⟩
    go_simp
    with_reducible rfl
  rotate_left
  · simp only [Act.put, List.setIfInBounds_toArray, List.set_cons_zero, List.set_cons_succ, i64_w, i32_w]
    rfl
  refine pure_ (i := 7) (N := some 20) (v := ?_) (a' := ?_) (fl 8 12 [11]) rfl rfl (any_of HT_.out (by kernel_rfl)) (fun _ _ _ h => h) (Or.inl ⟨by rfl, ?_⟩) ?_ ?_
  rotate_left
  · intro w'
    go_simp
    with_reducible rfl
  rotate_left
  · simp only [Act.put, List.setIfInBounds_toArray, List.set_cons_zero, List.set_cons_succ, i64_w, i32_w]
    rfl
  refine one_ (i := 8) (N := some 21) (fl 9 12 [11]) rfl rfl (one_of HT_.out (by kernel_rfl)) (by decide) (fun K hK => ?_)
  refine goes_ Try.func12 (by kernel_rfl) rfl #[.agg #[.int .i64 a0_0, .int .i64 a0_1, .int .i64 a0_2], .int .i64 9999] (by rfl) rfl rfl (by (try simp only [List.map_toArray, List.map_cons, List.map_nil]); first | done | rfl | (simp only [List.length_drop, List.length_take]; rfl)) ?_
  with_reducible refine (chattelref09_Make.calls k a0_0 a0_1 a0_2 9999 t332 t333 t334 _ A2.out).mono ?_
  rintro e w5 ⟨rfl, hb⟩
  refine ⟨_, rfl, ?_⟩
  replace BK331 := Aside0.mk (bb BK331.out hb)
  replace HB := Aside0.mk (bs HB.out hb)
  (try clear hb)
  (try clear hb2)
  (try clear hk)
  (try clear hi)
  refine hK.out _ _ ⟨(blk_cell BK331.out 0).trans rfl, (blk_cell BK331.out 1).trans rfl, (blk_cell BK331.out 2).trans rfl⟩ (fun hHeld => ?_)
  clear hK K
  refine norm_ (a' := ?_) ?_ ?_
  rotate_left
  · show Act.put _ (some 21) _ = _
    simp only [Act.put, List.setIfInBounds_toArray, List.set_cons_zero, List.set_cons_succ, i64_w, i32_w]
    rfl
  refine one_ (i := 9) (N := some 22) (fl 10 12 [11]) rfl rfl (one_of HT_.out (by kernel_rfl)) (by decide) (fun K hK => ?_)
  refine Kd.R_lit_step k23 _ 23 ?hg (N := 22) ?hd (xs := ([(⟨a0_0, a0_1, a0_2⟩ : S23), (⟨t332, t333, t334⟩ : S23)] : List (S23))) (inner := [.int .i64 a0_0, .int .i64 a0_1, .int .i64 a0_2, .int .i64 t332, .int .i64 t333, .int .i64 t334]) (ok := fun _ => True) (okp := fun _ => True) ?hr ?hp (fun _ hk => hk) trivial (Below.refl _ _) (Nat.le_refl _) (by simp) ?_; (case hd => rfl); (case hg => rfl); (case hr => first | (go_simp; done) | (go_simp; rfl)); (case hp => exact (Reps.c3 (show Kd.M k23 _ _ _ (⟨a0_0, a0_1, a0_2⟩ : S23) [.int .i64 a0_0, .int .i64 a0_1, .int .i64 a0_2] from (k23_mkM _ _ _ (⟨a0_0, a0_1, a0_2⟩ : S23) )) (Reps.c3 (show Kd.M k23 _ _ _ (⟨t332, t333, t334⟩ : S23) [.int .i64 t332, .int .i64 t333, .int .i64 t334] from (k23_mkM _ _ _ (⟨t332, t333, t334⟩ : S23) )) (Reps.none _ _))))
  intro v336 w6 ho7 hb hg_ hnew_
  clear hg_ hnew_
  (first | rw [← Ny335.out] at ho7 | (simp only [Int.reduceToNat] at ho7; rw [← Ny335.out] at ho7))
  have HO337 := Aside0.mk (Kd.R_lower (Kd.R_newB ho7 (g := gb331) (o := .cells #[.int .i64 a0_0, .int .i64 a0_1, .int .i64 a0_2] 23 (0, 0)) (by (with_reducible repeat (first | refine blk_drewN ?_ _ | refine blk_drew ?_ | refine blk_alloc ?_ _)); exact BK331.out)) (bz HB.out))
  replace BK331 := Aside0.mk (bb BK331.out hb)
  replace HB := Aside0.mk (bs HB.out hb)
  clear hb ho7
  obtain ⟨Ao8, co8, eo8⟩ := Kd.R_slice HO337.out
  (first | subst eo8 | (injection eo8 with f1_ f2_ f3_; have f4_ := f1_.symm; have f5_ := f3_.symm; clear f1_ f2_ f3_; subst f4_; subst f5_))
  refine hK.out _ _ ⟨(blk_cell BK331.out 0).trans rfl, (blk_cell BK331.out 1).trans rfl, (blk_cell BK331.out 2).trans rfl⟩ (fun hHeld => ?_)
  clear hK K
  refine norm_ (a' := ?_) ?_ ?_
  rotate_left
  · show Act.put _ (some 22) _ = _
    simp only [Act.put, List.setIfInBounds_toArray, List.set_cons_zero, List.set_cons_succ, i64_w, i32_w]
    rfl
  refine pure_ (i := 10) (N := some 23) (v := ?_) (a' := ?_) (fl 12 12 []) rfl rfl (any_of HT_.out (by kernel_rfl)) (fun _ _ _ h => h) (Or.inl ⟨by rfl, ?_⟩) ?_ ?_
  rotate_left
  · intro w'
    go_simp
    with_reducible rfl
  rotate_left
  · simp only [Act.put, List.setIfInBounds_toArray, List.set_cons_zero, List.set_cons_succ, i64_w, i32_w]
    rfl
  refine done_ (done_of HT_.out (by kernel_rfl)) ?_
  try go_wp2
  go_loopg [24] k (fun kq v24 w' => ∃ (x24_1 : Int), v24 = .int .i64 x24_1 ∧ Aside0 (chattellaw09_DateTells.l0 kq y335 (y335.length : Int) x24_1 = some r) ∧ Aside0 (kq ≤ k) ∧ Aside0 (Kd.R k23 23 w' w.heap.size (fun k_ => k_ ≠ gb331) (.slice Ao8 y335.length co8) y335) ∧ Aside0 (w'.heap[gb331]? = some (.cells #[.int .i64 a0_0, .int .i64 a0_1, .int .i64 a0_2] 23 (0, 0))) ∧ Aside0 (Below w.heap.size w w'))
  case atStart => exact ⟨(0), (by first | rfl | (simp; done) | (simp [*]; done)), H', ⟨Nat.le_refl _⟩, ⟨by (with_reducible repeat (first | apply Kd.R_alloc | apply Kd.R_drewN | apply Kd.R_drew)); exact Kd.R_mono HO337.out (fun _ hk => hk.2)⟩, ⟨by (with_reducible repeat (first | refine blk_drewN ?_ _ | refine blk_drew ?_ | refine blk_alloc ?_ _)); exact BK331.out⟩, ⟨by repeat (first | (with_reducible first | exact HB.out | apply below_alloc | apply pw_below_drewN | apply below_drew1 | refine below_set ?_ GE331.out) | exact HB.out)⟩⟩
  case round =>
    clear H'
    try clear c1
    try clear p2
    try clear c3
    try clear c6
    obtain ⟨x24_1, rfl, HA, HK1, HO_22, BK331, HB⟩ := hrel
    cases gk with
    | zero => exact absurd HA.out (by simp [chattellaw09_DateTells.l0])
    | succ k1 =>
      have H := HA.out
      clear HA
      simp only [chattellaw09_DateTells.l0] at H
      by_cases c9 : x24_1 < (y335.length : Int)
      · rw [if_pos c9] at H
        have c9b0 : decide (x24_1 < (y335.length : Int)) = true := decide_eq_true c9
        clear c9
        by_cases c10 : 0 ≤ x24_1
        rotate_left
        · rw [if_neg c10] at H
          exact absurd H (by simp)
        rw [if_pos c10] at H
        have c10b0 : decide (0 ≤ x24_1) = true := decide_eq_true c10
        clear c10
        by_cases c11 : x24_1 < (y335.length : Int)
        rotate_left
        · rw [if_neg c11] at H
          exact absurd H (by simp)
        rw [if_pos c11] at H
        have c11b0 : decide (x24_1 < (y335.length : Int)) = true := decide_eq_true c11
        clear c11
        replace H := Option.bind_eq_some_iff.mp H
        obtain ⟨t341, A120, H⟩ := H
        replace H : ((date_Number.f k1 ((rd_T23 y335 x24_1).f0) ((rd_T23 y335 x24_1).f1) ((rd_T23 y335 x24_1).f2)).bind fun bt342 => ((date_Weekday.f k1 ((rd_T23 y335 x24_1).f0) ((rd_T23 y335 x24_1).f1) ((rd_T23 y335 x24_1).f2)).bind fun bt344 => ((date_Print.f k1 ((rd_T23 y335 x24_1).f0) ((rd_T23 y335 x24_1).f1) ((rd_T23 y335 x24_1).f2)).bind fun bt346 => ((date_Leap.f ((rd_T23 y335 x24_1).f0)).bind fun t348 => ((chattelref09_Leap.f k1 ((rd_T23 y335 x24_1).f0)).bind fun t349 => (if (t348 != t349) = true then (chattellaw09_DateTells.j1 k1 t341 bt342.1 bt342.2 bt344.1 bt344.2 bt346.1 bt346.2 y335 (y335.length : Int) x24_1 true ((rd_T23 y335 x24_1).f0) ((rd_T23 y335 x24_1).f1) ((rd_T23 y335 x24_1).f2)) else ((date_Days.f k1 ((rd_T23 y335 x24_1).f0) ((rd_T23 y335 x24_1).f1)).bind fun t350 => ((chattelref09_Days.f k1 ((rd_T23 y335 x24_1).f0) ((rd_T23 y335 x24_1).f1)).bind fun t351 => (if t350 = t351 then ((date_Check.f k1 ((rd_T23 y335 x24_1).f0) ((rd_T23 y335 x24_1).f1) ((rd_T23 y335 x24_1).f2)).bind fun t352 => (chattellaw09_DateTells.j1 k1 t341 bt342.1 bt342.2 bt344.1 bt344.2 bt346.1 bt346.2 y335 (y335.length : Int) x24_1 ((t352 == 0) != t341) ((rd_T23 y335 x24_1).f0) ((rd_T23 y335 x24_1).f1) ((rd_T23 y335 x24_1).f2))) else (chattellaw09_DateTells.j1 k1 t341 bt342.1 bt342.2 bt344.1 bt344.2 bt346.1 bt346.2 y335 (y335.length : Int) x24_1 true ((rd_T23 y335 x24_1).f0) ((rd_T23 y335 x24_1).f1) ((rd_T23 y335 x24_1).f2))))))))))) = some r := H
        have A12 := Aside0.mk A120
        clear A120
        replace H := Option.bind_eq_some_iff.mp H
        obtain ⟨⟨t342, t343⟩, A130, H⟩ := H
        replace H : ((date_Weekday.f k1 ((rd_T23 y335 x24_1).f0) ((rd_T23 y335 x24_1).f1) ((rd_T23 y335 x24_1).f2)).bind fun bt344 => ((date_Print.f k1 ((rd_T23 y335 x24_1).f0) ((rd_T23 y335 x24_1).f1) ((rd_T23 y335 x24_1).f2)).bind fun bt346 => ((date_Leap.f ((rd_T23 y335 x24_1).f0)).bind fun t348 => ((chattelref09_Leap.f k1 ((rd_T23 y335 x24_1).f0)).bind fun t349 => (if (t348 != t349) = true then (chattellaw09_DateTells.j1 k1 t341 t342 t343 bt344.1 bt344.2 bt346.1 bt346.2 y335 (y335.length : Int) x24_1 true ((rd_T23 y335 x24_1).f0) ((rd_T23 y335 x24_1).f1) ((rd_T23 y335 x24_1).f2)) else ((date_Days.f k1 ((rd_T23 y335 x24_1).f0) ((rd_T23 y335 x24_1).f1)).bind fun t350 => ((chattelref09_Days.f k1 ((rd_T23 y335 x24_1).f0) ((rd_T23 y335 x24_1).f1)).bind fun t351 => (if t350 = t351 then ((date_Check.f k1 ((rd_T23 y335 x24_1).f0) ((rd_T23 y335 x24_1).f1) ((rd_T23 y335 x24_1).f2)).bind fun t352 => (chattellaw09_DateTells.j1 k1 t341 t342 t343 bt344.1 bt344.2 bt346.1 bt346.2 y335 (y335.length : Int) x24_1 ((t352 == 0) != t341) ((rd_T23 y335 x24_1).f0) ((rd_T23 y335 x24_1).f1) ((rd_T23 y335 x24_1).f2))) else (chattellaw09_DateTells.j1 k1 t341 t342 t343 bt344.1 bt344.2 bt346.1 bt346.2 y335 (y335.length : Int) x24_1 true ((rd_T23 y335 x24_1).f0) ((rd_T23 y335 x24_1).f1) ((rd_T23 y335 x24_1).f2)))))))))) = some r := H
        have A13 := Aside0.mk A130
        clear A130
        replace H := Option.bind_eq_some_iff.mp H
        obtain ⟨⟨t344, t345⟩, A140, H⟩ := H
        replace H : ((date_Print.f k1 ((rd_T23 y335 x24_1).f0) ((rd_T23 y335 x24_1).f1) ((rd_T23 y335 x24_1).f2)).bind fun bt346 => ((date_Leap.f ((rd_T23 y335 x24_1).f0)).bind fun t348 => ((chattelref09_Leap.f k1 ((rd_T23 y335 x24_1).f0)).bind fun t349 => (if (t348 != t349) = true then (chattellaw09_DateTells.j1 k1 t341 t342 t343 t344 t345 bt346.1 bt346.2 y335 (y335.length : Int) x24_1 true ((rd_T23 y335 x24_1).f0) ((rd_T23 y335 x24_1).f1) ((rd_T23 y335 x24_1).f2)) else ((date_Days.f k1 ((rd_T23 y335 x24_1).f0) ((rd_T23 y335 x24_1).f1)).bind fun t350 => ((chattelref09_Days.f k1 ((rd_T23 y335 x24_1).f0) ((rd_T23 y335 x24_1).f1)).bind fun t351 => (if t350 = t351 then ((date_Check.f k1 ((rd_T23 y335 x24_1).f0) ((rd_T23 y335 x24_1).f1) ((rd_T23 y335 x24_1).f2)).bind fun t352 => (chattellaw09_DateTells.j1 k1 t341 t342 t343 t344 t345 bt346.1 bt346.2 y335 (y335.length : Int) x24_1 ((t352 == 0) != t341) ((rd_T23 y335 x24_1).f0) ((rd_T23 y335 x24_1).f1) ((rd_T23 y335 x24_1).f2))) else (chattellaw09_DateTells.j1 k1 t341 t342 t343 t344 t345 bt346.1 bt346.2 y335 (y335.length : Int) x24_1 true ((rd_T23 y335 x24_1).f0) ((rd_T23 y335 x24_1).f1) ((rd_T23 y335 x24_1).f2))))))))) = some r := H
        have A14 := Aside0.mk A140
        clear A140
        replace H := Option.bind_eq_some_iff.mp H
        obtain ⟨⟨t346, t347⟩, A150, H⟩ := H
        replace H : ((date_Leap.f ((rd_T23 y335 x24_1).f0)).bind fun t348 => ((chattelref09_Leap.f k1 ((rd_T23 y335 x24_1).f0)).bind fun t349 => (if (t348 != t349) = true then (chattellaw09_DateTells.j1 k1 t341 t342 t343 t344 t345 t346 t347 y335 (y335.length : Int) x24_1 true ((rd_T23 y335 x24_1).f0) ((rd_T23 y335 x24_1).f1) ((rd_T23 y335 x24_1).f2)) else ((date_Days.f k1 ((rd_T23 y335 x24_1).f0) ((rd_T23 y335 x24_1).f1)).bind fun t350 => ((chattelref09_Days.f k1 ((rd_T23 y335 x24_1).f0) ((rd_T23 y335 x24_1).f1)).bind fun t351 => (if t350 = t351 then ((date_Check.f k1 ((rd_T23 y335 x24_1).f0) ((rd_T23 y335 x24_1).f1) ((rd_T23 y335 x24_1).f2)).bind fun t352 => (chattellaw09_DateTells.j1 k1 t341 t342 t343 t344 t345 t346 t347 y335 (y335.length : Int) x24_1 ((t352 == 0) != t341) ((rd_T23 y335 x24_1).f0) ((rd_T23 y335 x24_1).f1) ((rd_T23 y335 x24_1).f2))) else (chattellaw09_DateTells.j1 k1 t341 t342 t343 t344 t345 t346 t347 y335 (y335.length : Int) x24_1 true ((rd_T23 y335 x24_1).f0) ((rd_T23 y335 x24_1).f1) ((rd_T23 y335 x24_1).f2)))))))) = some r := H
        have A15 := Aside0.mk A150
        clear A150
        have HC16 := Aside0.mk H
        clear H
        have p339 : 0 ≤ (x24_1 : Int) := of_decide_eq_true (by first | (with_reducible assumption) | assumption)
        have q339 : x24_1 < (y335.length : Int) := of_decide_eq_true (by first | (with_reducible assumption) | assumption)
        obtain ⟨ad339, e339, hx339_0, hx339_1, hx339_2⟩ := at_T23 (Kd.R_reads' HO_22.out).2.2 x24_1 p339 q339
        cases e339
        replace p339 := eq_true p339
        replace q339 := eq_true q339
        go_upto_region 8 with (first | ((with_reducible refine gate_dst (N := 4) rfl ?_); refine box_event ?hg (N := 4) ?hd (cs := #[.int .i64 0, .int .i64 0, .int .i64 0]) (t := 23) ?hr ?_; (case hd => rfl); (case hg => rfl); (case hr => first | (go_simp; done) | (go_simp; rfl)); intro gb340 hg w17 hbox hb; have n0_ := Aside0.mk (Kd.R_below (Kd.R_elderB (by (with_reducible repeat (first | apply Kd.R_alloc | apply Kd.R_drewN | apply Kd.R_drew)); exact HO_22.out) gb340 (Nat.le_of_eq hg.symm)) hb); have n1_ := Aside0.mk (bb BK331.out hb); have n2_ := Aside0.mk (bs HB.out hb); have n3_ := Aside0.mk (hbox); have n4_ := Aside0.mk ((by rw [hg]; exact (bz HB.out) : w.heap.size ≤ gb340)); have n5_ := Aside0.mk ((by rw [hg]; exact (bz HB.out) : w.heap.size ≤ gb340)); have n6_ := Aside0.mk ((by rw [hg]; exact Nat.ne_of_lt (blk_lt (g := gb331) (o := .cells #[.int .i64 a0_0, .int .i64 a0_1, .int .i64 a0_2] 23 (0, 0)) (by (with_reducible repeat (first | refine blk_drewN ?_ _ | refine blk_drew ?_ | refine blk_alloc ?_ _)); exact BK331.out)) : gb331 ≠ gb340)); have n7_ := Aside0.mk ((by rw [hg]; exact Nat.ne_of_gt (blk_lt (g := gb331) (o := .cells #[.int .i64 a0_0, .int .i64 a0_1, .int .i64 a0_2] 23 (0, 0)) (by (with_reducible repeat (first | refine blk_drewN ?_ _ | refine blk_drew ?_ | refine blk_alloc ?_ _)); exact BK331.out)) : gb340 ≠ gb331)); clear HO_22; clear BK331; clear HB; have HO_22 := n0_; have BK331 := n1_; have HB := n2_; have BK340 := n3_; have GW340 := n4_; have GE340 := n5_; have NB331_340 := n6_; have NB340_331 := n7_; clear n0_ n1_ n2_ n3_ n4_ n5_ n6_ n7_; clear hb hbox hg; have hnb18 := NB340_331.out; have hnc18 := NB331_340.out; have hcz19_0 : w17.cell? ⟨gb340, 0, none⟩ = some (.int .i64 0) := (blk_cell BK340.out 0).trans rfl; have hcz19_1 : w17.cell? ⟨gb340, 1, none⟩ = some (.int .i64 0) := (blk_cell BK340.out 1).trans rfl; have hcz19_2 : w17.cell? ⟨gb340, 2, none⟩ = some (.int .i64 0) := (blk_cell BK340.out 2).trans rfl; have hfz19_0 := blk_frozen BK340.out 0; have hfz19_1 := blk_frozen BK340.out 1; have hfz19_2 := blk_frozen BK340.out 2) | ((with_reducible refine gate_callee (f := 21) rfl ?_); refine goesL_ (some 29) rfl rfl Try.func21 (by kernel_rfl) rfl #[.agg #[.int .i64 ((rd_T23 y335 x24_1).f0), .int .i64 ((rd_T23 y335 x24_1).f1), .int .i64 ((rd_T23 y335 x24_1).f2)]] rfl (by (try simp only [List.map_toArray, List.map_cons, List.map_nil]); first | done | rfl | (simp only [List.length_drop, List.length_take]; rfl)) ?_; (with_reducible refine (chattelref09_Right.calls k1 ((rd_T23 y335 x24_1).f0) ((rd_T23 y335 x24_1).f1) ((rd_T23 y335 x24_1).f2) t341 _ A12.out).mono ?_); rintro e w20 ⟨rfl, hb⟩; refine ⟨_, rfl, ?_⟩; replace HO_22 := Aside0.mk (Kd.R_below (by (with_reducible repeat (first | apply Kd.R_alloc | apply Kd.R_drewN | apply Kd.R_drew)); exact (Kd.R_mono (Kd.R_far (p := ⟨gb340, 2, none⟩) (Kd.R_far (p := ⟨gb340, 1, none⟩) (Kd.R_far (p := ⟨gb340, 0, none⟩) (Kd.R_mono HO_22.out (fun k_ hk => (⟨hk, hk.2⟩ : _ ∧ k_ ≠ gb340))) (fun _ hk => hk.2) (.int .i64 ((rd_T23 y335 x24_1).f0))) (fun _ hk => hk.2) (.int .i64 ((rd_T23 y335 x24_1).f1))) (fun _ hk => hk.2) (.int .i64 ((rd_T23 y335 x24_1).f2))) (fun _ h_ => h_.1))) hb); replace BK331 := Aside0.mk (blk_below (g := gb331) (o := .cells #[.int .i64 a0_0, .int .i64 a0_1, .int .i64 a0_2] 23 (0, 0)) (by (with_reducible repeat (first | refine blk_drewN ?_ _ | refine blk_drew ?_ | refine blk_alloc ?_ _)); refine blk_far ?_ NB331_340.out _; (with_reducible repeat (first | refine blk_drewN ?_ _ | refine blk_drew ?_ | refine blk_alloc ?_ _)); refine blk_far ?_ NB331_340.out _; (with_reducible repeat (first | refine blk_drewN ?_ _ | refine blk_drew ?_ | refine blk_alloc ?_ _)); refine blk_far ?_ NB331_340.out _; (with_reducible repeat (first | refine blk_drewN ?_ _ | refine blk_drew ?_ | refine blk_alloc ?_ _)); exact BK331.out) hb); replace BK340 := Aside0.mk (blk_below (g := gb340) (o := .cells #[.int .i64 ((rd_T23 y335 x24_1).f0), .int .i64 ((rd_T23 y335 x24_1).f1), .int .i64 ((rd_T23 y335 x24_1).f2)] 23 (0, 0)) (by (with_reducible repeat (first | refine blk_drewN ?_ _ | refine blk_drew ?_ | refine blk_alloc ?_ _)); refine blk_put (cs := #[.int .i64 ((rd_T23 y335 x24_1).f0), .int .i64 ((rd_T23 y335 x24_1).f1), .int .i64 0]) ?_ 2 _ rfl; (with_reducible repeat (first | refine blk_drewN ?_ _ | refine blk_drew ?_ | refine blk_alloc ?_ _)); refine blk_put (cs := #[.int .i64 ((rd_T23 y335 x24_1).f0), .int .i64 0, .int .i64 0]) ?_ 1 _ rfl; (with_reducible repeat (first | refine blk_drewN ?_ _ | refine blk_drew ?_ | refine blk_alloc ?_ _)); refine blk_put (cs := #[.int .i64 0, .int .i64 0, .int .i64 0]) ?_ 0 _ rfl; (with_reducible repeat (first | refine blk_drewN ?_ _ | refine blk_drew ?_ | refine blk_alloc ?_ _)); exact BK340.out) hb); replace HB := Aside0.mk (below_step (by repeat (first | (with_reducible first | exact HB.out | apply below_alloc | apply pw_below_drewN | apply below_drew1 | refine below_set ?_ GE331.out | refine below_set ?_ GE340.out) | exact HB.out)) hb); (try clear hb); (try clear hb2); (try clear hk); (try clear hi); have hcz21_0 : w20.cell? ⟨gb340, 0, none⟩ = some (.int .i64 ((rd_T23 y335 x24_1).f0)) := (blk_cell BK340.out 0).trans rfl; have hcz21_1 : w20.cell? ⟨gb340, 1, none⟩ = some (.int .i64 ((rd_T23 y335 x24_1).f1)) := (blk_cell BK340.out 1).trans rfl; have hcz21_2 : w20.cell? ⟨gb340, 2, none⟩ = some (.int .i64 ((rd_T23 y335 x24_1).f2)) := (blk_cell BK340.out 2).trans rfl; have hfz21_0 := blk_frozen BK340.out 0; have hfz21_1 := blk_frozen BK340.out 1; have hfz21_2 := blk_frozen BK340.out 2) | ((with_reducible refine gate_callee (f := 22) rfl ?_); refine goesL_ (some 32) rfl rfl Try.func22 (by kernel_rfl) rfl #[.agg #[.int .i64 ((rd_T23 y335 x24_1).f0), .int .i64 ((rd_T23 y335 x24_1).f1), .int .i64 ((rd_T23 y335 x24_1).f2)]] rfl (by (try simp only [List.map_toArray, List.map_cons, List.map_nil]); first | done | rfl | (simp only [List.length_drop, List.length_take]; rfl)) ?_; (with_reducible refine (date_Number.calls k1 ((rd_T23 y335 x24_1).f0) ((rd_T23 y335 x24_1).f1) ((rd_T23 y335 x24_1).f2) t342 t343 _ A13.out).mono ?_); rintro e w22 ⟨rfl, hb⟩; refine ⟨_, rfl, ?_⟩; replace HO_22 := Aside0.mk (rb HO_22.out hb); replace BK331 := Aside0.mk (bb BK331.out hb); replace BK340 := Aside0.mk (bb BK340.out hb); replace HB := Aside0.mk (bs HB.out hb); (try clear hb); (try clear hb2); (try clear hk); (try clear hi); have hcz23_0 : w22.cell? ⟨gb340, 0, none⟩ = some (.int .i64 ((rd_T23 y335 x24_1).f0)) := (blk_cell BK340.out 0).trans rfl; have hcz23_1 : w22.cell? ⟨gb340, 1, none⟩ = some (.int .i64 ((rd_T23 y335 x24_1).f1)) := (blk_cell BK340.out 1).trans rfl; have hcz23_2 : w22.cell? ⟨gb340, 2, none⟩ = some (.int .i64 ((rd_T23 y335 x24_1).f2)) := (blk_cell BK340.out 2).trans rfl; have hfz23_0 := blk_frozen BK340.out 0; have hfz23_1 := blk_frozen BK340.out 1; have hfz23_2 := blk_frozen BK340.out 2) | ((with_reducible refine gate_callee (f := 23) rfl ?_); refine goesL_ (some 37) rfl rfl Try.func23 (by kernel_rfl) rfl #[.agg #[.int .i64 ((rd_T23 y335 x24_1).f0), .int .i64 ((rd_T23 y335 x24_1).f1), .int .i64 ((rd_T23 y335 x24_1).f2)]] rfl (by (try simp only [List.map_toArray, List.map_cons, List.map_nil]); first | done | rfl | (simp only [List.length_drop, List.length_take]; rfl)) ?_; (with_reducible refine (date_Weekday.calls k1 ((rd_T23 y335 x24_1).f0) ((rd_T23 y335 x24_1).f1) ((rd_T23 y335 x24_1).f2) t344 t345 _ A14.out).mono ?_); rintro e w24 ⟨rfl, hb⟩; refine ⟨_, rfl, ?_⟩; replace HO_22 := Aside0.mk (rb HO_22.out hb); replace BK331 := Aside0.mk (bb BK331.out hb); replace BK340 := Aside0.mk (bb BK340.out hb); replace HB := Aside0.mk (bs HB.out hb); (try clear hb); (try clear hb2); (try clear hk); (try clear hi); have hcz25_0 : w24.cell? ⟨gb340, 0, none⟩ = some (.int .i64 ((rd_T23 y335 x24_1).f0)) := (blk_cell BK340.out 0).trans rfl; have hcz25_1 : w24.cell? ⟨gb340, 1, none⟩ = some (.int .i64 ((rd_T23 y335 x24_1).f1)) := (blk_cell BK340.out 1).trans rfl; have hcz25_2 : w24.cell? ⟨gb340, 2, none⟩ = some (.int .i64 ((rd_T23 y335 x24_1).f2)) := (blk_cell BK340.out 2).trans rfl; have hfz25_0 := blk_frozen BK340.out 0; have hfz25_1 := blk_frozen BK340.out 1; have hfz25_2 := blk_frozen BK340.out 2) | ((with_reducible refine gate_callee (f := 24) rfl ?_); refine goesL_ (some 42) rfl rfl Try.func24 (by kernel_rfl) rfl #[.agg #[.int .i64 ((rd_T23 y335 x24_1).f0), .int .i64 ((rd_T23 y335 x24_1).f1), .int .i64 ((rd_T23 y335 x24_1).f2)]] rfl (by (try simp only [List.map_toArray, List.map_cons, List.map_nil]); first | done | rfl | (simp only [List.length_drop, List.length_take]; rfl)) ?_; (with_reducible refine (date_Print.calls k1 ((rd_T23 y335 x24_1).f0) ((rd_T23 y335 x24_1).f1) ((rd_T23 y335 x24_1).f2) t346 t347 _ A15.out).mono ?_); rintro e w26 ⟨rfl, hb⟩; refine ⟨_, rfl, ?_⟩; replace HO_22 := Aside0.mk (rb HO_22.out hb); replace BK331 := Aside0.mk (bb BK331.out hb); replace BK340 := Aside0.mk (bb BK340.out hb); replace HB := Aside0.mk (bs HB.out hb); (try clear hb); (try clear hb2); (try clear hk); (try clear hi)))
        (try simp only [Act.put, List.setIfInBounds_toArray, List.set_cons_zero, List.set_cons_succ])
        go_cut [71] (fun v71 wc => ∃ (kq : Nat) (x71_15 : Bool), v71 = .bool x71_15 ∧ Aside0 (chattellaw09_DateTells.j1 kq t341 t342 t343 t344 t345 t346 t347 y335 (y335.length : Int) x24_1 x71_15 ((rd_T23 y335 x24_1).f0) ((rd_T23 y335 x24_1).f1) ((rd_T23 y335 x24_1).f2) = some r) ∧ Aside0 (kq ≤ k1) ∧ Aside0 (Kd.R k23 23 wc w.heap.size (fun k_ => k_ ≠ gb331 ∧ k_ ≠ gb340) (.slice (some ad339) y335.length co8) y335) ∧ Aside0 (wc.heap[gb331]? = some (.cells #[.int .i64 a0_0, .int .i64 a0_1, .int .i64 a0_2] 23 (0, 0))) ∧ Aside0 (wc.heap[gb340]? = some (.cells #[.int .i64 ((rd_T23 y335 x24_1).f0), .int .i64 ((rd_T23 y335 x24_1).f1), .int .i64 ((rd_T23 y335 x24_1).f2)] 23 (0, 0))) ∧ Aside0 (Below w.heap.size w wc))
        case first =>
          have H := HC16.out
          clear HC16
          replace H := Option.bind_eq_some_iff.mp H
          obtain ⟨t348, A270, H⟩ := H
          replace H : ((chattelref09_Leap.f k1 ((rd_T23 y335 x24_1).f0)).bind fun t349 => (if (t348 != t349) = true then (chattellaw09_DateTells.j1 k1 t341 t342 t343 t344 t345 t346 t347 y335 (y335.length : Int) x24_1 true ((rd_T23 y335 x24_1).f0) ((rd_T23 y335 x24_1).f1) ((rd_T23 y335 x24_1).f2)) else ((date_Days.f k1 ((rd_T23 y335 x24_1).f0) ((rd_T23 y335 x24_1).f1)).bind fun t350 => ((chattelref09_Days.f k1 ((rd_T23 y335 x24_1).f0) ((rd_T23 y335 x24_1).f1)).bind fun t351 => (if t350 = t351 then ((date_Check.f k1 ((rd_T23 y335 x24_1).f0) ((rd_T23 y335 x24_1).f1) ((rd_T23 y335 x24_1).f2)).bind fun t352 => (chattellaw09_DateTells.j1 k1 t341 t342 t343 t344 t345 t346 t347 y335 (y335.length : Int) x24_1 ((t352 == 0) != t341) ((rd_T23 y335 x24_1).f0) ((rd_T23 y335 x24_1).f1) ((rd_T23 y335 x24_1).f2))) else (chattellaw09_DateTells.j1 k1 t341 t342 t343 t344 t345 t346 t347 y335 (y335.length : Int) x24_1 true ((rd_T23 y335 x24_1).f0) ((rd_T23 y335 x24_1).f1) ((rd_T23 y335 x24_1).f2))))))) = some r := H
          have A27 := Aside0.mk A270
          clear A270
          replace H := Option.bind_eq_some_iff.mp H
          obtain ⟨t349, A280, H⟩ := H
          replace H : (if (t348 != t349) = true then (chattellaw09_DateTells.j1 k1 t341 t342 t343 t344 t345 t346 t347 y335 (y335.length : Int) x24_1 true ((rd_T23 y335 x24_1).f0) ((rd_T23 y335 x24_1).f1) ((rd_T23 y335 x24_1).f2)) else ((date_Days.f k1 ((rd_T23 y335 x24_1).f0) ((rd_T23 y335 x24_1).f1)).bind fun t350 => ((chattelref09_Days.f k1 ((rd_T23 y335 x24_1).f0) ((rd_T23 y335 x24_1).f1)).bind fun t351 => (if t350 = t351 then ((date_Check.f k1 ((rd_T23 y335 x24_1).f0) ((rd_T23 y335 x24_1).f1) ((rd_T23 y335 x24_1).f2)).bind fun t352 => (chattellaw09_DateTells.j1 k1 t341 t342 t343 t344 t345 t346 t347 y335 (y335.length : Int) x24_1 ((t352 == 0) != t341) ((rd_T23 y335 x24_1).f0) ((rd_T23 y335 x24_1).f1) ((rd_T23 y335 x24_1).f2))) else (chattellaw09_DateTells.j1 k1 t341 t342 t343 t344 t345 t346 t347 y335 (y335.length : Int) x24_1 true ((rd_T23 y335 x24_1).f0) ((rd_T23 y335 x24_1).f1) ((rd_T23 y335 x24_1).f2)))))) = some r := H
          have A28 := Aside0.mk A280
          clear A280
          by_cases c29 : (t348 != t349) = true
          · rw [if_pos c29] at H
            have c29b0 : (t348 != t349) = true := c29
            (try (have c29b1 : decide (t348 = t349) = false := by simpa using c29))
            (try (have c29b2 : (t348 == t349) = false := by simpa using c29))
            (try (have c29b3 : ¬ (t348 = t349) := by simpa using c29))
            clear c29
            (first | rw [c29b0] | (simp only [i64_w, i32_w]; rw [c29b0]) | skip)
            have H' := Aside0.mk H
            clear H
            try go_wp2
            replace HO_22 := Aside0.mk (Kd.R_drew HO_22.out)
            replace BK331 := Aside0.mk (blk_drew BK331.out)
            replace BK340 := Aside0.mk (blk_drew BK340.out)
            replace HB := Aside0.mk (below_drew1 HB.out)
            refine start_ (n := 27) (S := fun w' => w'.cell? ⟨gb340, 0, none⟩ = some (.int .i64 ((rd_T23 y335 x24_1).f0)) ∧ w'.cell? ⟨gb340, 1, none⟩ = some (.int .i64 ((rd_T23 y335 x24_1).f1)) ∧ w'.cell? ⟨gb340, 2, none⟩ = some (.int .i64 ((rd_T23 y335 x24_1).f2))) (ds := []) (fl 0 27 []) (by kernel_rfl) rfl rfl ⟨(blk_cell BK340.out 0).trans rfl, (blk_cell BK340.out 1).trans rfl, (blk_cell BK340.out 2).trans rfl⟩ (fun hHeld => ?_); refine with_tabW chattellaw09_DateTells.tab8 chattellaw09_DateTells.bits8 (fun HT_ HW_ => ?_)
            generalize w26.drew = w30 at HO_22 BK331 BK340 HB hHeld ⊢
            refine pure_ (i := 0) (N := some 45) (v := ?_) (a' := ?_) (fl 1 27 []) rfl rfl (any_of HT_.out (by kernel_rfl)) (fun _ _ _ h => h) (Or.inl ⟨by rfl, ?_⟩) ?_ ?_
            rotate_left
            · intro w'
              go_simp
              with_reducible rfl
            rotate_left
            · simp only [Act.put, List.setIfInBounds_toArray, List.set_cons_zero, List.set_cons_succ, i64_w, i32_w]
              rfl
            refine pure_ (i := 3) (N := some 48) (v := ?_) (a' := ?_) (fl 1 27 [3]) rfl rfl (any_of HT_.out (by kernel_rfl)) (fun _ _ _ h => h) (Or.inl ⟨by rfl, ?_⟩) ?_ ?_
            rotate_left
            · intro w'
              go_simp
              with_reducible rfl
            rotate_left
            · simp only [Act.put, List.setIfInBounds_toArray, List.set_cons_zero, List.set_cons_succ, i64_w, i32_w]
              rfl
            refine take_ (i := 1) (N := some 46) (v := ?_) (a' := ?_) (fl 2 27 [3]) rfl rfl (take_ofW HT_.out HW_.out (by kernel_rfl)) (fun _ _ _ h => h) (Or.inl ⟨by rfl, ?_⟩) hHeld ?_ ?_
            rotate_left
            · rintro w' ⟨s0, s1, s2⟩
              go_simp
              with_reducible rfl
            rotate_left
            · simp only [Act.put, List.setIfInBounds_toArray, List.set_cons_zero, List.set_cons_succ, i64_w, i32_w]
              rfl
            refine take_ (i := 4) (N := some 49) (v := ?_) (a' := ?_) (fl 2 27 [3, 4]) rfl rfl (take_ofW HT_.out HW_.out (by kernel_rfl)) (fun _ _ _ h => h) (Or.inl ⟨by rfl, ?_⟩) hHeld ?_ ?_
            rotate_left
            · rintro w' ⟨s0, s1, s2⟩
              go_simp
              with_reducible rfl
            rotate_left
            · simp only [Act.put, List.setIfInBounds_toArray, List.set_cons_zero, List.set_cons_succ, i64_w, i32_w]
              rfl
            refine one_ (i := 2) (N := some 47) (fl 5 27 []) rfl rfl (one_of HT_.out (by kernel_rfl)) (by decide) (fun K hK => ?_)
            refine goes_ Try.func25 (by kernel_rfl) rfl #[.int .i64 ((rd_T23 y335 x24_1).f0)] (by rfl) rfl rfl (by (try simp only [List.map_toArray, List.map_cons, List.map_nil]); first | done | rfl | (simp only [List.length_drop, List.length_take]; rfl)) ?_
            with_reducible refine (date_Leap.calls ((rd_T23 y335 x24_1).f0) t348 _ A27.out).mono ?_
            rintro e w' ⟨rfl, ⟨nd, rfl⟩⟩
            refine ⟨_, rfl, ?_⟩
            refine hK.out _ _ ⟨(blk_cell BK340.out 0).trans rfl, (blk_cell BK340.out 1).trans rfl, (blk_cell BK340.out 2).trans rfl⟩ (fun hHeld => ?_)
            clear hK K
            refine norm_ (a' := ?_) ?_ ?_
            rotate_left
            · show Act.put _ (some 47) _ = _
              simp only [Act.put, List.setIfInBounds_toArray, List.set_cons_zero, List.set_cons_succ, i64_w, i32_w]
              rfl
            refine one_ (i := 5) (N := some 50) (fl 6 27 []) rfl rfl (one_of HT_.out (by kernel_rfl)) (by decide) (fun K hK => ?_)
            refine goes_ Try.func26 (by kernel_rfl) rfl #[.int .i64 ((rd_T23 y335 x24_1).f0)] (by rfl) rfl rfl (by (try simp only [List.map_toArray, List.map_cons, List.map_nil]); first | done | rfl | (simp only [List.length_drop, List.length_take]; rfl)) ?_
            with_reducible refine (chattelref09_Leap.calls k1 ((rd_T23 y335 x24_1).f0) t349 _ A28.out).mono ?_
            rintro e w' ⟨rfl, ⟨nd, rfl⟩⟩
            refine ⟨_, rfl, ?_⟩
            refine hK.out _ _ ⟨(blk_cell BK340.out 0).trans rfl, (blk_cell BK340.out 1).trans rfl, (blk_cell BK340.out 2).trans rfl⟩ (fun hHeld => ?_)
            clear hK K
            refine norm_ (a' := ?_) ?_ ?_
            rotate_left
            · show Act.put _ (some 50) _ = _
              simp only [Act.put, List.setIfInBounds_toArray, List.set_cons_zero, List.set_cons_succ, i64_w, i32_w]
              rfl
            refine pure_ (i := 6) (N := some 51) (v := ?_) (a' := ?_) (fl 7 27 []) rfl rfl (any_of HT_.out (by kernel_rfl)) (fun _ _ _ h => h) (Or.inl ⟨by rfl, ?_⟩) ?_ ?_
            rotate_left
            · intro w'
              go_simp
              with_reducible rfl
            rotate_left
            · simp only [Act.put, List.setIfInBounds_toArray, List.set_cons_zero, List.set_cons_succ, i64_w, i32_w]
              rfl
            refine pure_ (i := 7) (N := some 52) (v := ?_) (a' := ?_) (fl 8 27 []) rfl rfl (any_of HT_.out (by kernel_rfl)) (fun _ _ _ h => h) (Or.inl ⟨by rfl, ?_⟩) ?_ ?_
            rotate_left
            · intro w'
              go_simp
              with_reducible rfl
            rotate_left
            · simp only [Act.put, List.setIfInBounds_toArray, List.set_cons_zero, List.set_cons_succ, i64_w, i32_w]
              rfl
            refine pure_ (i := 8) (N := some 53) (v := undef) (a' := ?_) (fl 9 27 []) rfl rfl (any_of HT_.out (by kernel_rfl)) (fun _ _ _ h => h) (Or.inr ⟨by rfl, rfl⟩) ?_ ?_
            rotate_left
            · simp only [Act.put, List.setIfInBounds_toArray, List.set_cons_zero, List.set_cons_succ, i64_w, i32_w]
              rfl
            refine pure_ (i := 9) (N := some 54) (v := undef) (a' := ?_) (fl 10 27 []) rfl rfl (any_of HT_.out (by kernel_rfl)) (fun _ _ _ h => h) (Or.inr ⟨by rfl, rfl⟩) ?_ ?_
            rotate_left
            · simp only [Act.put, List.setIfInBounds_toArray, List.set_cons_zero, List.set_cons_succ, i64_w, i32_w]
              rfl
            refine pure_ (i := 10) (N := some 55) (v := undef) (a' := ?_) (fl 11 27 []) rfl rfl (any_of HT_.out (by kernel_rfl)) (fun _ _ _ h => h) (Or.inr ⟨by rfl, rfl⟩) ?_ ?_
            rotate_left
            · simp only [Act.put, List.setIfInBounds_toArray, List.set_cons_zero, List.set_cons_succ, i64_w, i32_w]
              rfl
            refine pure_ (i := 11) (N := some 56) (v := undef) (a' := ?_) (fl 12 27 []) rfl rfl (any_of HT_.out (by kernel_rfl)) (fun _ _ _ h => h) (Or.inr ⟨by rfl, rfl⟩) ?_ ?_
            rotate_left
            · simp only [Act.put, List.setIfInBounds_toArray, List.set_cons_zero, List.set_cons_succ, i64_w, i32_w]
              rfl
            refine pure_ (i := 12) (N := some 57) (v := undef) (a' := ?_) (fl 13 27 []) rfl rfl (any_of HT_.out (by kernel_rfl)) (fun _ _ _ h => h) (Or.inr ⟨by rfl, rfl⟩) ?_ ?_
            rotate_left
            · simp only [Act.put, List.setIfInBounds_toArray, List.set_cons_zero, List.set_cons_succ, i64_w, i32_w]
              rfl
            refine pure_ (i := 13) (N := some 58) (v := undef) (a' := ?_) (fl 14 27 []) rfl rfl (any_of HT_.out (by kernel_rfl)) (fun _ _ _ h => h) (Or.inr ⟨by rfl, rfl⟩) ?_ ?_
            rotate_left
            · simp only [Act.put, List.setIfInBounds_toArray, List.set_cons_zero, List.set_cons_succ, i64_w, i32_w]
              rfl
            refine pure_ (i := 14) (N := some 59) (v := undef) (a' := ?_) (fl 15 27 []) rfl rfl (any_of HT_.out (by kernel_rfl)) (fun _ _ _ h => h) (Or.inr ⟨by rfl, rfl⟩) ?_ ?_
            rotate_left
            · simp only [Act.put, List.setIfInBounds_toArray, List.set_cons_zero, List.set_cons_succ, i64_w, i32_w]
              rfl
            refine pure_ (i := 15) (N := some 60) (v := undef) (a' := ?_) (fl 16 27 []) rfl rfl (any_of HT_.out (by kernel_rfl)) (fun _ _ _ h => h) (Or.inr ⟨by rfl, rfl⟩) ?_ ?_
            rotate_left
            · simp only [Act.put, List.setIfInBounds_toArray, List.set_cons_zero, List.set_cons_succ, i64_w, i32_w]
              rfl
            refine pure_ (i := 16) (N := some 61) (v := undef) (a' := ?_) (fl 17 27 []) rfl rfl (any_of HT_.out (by kernel_rfl)) (fun _ _ _ h => h) (Or.inr ⟨by rfl, rfl⟩) ?_ ?_
            rotate_left
            · simp only [Act.put, List.setIfInBounds_toArray, List.set_cons_zero, List.set_cons_succ, i64_w, i32_w]
              rfl
            refine pure_ (i := 17) (N := some 62) (v := undef) (a' := ?_) (fl 18 27 []) rfl rfl (any_of HT_.out (by kernel_rfl)) (fun _ _ _ h => h) (Or.inr ⟨by rfl, rfl⟩) ?_ ?_
            rotate_left
            · simp only [Act.put, List.setIfInBounds_toArray, List.set_cons_zero, List.set_cons_succ, i64_w, i32_w]
              rfl
            refine pure_ (i := 18) (N := some 63) (v := undef) (a' := ?_) (fl 19 27 []) rfl rfl (any_of HT_.out (by kernel_rfl)) (fun _ _ _ h => h) (Or.inr ⟨by rfl, rfl⟩) ?_ ?_
            rotate_left
            · simp only [Act.put, List.setIfInBounds_toArray, List.set_cons_zero, List.set_cons_succ, i64_w, i32_w]
              rfl
            refine pure_ (i := 19) (N := some 64) (v := ?_) (a' := ?_) (fl 20 27 []) rfl rfl (any_of HT_.out (by kernel_rfl)) (fun _ _ _ h => h) (Or.inl ⟨by rfl, ?_⟩) ?_ ?_
            rotate_left
            · intro w'
              go_simp
              with_reducible rfl
            rotate_left
            · simp only [Act.put, List.setIfInBounds_toArray, List.set_cons_zero, List.set_cons_succ, i64_w, i32_w]
              rfl
            refine pure_ (i := 20) (N := some 65) (v := ?_) (a' := ?_) (fl 21 27 []) rfl rfl (any_of HT_.out (by kernel_rfl)) (fun _ _ _ h => h) (Or.inl ⟨by rfl, ?_⟩) ?_ ?_
            rotate_left
            · intro w'
              go_simp
              with_reducible rfl
            rotate_left
            · simp only [Act.put, List.setIfInBounds_toArray, List.set_cons_zero, List.set_cons_succ, i64_w, i32_w]
              rfl
            refine pure_ (i := 21) (N := some 66) (v := undef) (a' := ?_) (fl 22 27 []) rfl rfl (any_of HT_.out (by kernel_rfl)) (fun _ _ _ h => h) (Or.inr ⟨by rfl, rfl⟩) ?_ ?_
            rotate_left
            · simp only [Act.put, List.setIfInBounds_toArray, List.set_cons_zero, List.set_cons_succ, i64_w, i32_w]
              rfl
            refine pure_ (i := 22) (N := some 67) (v := undef) (a' := ?_) (fl 23 27 []) rfl rfl (any_of HT_.out (by kernel_rfl)) (fun _ _ _ h => h) (Or.inr ⟨by rfl, rfl⟩) ?_ ?_
            rotate_left
            · simp only [Act.put, List.setIfInBounds_toArray, List.set_cons_zero, List.set_cons_succ, i64_w, i32_w]
              rfl
            refine pure_ (i := 23) (N := some 68) (v := undef) (a' := ?_) (fl 24 27 []) rfl rfl (any_of HT_.out (by kernel_rfl)) (fun _ _ _ h => h) (Or.inr ⟨by rfl, rfl⟩) ?_ ?_
            rotate_left
            · simp only [Act.put, List.setIfInBounds_toArray, List.set_cons_zero, List.set_cons_succ, i64_w, i32_w]
              rfl
            refine pure_ (i := 24) (N := some 69) (v := undef) (a' := ?_) (fl 25 27 []) rfl rfl (any_of HT_.out (by kernel_rfl)) (fun _ _ _ h => h) (Or.inr ⟨by rfl, rfl⟩) ?_ ?_
            rotate_left
            · simp only [Act.put, List.setIfInBounds_toArray, List.set_cons_zero, List.set_cons_succ, i64_w, i32_w]
              rfl
            refine pure_ (i := 25) (N := some 70) (v := undef) (a' := ?_) (fl 26 27 []) rfl rfl (any_of HT_.out (by kernel_rfl)) (fun _ _ _ h => h) (Or.inr ⟨by rfl, rfl⟩) ?_ ?_
            rotate_left
            · simp only [Act.put, List.setIfInBounds_toArray, List.set_cons_zero, List.set_cons_succ, i64_w, i32_w]
              rfl
            refine pure_ (i := 26) (N := some 71) (v := ?_) (a' := ?_) (fl 27 27 []) rfl rfl (any_of HT_.out (by kernel_rfl)) (fun _ _ _ h => h) (Or.inl ⟨by rfl, ?_⟩) ?_ ?_
            rotate_left
            · intro w'
              go_simp
              with_reducible rfl
            rotate_left
            · simp only [Act.put, List.setIfInBounds_toArray, List.set_cons_zero, List.set_cons_succ, i64_w, i32_w]
              rfl
            refine done_ (done_of HT_.out (by kernel_rfl)) ?_
            try go_wp2
            (refine Met.intro ?_; go_step; (repeat apply Exists.intro); refine ⟨?rel, ?frame⟩)
            case frame => first | rfl | (rw [c29b0]; first | done | rfl) | (rw [c11b0]; first | done | rfl) | (rw [c10b0]; first | done | rfl) | (rw [c9b0]; first | done | rfl) | (simp only [c9b0, c10b0, c11b0, c29b0]; first | done | rfl)
            case rel => exact ⟨_, (true), (by first | rfl | (simp; done) | (simp [*]; done)), H', ⟨by have := HK1.out; first | omega | exact Nat.le_refl _⟩, ⟨by (with_reducible repeat (first | apply Kd.R_alloc | apply Kd.R_drewN | apply Kd.R_drew)); exact HO_22.out⟩, ⟨by (with_reducible repeat (first | refine blk_drewN ?_ _ | refine blk_drew ?_ | refine blk_alloc ?_ _)); exact BK331.out⟩, ⟨by (with_reducible repeat (first | refine blk_drewN ?_ _ | refine blk_drew ?_ | refine blk_alloc ?_ _)); exact BK340.out⟩, ⟨by repeat (first | (with_reducible first | exact HB.out | apply below_alloc | apply pw_below_drewN | apply below_drew1 | refine below_set ?_ GE331.out | refine below_set ?_ GE340.out) | exact HB.out)⟩⟩
          · rw [if_neg c29] at H
            have c29b0 : (t348 != t349) = false := by simpa using c29
            (try (have c29b1 : decide (t348 = t349) = true := by simpa using c29))
            (try (have c29b2 : (t348 == t349) = true := by simpa using c29))
            clear c29
            (first | rw [c29b0] | (simp only [i64_w, i32_w]; rw [c29b0]) | skip)
            replace H := Option.bind_eq_some_iff.mp H
            obtain ⟨t350, A310, H⟩ := H
            replace H : ((chattelref09_Days.f k1 ((rd_T23 y335 x24_1).f0) ((rd_T23 y335 x24_1).f1)).bind fun t351 => (if t350 = t351 then ((date_Check.f k1 ((rd_T23 y335 x24_1).f0) ((rd_T23 y335 x24_1).f1) ((rd_T23 y335 x24_1).f2)).bind fun t352 => (chattellaw09_DateTells.j1 k1 t341 t342 t343 t344 t345 t346 t347 y335 (y335.length : Int) x24_1 ((t352 == 0) != t341) ((rd_T23 y335 x24_1).f0) ((rd_T23 y335 x24_1).f1) ((rd_T23 y335 x24_1).f2))) else (chattellaw09_DateTells.j1 k1 t341 t342 t343 t344 t345 t346 t347 y335 (y335.length : Int) x24_1 true ((rd_T23 y335 x24_1).f0) ((rd_T23 y335 x24_1).f1) ((rd_T23 y335 x24_1).f2)))) = some r := H
            have A31 := Aside0.mk A310
            clear A310
            replace H := Option.bind_eq_some_iff.mp H
            obtain ⟨t351, A320, H⟩ := H
            replace H : (if t350 = t351 then ((date_Check.f k1 ((rd_T23 y335 x24_1).f0) ((rd_T23 y335 x24_1).f1) ((rd_T23 y335 x24_1).f2)).bind fun t352 => (chattellaw09_DateTells.j1 k1 t341 t342 t343 t344 t345 t346 t347 y335 (y335.length : Int) x24_1 ((t352 == 0) != t341) ((rd_T23 y335 x24_1).f0) ((rd_T23 y335 x24_1).f1) ((rd_T23 y335 x24_1).f2))) else (chattellaw09_DateTells.j1 k1 t341 t342 t343 t344 t345 t346 t347 y335 (y335.length : Int) x24_1 true ((rd_T23 y335 x24_1).f0) ((rd_T23 y335 x24_1).f1) ((rd_T23 y335 x24_1).f2))) = some r := H
            have A32 := Aside0.mk A320
            clear A320
            by_cases c33 : t350 = t351
            · rw [if_pos c33] at H
              have c33b0 : (t350 == t351) = true := beq_iff_eq.mpr c33
              have c33b1 : (t350 != t351) = false := bne_eq_false_iff_eq.mpr c33
              clear c33
              replace H := Option.bind_eq_some_iff.mp H
              obtain ⟨t352, A340, H⟩ := H
              replace H : (chattellaw09_DateTells.j1 k1 t341 t342 t343 t344 t345 t346 t347 y335 (y335.length : Int) x24_1 ((t352 == 0) != t341) ((rd_T23 y335 x24_1).f0) ((rd_T23 y335 x24_1).f1) ((rd_T23 y335 x24_1).f2)) = some r := H
              have A34 := Aside0.mk A340
              clear A340
              have H' := Aside0.mk H
              clear H
              try go_wp2
              replace HO_22 := Aside0.mk (Kd.R_drew HO_22.out)
              replace BK331 := Aside0.mk (blk_drew BK331.out)
              replace BK340 := Aside0.mk (blk_drew BK340.out)
              replace HB := Aside0.mk (below_drew1 HB.out)
              refine start_ (n := 27) (S := fun w' => w'.cell? ⟨gb340, 0, none⟩ = some (.int .i64 ((rd_T23 y335 x24_1).f0)) ∧ w'.cell? ⟨gb340, 1, none⟩ = some (.int .i64 ((rd_T23 y335 x24_1).f1)) ∧ w'.cell? ⟨gb340, 2, none⟩ = some (.int .i64 ((rd_T23 y335 x24_1).f2))) (ds := []) (fl 0 27 []) (by kernel_rfl) rfl rfl ⟨(blk_cell BK340.out 0).trans rfl, (blk_cell BK340.out 1).trans rfl, (blk_cell BK340.out 2).trans rfl⟩ (fun hHeld => ?_); refine with_tabW chattellaw09_DateTells.tab8 chattellaw09_DateTells.bits8 (fun HT_ HW_ => ?_)
              generalize w26.drew = w35 at HO_22 BK331 BK340 HB hHeld ⊢
              refine pure_ (i := 0) (N := some 45) (v := ?_) (a' := ?_) (fl 1 27 []) rfl rfl (any_of HT_.out (by kernel_rfl)) (fun _ _ _ h => h) (Or.inl ⟨by rfl, ?_⟩) ?_ ?_
              rotate_left
              · intro w'
                go_simp
                with_reducible rfl
              rotate_left
              · simp only [Act.put, List.setIfInBounds_toArray, List.set_cons_zero, List.set_cons_succ, i64_w, i32_w]
                rfl
              refine pure_ (i := 3) (N := some 48) (v := ?_) (a' := ?_) (fl 1 27 [3]) rfl rfl (any_of HT_.out (by kernel_rfl)) (fun _ _ _ h => h) (Or.inl ⟨by rfl, ?_⟩) ?_ ?_
              rotate_left
              · intro w'
                go_simp
                with_reducible rfl
              rotate_left
              · simp only [Act.put, List.setIfInBounds_toArray, List.set_cons_zero, List.set_cons_succ, i64_w, i32_w]
                rfl
              refine take_ (i := 1) (N := some 46) (v := ?_) (a' := ?_) (fl 2 27 [3]) rfl rfl (take_ofW HT_.out HW_.out (by kernel_rfl)) (fun _ _ _ h => h) (Or.inl ⟨by rfl, ?_⟩) hHeld ?_ ?_
              rotate_left
              · rintro w' ⟨s0, s1, s2⟩
                go_simp
                with_reducible rfl
              rotate_left
              · simp only [Act.put, List.setIfInBounds_toArray, List.set_cons_zero, List.set_cons_succ, i64_w, i32_w]
                rfl
              refine take_ (i := 4) (N := some 49) (v := ?_) (a' := ?_) (fl 2 27 [3, 4]) rfl rfl (take_ofW HT_.out HW_.out (by kernel_rfl)) (fun _ _ _ h => h) (Or.inl ⟨by rfl, ?_⟩) hHeld ?_ ?_
              rotate_left
              · rintro w' ⟨s0, s1, s2⟩
                go_simp
                with_reducible rfl
              rotate_left
              · simp only [Act.put, List.setIfInBounds_toArray, List.set_cons_zero, List.set_cons_succ, i64_w, i32_w]
                rfl
              refine one_ (i := 2) (N := some 47) (fl 5 27 []) rfl rfl (one_of HT_.out (by kernel_rfl)) (by decide) (fun K hK => ?_)
              refine goes_ Try.func25 (by kernel_rfl) rfl #[.int .i64 ((rd_T23 y335 x24_1).f0)] (by rfl) rfl rfl (by (try simp only [List.map_toArray, List.map_cons, List.map_nil]); first | done | rfl | (simp only [List.length_drop, List.length_take]; rfl)) ?_
              with_reducible refine (date_Leap.calls ((rd_T23 y335 x24_1).f0) t348 _ A27.out).mono ?_
              rintro e w' ⟨rfl, ⟨nd, rfl⟩⟩
              refine ⟨_, rfl, ?_⟩
              refine hK.out _ _ ⟨(blk_cell BK340.out 0).trans rfl, (blk_cell BK340.out 1).trans rfl, (blk_cell BK340.out 2).trans rfl⟩ (fun hHeld => ?_)
              clear hK K
              refine norm_ (a' := ?_) ?_ ?_
              rotate_left
              · show Act.put _ (some 47) _ = _
                simp only [Act.put, List.setIfInBounds_toArray, List.set_cons_zero, List.set_cons_succ, i64_w, i32_w]
                rfl
              refine one_ (i := 5) (N := some 50) (fl 6 27 []) rfl rfl (one_of HT_.out (by kernel_rfl)) (by decide) (fun K hK => ?_)
              refine goes_ Try.func26 (by kernel_rfl) rfl #[.int .i64 ((rd_T23 y335 x24_1).f0)] (by rfl) rfl rfl (by (try simp only [List.map_toArray, List.map_cons, List.map_nil]); first | done | rfl | (simp only [List.length_drop, List.length_take]; rfl)) ?_
              with_reducible refine (chattelref09_Leap.calls k1 ((rd_T23 y335 x24_1).f0) t349 _ A28.out).mono ?_
              rintro e w' ⟨rfl, ⟨nd, rfl⟩⟩
              refine ⟨_, rfl, ?_⟩
              refine hK.out _ _ ⟨(blk_cell BK340.out 0).trans rfl, (blk_cell BK340.out 1).trans rfl, (blk_cell BK340.out 2).trans rfl⟩ (fun hHeld => ?_)
              clear hK K
              refine norm_ (a' := ?_) ?_ ?_
              rotate_left
              · show Act.put _ (some 50) _ = _
                simp only [Act.put, List.setIfInBounds_toArray, List.set_cons_zero, List.set_cons_succ, i64_w, i32_w]
                rfl
              refine pure_ (i := 6) (N := some 51) (v := ?_) (a' := ?_) (fl 7 27 []) rfl rfl (any_of HT_.out (by kernel_rfl)) (fun _ _ _ h => h) (Or.inl ⟨by rfl, ?_⟩) ?_ ?_
              rotate_left
              · intro w'
                go_simp
                with_reducible rfl
              rotate_left
              · simp only [Act.put, List.setIfInBounds_toArray, List.set_cons_zero, List.set_cons_succ, i64_w, i32_w]
                rfl
              refine pure_ (i := 7) (N := some 52) (v := ?_) (a' := ?_) (fl 8 27 []) rfl rfl (any_of HT_.out (by kernel_rfl)) (fun _ _ _ h => h) (Or.inl ⟨by rfl, ?_⟩) ?_ ?_
              rotate_left
              · intro w'
                go_simp
                with_reducible rfl
              rotate_left
              · simp only [Act.put, List.setIfInBounds_toArray, List.set_cons_zero, List.set_cons_succ, i64_w, i32_w]
                rfl
              refine pure_ (i := 8) (N := some 53) (v := ?_) (a' := ?_) (fl 9 27 []) rfl rfl (any_of HT_.out (by kernel_rfl)) (fun _ _ _ h => h) (Or.inl ⟨by rfl, ?_⟩) ?_ ?_
              rotate_left
              · intro w'
                go_simp
                with_reducible rfl
              rotate_left
              · simp only [Act.put, List.setIfInBounds_toArray, List.set_cons_zero, List.set_cons_succ, i64_w, i32_w]
                rfl
              refine pure_ (i := 10) (N := some 55) (v := ?_) (a' := ?_) (fl 9 27 [10]) rfl rfl (any_of HT_.out (by kernel_rfl)) (fun _ _ _ h => h) (Or.inl ⟨by rfl, ?_⟩) ?_ ?_
              rotate_left
              · intro w'
                go_simp
                with_reducible rfl
              rotate_left
              · simp only [Act.put, List.setIfInBounds_toArray, List.set_cons_zero, List.set_cons_succ, i64_w, i32_w]
                rfl
              refine pure_ (i := 13) (N := some 58) (v := ?_) (a' := ?_) (fl 9 27 [10, 13]) rfl rfl (any_of HT_.out (by kernel_rfl)) (fun _ _ _ h => h) (Or.inl ⟨by rfl, ?_⟩) ?_ ?_
              rotate_left
              · intro w'
                go_simp
                with_reducible rfl
              rotate_left
              · simp only [Act.put, List.setIfInBounds_toArray, List.set_cons_zero, List.set_cons_succ, i64_w, i32_w]
                rfl
              refine pure_ (i := 15) (N := some 60) (v := ?_) (a' := ?_) (fl 9 27 [10, 13, 15]) rfl rfl (any_of HT_.out (by kernel_rfl)) (fun _ _ _ h => h) (Or.inl ⟨by rfl, ?_⟩) ?_ ?_
              rotate_left
              · intro w'
                go_simp
                with_reducible rfl
              rotate_left
              · simp only [Act.put, List.setIfInBounds_toArray, List.set_cons_zero, List.set_cons_succ, i64_w, i32_w]
                rfl
              refine take_ (i := 9) (N := some 54) (v := ?_) (a' := ?_) (fl 11 27 [13, 15]) rfl rfl (take_ofW HT_.out HW_.out (by kernel_rfl)) (fun _ _ _ h => h) (Or.inl ⟨by rfl, ?_⟩) hHeld ?_ ?_
              rotate_left
              · rintro w' ⟨s0, s1, s2⟩
                go_simp
                with_reducible rfl
              rotate_left
              · simp only [Act.put, List.setIfInBounds_toArray, List.set_cons_zero, List.set_cons_succ, i64_w, i32_w]
                rfl
              refine take_ (i := 11) (N := some 56) (v := ?_) (a' := ?_) (fl 12 27 [13, 15]) rfl rfl (take_ofW HT_.out HW_.out (by kernel_rfl)) (fun _ _ _ h => h) (Or.inl ⟨by rfl, ?_⟩) hHeld ?_ ?_
              rotate_left
              · rintro w' ⟨s0, s1, s2⟩
                go_simp
                with_reducible rfl
              rotate_left
              · simp only [Act.put, List.setIfInBounds_toArray, List.set_cons_zero, List.set_cons_succ, i64_w, i32_w]
                rfl
              refine take_ (i := 14) (N := some 59) (v := ?_) (a' := ?_) (fl 12 27 [13, 14, 15]) rfl rfl (take_ofW HT_.out HW_.out (by kernel_rfl)) (fun _ _ _ h => h) (Or.inl ⟨by rfl, ?_⟩) hHeld ?_ ?_
              rotate_left
              · rintro w' ⟨s0, s1, s2⟩
                go_simp
                with_reducible rfl
              rotate_left
              · simp only [Act.put, List.setIfInBounds_toArray, List.set_cons_zero, List.set_cons_succ, i64_w, i32_w]
                rfl
              refine take_ (i := 16) (N := some 61) (v := ?_) (a' := ?_) (fl 12 27 [13, 14, 15, 16]) rfl rfl (take_ofW HT_.out HW_.out (by kernel_rfl)) (fun _ _ _ h => h) (Or.inl ⟨by rfl, ?_⟩) hHeld ?_ ?_
              rotate_left
              · rintro w' ⟨s0, s1, s2⟩
                go_simp
                with_reducible rfl
              rotate_left
              · simp only [Act.put, List.setIfInBounds_toArray, List.set_cons_zero, List.set_cons_succ, i64_w, i32_w]
                rfl
              refine one_ (i := 12) (N := some 57) (fl 17 27 []) rfl rfl (one_of HT_.out (by kernel_rfl)) (by decide) (fun K hK => ?_)
              refine goes_ Try.func27 (by kernel_rfl) rfl #[.int .i64 ((rd_T23 y335 x24_1).f0), .int .i64 ((rd_T23 y335 x24_1).f1)] (by rfl) rfl rfl (by (try simp only [List.map_toArray, List.map_cons, List.map_nil]); first | done | rfl | (simp only [List.length_drop, List.length_take]; rfl)) ?_
              with_reducible refine (date_Days.calls k1 ((rd_T23 y335 x24_1).f0) ((rd_T23 y335 x24_1).f1) t350 _ A31.out).mono ?_
              rintro e w' ⟨rfl, ⟨nd, rfl⟩⟩
              refine ⟨_, rfl, ?_⟩
              refine hK.out _ _ ⟨(blk_cell BK340.out 0).trans rfl, (blk_cell BK340.out 1).trans rfl, (blk_cell BK340.out 2).trans rfl⟩ (fun hHeld => ?_)
              clear hK K
              refine norm_ (a' := ?_) ?_ ?_
              rotate_left
              · show Act.put _ (some 57) _ = _
                simp only [Act.put, List.setIfInBounds_toArray, List.set_cons_zero, List.set_cons_succ, i64_w, i32_w]
                rfl
              refine one_ (i := 17) (N := some 62) (fl 18 27 []) rfl rfl (one_of HT_.out (by kernel_rfl)) (by decide) (fun K hK => ?_)
              refine goes_ Try.func28 (by kernel_rfl) rfl #[.int .i64 ((rd_T23 y335 x24_1).f0), .int .i64 ((rd_T23 y335 x24_1).f1)] (by rfl) rfl rfl (by (try simp only [List.map_toArray, List.map_cons, List.map_nil]); first | done | rfl | (simp only [List.length_drop, List.length_take]; rfl)) ?_
              with_reducible refine (chattelref09_Days.calls k1 ((rd_T23 y335 x24_1).f0) ((rd_T23 y335 x24_1).f1) t351 _ A32.out).mono ?_
              rintro e w' ⟨rfl, ⟨nd, rfl⟩⟩
              refine ⟨_, rfl, ?_⟩
              refine hK.out _ _ ⟨(blk_cell BK340.out 0).trans rfl, (blk_cell BK340.out 1).trans rfl, (blk_cell BK340.out 2).trans rfl⟩ (fun hHeld => ?_)
              clear hK K
              refine norm_ (a' := ?_) ?_ ?_
              rotate_left
              · show Act.put _ (some 62) _ = _
                simp only [Act.put, List.setIfInBounds_toArray, List.set_cons_zero, List.set_cons_succ, i64_w, i32_w]
                rfl
              refine pure_ (i := 18) (N := some 63) (v := ?_) (a' := ?_) (fl 19 27 []) rfl rfl (any_of HT_.out (by kernel_rfl)) (fun _ _ _ h => h) (Or.inl ⟨by rfl, ?_⟩) ?_ ?_
              rotate_left
              · intro w'
                go_simp
                with_reducible rfl
              rotate_left
              · simp only [Act.put, List.setIfInBounds_toArray, List.set_cons_zero, List.set_cons_succ, i64_w, i32_w]
                rfl
              refine pure_ (i := 19) (N := some 64) (v := ?_) (a' := ?_) (fl 20 27 []) rfl rfl (any_of HT_.out (by kernel_rfl)) (fun _ _ _ h => h) (Or.inl ⟨by rfl, ?_⟩) ?_ ?_
              rotate_left
              · intro w'
                go_simp
                with_reducible rfl
              rotate_left
              · simp only [Act.put, List.setIfInBounds_toArray, List.set_cons_zero, List.set_cons_succ, i64_w, i32_w]
                rfl
              refine pure_ (i := 20) (N := some 65) (v := ?_) (a' := ?_) (fl 21 27 []) rfl rfl (any_of HT_.out (by kernel_rfl)) (fun _ _ _ h => h) (Or.inl ⟨by rfl, ?_⟩) ?_ ?_
              rotate_left
              · intro w'
                go_simp
                with_reducible rfl
              rotate_left
              · simp only [Act.put, List.setIfInBounds_toArray, List.set_cons_zero, List.set_cons_succ, i64_w, i32_w]
                rfl
              refine pure_ (i := 24) (N := some 69) (v := ?_) (a' := ?_) (fl 21 27 [24]) rfl rfl (any_of HT_.out (by kernel_rfl)) (fun _ _ _ h => h) (Or.inl ⟨by rfl, ?_⟩) ?_ ?_
              rotate_left
              · intro w'
                go_simp
                with_reducible rfl
              rotate_left
              · simp only [Act.put, List.setIfInBounds_toArray, List.set_cons_zero, List.set_cons_succ, i64_w, i32_w]
                rfl
              refine take_ (i := 21) (N := some 66) (v := ?_) (a' := ?_) (fl 22 27 [24]) rfl rfl (take_ofW HT_.out HW_.out (by kernel_rfl)) (fun _ _ _ h => h) (Or.inl ⟨by rfl, ?_⟩) hHeld ?_ ?_
              rotate_left
              · rintro w' ⟨s0, s1, s2⟩
                go_simp
                with_reducible rfl
              rotate_left
              · simp only [Act.put, List.setIfInBounds_toArray, List.set_cons_zero, List.set_cons_succ, i64_w, i32_w]
                rfl
              refine one_ (i := 22) (N := some 67) (fl 23 27 [24]) rfl rfl (one_of HT_.out (by kernel_rfl)) (by decide) (fun K hK => ?_)
              refine goes_ Try.func29 (by kernel_rfl) rfl #[.agg #[.int .i64 ((rd_T23 y335 x24_1).f0), .int .i64 ((rd_T23 y335 x24_1).f1), .int .i64 ((rd_T23 y335 x24_1).f2)]] (by rfl) rfl rfl (by (try simp only [List.map_toArray, List.map_cons, List.map_nil]); first | done | rfl | (simp only [List.length_drop, List.length_take]; rfl)) ?_
              with_reducible refine (date_Check.calls k1 ((rd_T23 y335 x24_1).f0) ((rd_T23 y335 x24_1).f1) ((rd_T23 y335 x24_1).f2) t352 _ A34.out).mono ?_
              rintro e w36 ⟨rfl, hb⟩
              refine ⟨_, rfl, ?_⟩
              replace HO_22 := Aside0.mk (rb HO_22.out hb)
              replace BK331 := Aside0.mk (bb BK331.out hb)
              replace BK340 := Aside0.mk (bb BK340.out hb)
              replace HB := Aside0.mk (bs HB.out hb)
              (try clear hb)
              (try clear hb2)
              (try clear hk)
              (try clear hi)
              refine hK.out _ _ ⟨(blk_cell BK340.out 0).trans rfl, (blk_cell BK340.out 1).trans rfl, (blk_cell BK340.out 2).trans rfl⟩ (fun hHeld => ?_)
              clear hK K
              refine norm_ (a' := ?_) ?_ ?_
              rotate_left
              · show Act.put _ (some 67) _ = _
                simp only [Act.put, List.setIfInBounds_toArray, List.set_cons_zero, List.set_cons_succ, i64_w, i32_w]
                rfl
              refine pure_ (i := 23) (N := some 68) (v := ?_) (a' := ?_) (fl 25 27 []) rfl rfl (any_of HT_.out (by kernel_rfl)) (fun _ _ _ h => h) (Or.inl ⟨by rfl, ?_⟩) ?_ ?_
              rotate_left
              · intro w'
                go_simp
                with_reducible rfl
              rotate_left
              · simp only [Act.put, List.setIfInBounds_toArray, List.set_cons_zero, List.set_cons_succ, i64_w, i32_w]
                rfl
              refine pure_ (i := 25) (N := some 70) (v := ?_) (a' := ?_) (fl 26 27 []) rfl rfl (any_of HT_.out (by kernel_rfl)) (fun _ _ _ h => h) (Or.inl ⟨by rfl, ?_⟩) ?_ ?_
              rotate_left
              · intro w'
                go_simp
                with_reducible rfl
              rotate_left
              · simp only [Act.put, List.setIfInBounds_toArray, List.set_cons_zero, List.set_cons_succ, i64_w, i32_w]
                rfl
              refine pure_ (i := 26) (N := some 71) (v := ?_) (a' := ?_) (fl 27 27 []) rfl rfl (any_of HT_.out (by kernel_rfl)) (fun _ _ _ h => h) (Or.inl ⟨by rfl, ?_⟩) ?_ ?_
              rotate_left
              · intro w'
                go_simp
                with_reducible rfl
              rotate_left
              · simp only [Act.put, List.setIfInBounds_toArray, List.set_cons_zero, List.set_cons_succ, i64_w, i32_w]
                rfl
              refine done_ (done_of HT_.out (by kernel_rfl)) ?_
              try go_wp2
              (refine Met.intro ?_; go_step; (repeat apply Exists.intro); refine ⟨?rel, ?frame⟩)
              case frame => first | rfl | (rw [c33b1]; first | done | rfl) | (rw [c33b0]; first | done | rfl) | (rw [c29b0]; first | done | rfl) | (rw [c11b0]; first | done | rfl) | (simp only [c9b0, c10b0, c11b0, c29b0, c33b0, c33b1]; first | done | rfl)
              case rel => exact ⟨_, (((t352 == 0) != t341)), (by first | rfl | (simp; done) | (simp [*]; done)), H', ⟨by have := HK1.out; first | omega | exact Nat.le_refl _⟩, ⟨by (with_reducible repeat (first | apply Kd.R_alloc | apply Kd.R_drewN | apply Kd.R_drew)); exact HO_22.out⟩, ⟨by (with_reducible repeat (first | refine blk_drewN ?_ _ | refine blk_drew ?_ | refine blk_alloc ?_ _)); exact BK331.out⟩, ⟨by (with_reducible repeat (first | refine blk_drewN ?_ _ | refine blk_drew ?_ | refine blk_alloc ?_ _)); exact BK340.out⟩, ⟨by repeat (first | (with_reducible first | exact HB.out | apply below_alloc | apply pw_below_drewN | apply below_drew1 | refine below_set ?_ GE331.out | refine below_set ?_ GE340.out) | exact HB.out)⟩⟩
            · rw [if_neg c33] at H
              have c33b0 : (t350 == t351) = false := beq_eq_false_iff_ne.mpr c33
              have c33b1 : (t350 != t351) = true := bne_iff_ne.mpr c33
              have H' := Aside0.mk H
              clear H
              try go_wp2
              replace HO_22 := Aside0.mk (Kd.R_drew HO_22.out)
              replace BK331 := Aside0.mk (blk_drew BK331.out)
              replace BK340 := Aside0.mk (blk_drew BK340.out)
              replace HB := Aside0.mk (below_drew1 HB.out)
              refine start_ (n := 27) (S := fun w' => w'.cell? ⟨gb340, 0, none⟩ = some (.int .i64 ((rd_T23 y335 x24_1).f0)) ∧ w'.cell? ⟨gb340, 1, none⟩ = some (.int .i64 ((rd_T23 y335 x24_1).f1)) ∧ w'.cell? ⟨gb340, 2, none⟩ = some (.int .i64 ((rd_T23 y335 x24_1).f2))) (ds := []) (fl 0 27 []) (by kernel_rfl) rfl rfl ⟨(blk_cell BK340.out 0).trans rfl, (blk_cell BK340.out 1).trans rfl, (blk_cell BK340.out 2).trans rfl⟩ (fun hHeld => ?_); refine with_tabW chattellaw09_DateTells.tab8 chattellaw09_DateTells.bits8 (fun HT_ HW_ => ?_)
              generalize w26.drew = w37 at HO_22 BK331 BK340 HB hHeld ⊢
              refine pure_ (i := 0) (N := some 45) (v := ?_) (a' := ?_) (fl 1 27 []) rfl rfl (any_of HT_.out (by kernel_rfl)) (fun _ _ _ h => h) (Or.inl ⟨by rfl, ?_⟩) ?_ ?_
              rotate_left
              · intro w'
                go_simp
                with_reducible rfl
              rotate_left
              · simp only [Act.put, List.setIfInBounds_toArray, List.set_cons_zero, List.set_cons_succ, i64_w, i32_w]
                rfl
              refine pure_ (i := 3) (N := some 48) (v := ?_) (a' := ?_) (fl 1 27 [3]) rfl rfl (any_of HT_.out (by kernel_rfl)) (fun _ _ _ h => h) (Or.inl ⟨by rfl, ?_⟩) ?_ ?_
              rotate_left
              · intro w'
                go_simp
                with_reducible rfl
              rotate_left
              · simp only [Act.put, List.setIfInBounds_toArray, List.set_cons_zero, List.set_cons_succ, i64_w, i32_w]
                rfl
              refine take_ (i := 1) (N := some 46) (v := ?_) (a' := ?_) (fl 2 27 [3]) rfl rfl (take_ofW HT_.out HW_.out (by kernel_rfl)) (fun _ _ _ h => h) (Or.inl ⟨by rfl, ?_⟩) hHeld ?_ ?_
              rotate_left
              · rintro w' ⟨s0, s1, s2⟩
                go_simp
                with_reducible rfl
              rotate_left
              · simp only [Act.put, List.setIfInBounds_toArray, List.set_cons_zero, List.set_cons_succ, i64_w, i32_w]
                rfl
              refine take_ (i := 4) (N := some 49) (v := ?_) (a' := ?_) (fl 2 27 [3, 4]) rfl rfl (take_ofW HT_.out HW_.out (by kernel_rfl)) (fun _ _ _ h => h) (Or.inl ⟨by rfl, ?_⟩) hHeld ?_ ?_
              rotate_left
              · rintro w' ⟨s0, s1, s2⟩
                go_simp
                with_reducible rfl
              rotate_left
              · simp only [Act.put, List.setIfInBounds_toArray, List.set_cons_zero, List.set_cons_succ, i64_w, i32_w]
                rfl
              refine one_ (i := 2) (N := some 47) (fl 5 27 []) rfl rfl (one_of HT_.out (by kernel_rfl)) (by decide) (fun K hK => ?_)
              refine goes_ Try.func25 (by kernel_rfl) rfl #[.int .i64 ((rd_T23 y335 x24_1).f0)] (by rfl) rfl rfl (by (try simp only [List.map_toArray, List.map_cons, List.map_nil]); first | done | rfl | (simp only [List.length_drop, List.length_take]; rfl)) ?_
              with_reducible refine (date_Leap.calls ((rd_T23 y335 x24_1).f0) t348 _ A27.out).mono ?_
              rintro e w' ⟨rfl, ⟨nd, rfl⟩⟩
              refine ⟨_, rfl, ?_⟩
              refine hK.out _ _ ⟨(blk_cell BK340.out 0).trans rfl, (blk_cell BK340.out 1).trans rfl, (blk_cell BK340.out 2).trans rfl⟩ (fun hHeld => ?_)
              clear hK K
              refine norm_ (a' := ?_) ?_ ?_
              rotate_left
              · show Act.put _ (some 47) _ = _
                simp only [Act.put, List.setIfInBounds_toArray, List.set_cons_zero, List.set_cons_succ, i64_w, i32_w]
                rfl
              refine one_ (i := 5) (N := some 50) (fl 6 27 []) rfl rfl (one_of HT_.out (by kernel_rfl)) (by decide) (fun K hK => ?_)
              refine goes_ Try.func26 (by kernel_rfl) rfl #[.int .i64 ((rd_T23 y335 x24_1).f0)] (by rfl) rfl rfl (by (try simp only [List.map_toArray, List.map_cons, List.map_nil]); first | done | rfl | (simp only [List.length_drop, List.length_take]; rfl)) ?_
              with_reducible refine (chattelref09_Leap.calls k1 ((rd_T23 y335 x24_1).f0) t349 _ A28.out).mono ?_
              rintro e w' ⟨rfl, ⟨nd, rfl⟩⟩
              refine ⟨_, rfl, ?_⟩
              refine hK.out _ _ ⟨(blk_cell BK340.out 0).trans rfl, (blk_cell BK340.out 1).trans rfl, (blk_cell BK340.out 2).trans rfl⟩ (fun hHeld => ?_)
              clear hK K
              refine norm_ (a' := ?_) ?_ ?_
              rotate_left
              · show Act.put _ (some 50) _ = _
                simp only [Act.put, List.setIfInBounds_toArray, List.set_cons_zero, List.set_cons_succ, i64_w, i32_w]
                rfl
              refine pure_ (i := 6) (N := some 51) (v := ?_) (a' := ?_) (fl 7 27 []) rfl rfl (any_of HT_.out (by kernel_rfl)) (fun _ _ _ h => h) (Or.inl ⟨by rfl, ?_⟩) ?_ ?_
              rotate_left
              · intro w'
                go_simp
                with_reducible rfl
              rotate_left
              · simp only [Act.put, List.setIfInBounds_toArray, List.set_cons_zero, List.set_cons_succ, i64_w, i32_w]
                rfl
              refine pure_ (i := 7) (N := some 52) (v := ?_) (a' := ?_) (fl 8 27 []) rfl rfl (any_of HT_.out (by kernel_rfl)) (fun _ _ _ h => h) (Or.inl ⟨by rfl, ?_⟩) ?_ ?_
              rotate_left
              · intro w'
                go_simp
                with_reducible rfl
              rotate_left
              · simp only [Act.put, List.setIfInBounds_toArray, List.set_cons_zero, List.set_cons_succ, i64_w, i32_w]
                rfl
              refine pure_ (i := 8) (N := some 53) (v := ?_) (a' := ?_) (fl 9 27 []) rfl rfl (any_of HT_.out (by kernel_rfl)) (fun _ _ _ h => h) (Or.inl ⟨by rfl, ?_⟩) ?_ ?_
              rotate_left
              · intro w'
                go_simp
                with_reducible rfl
              rotate_left
              · simp only [Act.put, List.setIfInBounds_toArray, List.set_cons_zero, List.set_cons_succ, i64_w, i32_w]
                rfl
              refine pure_ (i := 10) (N := some 55) (v := ?_) (a' := ?_) (fl 9 27 [10]) rfl rfl (any_of HT_.out (by kernel_rfl)) (fun _ _ _ h => h) (Or.inl ⟨by rfl, ?_⟩) ?_ ?_
              rotate_left
              · intro w'
                go_simp
                with_reducible rfl
              rotate_left
              · simp only [Act.put, List.setIfInBounds_toArray, List.set_cons_zero, List.set_cons_succ, i64_w, i32_w]
                rfl
              refine pure_ (i := 13) (N := some 58) (v := ?_) (a' := ?_) (fl 9 27 [10, 13]) rfl rfl (any_of HT_.out (by kernel_rfl)) (fun _ _ _ h => h) (Or.inl ⟨by rfl, ?_⟩) ?_ ?_
              rotate_left
              · intro w'
                go_simp
                with_reducible rfl
              rotate_left
              · simp only [Act.put, List.setIfInBounds_toArray, List.set_cons_zero, List.set_cons_succ, i64_w, i32_w]
                rfl
              refine pure_ (i := 15) (N := some 60) (v := ?_) (a' := ?_) (fl 9 27 [10, 13, 15]) rfl rfl (any_of HT_.out (by kernel_rfl)) (fun _ _ _ h => h) (Or.inl ⟨by rfl, ?_⟩) ?_ ?_
              rotate_left
              · intro w'
                go_simp
                with_reducible rfl
              rotate_left
              · simp only [Act.put, List.setIfInBounds_toArray, List.set_cons_zero, List.set_cons_succ, i64_w, i32_w]
                rfl
              refine take_ (i := 9) (N := some 54) (v := ?_) (a' := ?_) (fl 11 27 [13, 15]) rfl rfl (take_ofW HT_.out HW_.out (by kernel_rfl)) (fun _ _ _ h => h) (Or.inl ⟨by rfl, ?_⟩) hHeld ?_ ?_
              rotate_left
              · rintro w' ⟨s0, s1, s2⟩
                go_simp
                with_reducible rfl
              rotate_left
              · simp only [Act.put, List.setIfInBounds_toArray, List.set_cons_zero, List.set_cons_succ, i64_w, i32_w]
                rfl
              refine take_ (i := 11) (N := some 56) (v := ?_) (a' := ?_) (fl 12 27 [13, 15]) rfl rfl (take_ofW HT_.out HW_.out (by kernel_rfl)) (fun _ _ _ h => h) (Or.inl ⟨by rfl, ?_⟩) hHeld ?_ ?_
              rotate_left
              · rintro w' ⟨s0, s1, s2⟩
                go_simp
                with_reducible rfl
              rotate_left
              · simp only [Act.put, List.setIfInBounds_toArray, List.set_cons_zero, List.set_cons_succ, i64_w, i32_w]
                rfl
              refine take_ (i := 14) (N := some 59) (v := ?_) (a' := ?_) (fl 12 27 [13, 14, 15]) rfl rfl (take_ofW HT_.out HW_.out (by kernel_rfl)) (fun _ _ _ h => h) (Or.inl ⟨by rfl, ?_⟩) hHeld ?_ ?_
              rotate_left
              · rintro w' ⟨s0, s1, s2⟩
                go_simp
                with_reducible rfl
              rotate_left
              · simp only [Act.put, List.setIfInBounds_toArray, List.set_cons_zero, List.set_cons_succ, i64_w, i32_w]
                rfl
              refine take_ (i := 16) (N := some 61) (v := ?_) (a' := ?_) (fl 12 27 [13, 14, 15, 16]) rfl rfl (take_ofW HT_.out HW_.out (by kernel_rfl)) (fun _ _ _ h => h) (Or.inl ⟨by rfl, ?_⟩) hHeld ?_ ?_
              rotate_left
              · rintro w' ⟨s0, s1, s2⟩
                go_simp
                with_reducible rfl
              rotate_left
              · simp only [Act.put, List.setIfInBounds_toArray, List.set_cons_zero, List.set_cons_succ, i64_w, i32_w]
                rfl
              refine one_ (i := 12) (N := some 57) (fl 17 27 []) rfl rfl (one_of HT_.out (by kernel_rfl)) (by decide) (fun K hK => ?_)
              refine goes_ Try.func27 (by kernel_rfl) rfl #[.int .i64 ((rd_T23 y335 x24_1).f0), .int .i64 ((rd_T23 y335 x24_1).f1)] (by rfl) rfl rfl (by (try simp only [List.map_toArray, List.map_cons, List.map_nil]); first | done | rfl | (simp only [List.length_drop, List.length_take]; rfl)) ?_
              with_reducible refine (date_Days.calls k1 ((rd_T23 y335 x24_1).f0) ((rd_T23 y335 x24_1).f1) t350 _ A31.out).mono ?_
              rintro e w' ⟨rfl, ⟨nd, rfl⟩⟩
              refine ⟨_, rfl, ?_⟩
              refine hK.out _ _ ⟨(blk_cell BK340.out 0).trans rfl, (blk_cell BK340.out 1).trans rfl, (blk_cell BK340.out 2).trans rfl⟩ (fun hHeld => ?_)
              clear hK K
              refine norm_ (a' := ?_) ?_ ?_
              rotate_left
              · show Act.put _ (some 57) _ = _
                simp only [Act.put, List.setIfInBounds_toArray, List.set_cons_zero, List.set_cons_succ, i64_w, i32_w]
                rfl
              refine one_ (i := 17) (N := some 62) (fl 18 27 []) rfl rfl (one_of HT_.out (by kernel_rfl)) (by decide) (fun K hK => ?_)
              refine goes_ Try.func28 (by kernel_rfl) rfl #[.int .i64 ((rd_T23 y335 x24_1).f0), .int .i64 ((rd_T23 y335 x24_1).f1)] (by rfl) rfl rfl (by (try simp only [List.map_toArray, List.map_cons, List.map_nil]); first | done | rfl | (simp only [List.length_drop, List.length_take]; rfl)) ?_
              with_reducible refine (chattelref09_Days.calls k1 ((rd_T23 y335 x24_1).f0) ((rd_T23 y335 x24_1).f1) t351 _ A32.out).mono ?_
              rintro e w' ⟨rfl, ⟨nd, rfl⟩⟩
              refine ⟨_, rfl, ?_⟩
              refine hK.out _ _ ⟨(blk_cell BK340.out 0).trans rfl, (blk_cell BK340.out 1).trans rfl, (blk_cell BK340.out 2).trans rfl⟩ (fun hHeld => ?_)
              clear hK K
              refine norm_ (a' := ?_) ?_ ?_
              rotate_left
              · show Act.put _ (some 62) _ = _
                simp only [Act.put, List.setIfInBounds_toArray, List.set_cons_zero, List.set_cons_succ, i64_w, i32_w]
                rfl
              refine pure_ (i := 18) (N := some 63) (v := ?_) (a' := ?_) (fl 19 27 []) rfl rfl (any_of HT_.out (by kernel_rfl)) (fun _ _ _ h => h) (Or.inl ⟨by rfl, ?_⟩) ?_ ?_
              rotate_left
              · intro w'
                go_simp
                with_reducible rfl
              rotate_left
              · simp only [Act.put, List.setIfInBounds_toArray, List.set_cons_zero, List.set_cons_succ, i64_w, i32_w]
                rfl
              refine pure_ (i := 19) (N := some 64) (v := ?_) (a' := ?_) (fl 20 27 []) rfl rfl (any_of HT_.out (by kernel_rfl)) (fun _ _ _ h => h) (Or.inl ⟨by rfl, ?_⟩) ?_ ?_
              rotate_left
              · intro w'
                go_simp
                with_reducible rfl
              rotate_left
              · simp only [Act.put, List.setIfInBounds_toArray, List.set_cons_zero, List.set_cons_succ, i64_w, i32_w]
                rfl
              refine pure_ (i := 20) (N := some 65) (v := ?_) (a' := ?_) (fl 21 27 []) rfl rfl (any_of HT_.out (by kernel_rfl)) (fun _ _ _ h => h) (Or.inl ⟨by rfl, ?_⟩) ?_ ?_
              rotate_left
              · intro w'
                go_simp
                with_reducible rfl
              rotate_left
              · simp only [Act.put, List.setIfInBounds_toArray, List.set_cons_zero, List.set_cons_succ, i64_w, i32_w]
                rfl
              refine pure_ (i := 21) (N := some 66) (v := undef) (a' := ?_) (fl 22 27 []) rfl rfl (any_of HT_.out (by kernel_rfl)) (fun _ _ _ h => h) (Or.inr ⟨by rfl, rfl⟩) ?_ ?_
              rotate_left
              · simp only [Act.put, List.setIfInBounds_toArray, List.set_cons_zero, List.set_cons_succ, i64_w, i32_w]
                rfl
              refine pure_ (i := 22) (N := some 67) (v := undef) (a' := ?_) (fl 23 27 []) rfl rfl (any_of HT_.out (by kernel_rfl)) (fun _ _ _ h => h) (Or.inr ⟨by rfl, rfl⟩) ?_ ?_
              rotate_left
              · simp only [Act.put, List.setIfInBounds_toArray, List.set_cons_zero, List.set_cons_succ, i64_w, i32_w]
                rfl
              refine pure_ (i := 23) (N := some 68) (v := undef) (a' := ?_) (fl 24 27 []) rfl rfl (any_of HT_.out (by kernel_rfl)) (fun _ _ _ h => h) (Or.inr ⟨by rfl, rfl⟩) ?_ ?_
              rotate_left
              · simp only [Act.put, List.setIfInBounds_toArray, List.set_cons_zero, List.set_cons_succ, i64_w, i32_w]
                rfl
              refine pure_ (i := 24) (N := some 69) (v := undef) (a' := ?_) (fl 25 27 []) rfl rfl (any_of HT_.out (by kernel_rfl)) (fun _ _ _ h => h) (Or.inr ⟨by rfl, rfl⟩) ?_ ?_
              rotate_left
              · simp only [Act.put, List.setIfInBounds_toArray, List.set_cons_zero, List.set_cons_succ, i64_w, i32_w]
                rfl
              refine pure_ (i := 25) (N := some 70) (v := undef) (a' := ?_) (fl 26 27 []) rfl rfl (any_of HT_.out (by kernel_rfl)) (fun _ _ _ h => h) (Or.inr ⟨by rfl, rfl⟩) ?_ ?_
              rotate_left
              · simp only [Act.put, List.setIfInBounds_toArray, List.set_cons_zero, List.set_cons_succ, i64_w, i32_w]
                rfl
              refine pure_ (i := 26) (N := some 71) (v := ?_) (a' := ?_) (fl 27 27 []) rfl rfl (any_of HT_.out (by kernel_rfl)) (fun _ _ _ h => h) (Or.inl ⟨by rfl, ?_⟩) ?_ ?_
              rotate_left
              · intro w'
                go_simp
                with_reducible rfl
              rotate_left
              · simp only [Act.put, List.setIfInBounds_toArray, List.set_cons_zero, List.set_cons_succ, i64_w, i32_w]
                rfl
              refine done_ (done_of HT_.out (by kernel_rfl)) ?_
              try go_wp2
              (refine Met.intro ?_; go_step; (repeat apply Exists.intro); refine ⟨?rel, ?frame⟩)
              case frame => first | rfl | (rw [c33b1]; first | done | rfl) | (rw [c33b0]; first | done | rfl) | (rw [c29b0]; first | done | rfl) | (rw [c11b0]; first | done | rfl) | (simp only [c9b0, c10b0, c11b0, c29b0, c33b0, c33b1]; first | done | rfl)
              case rel => exact ⟨_, (true), (by first | rfl | (simp; done) | (simp [*]; done)), H', ⟨by have := HK1.out; first | omega | exact Nat.le_refl _⟩, ⟨by (with_reducible repeat (first | apply Kd.R_alloc | apply Kd.R_drewN | apply Kd.R_drew)); exact HO_22.out⟩, ⟨by (with_reducible repeat (first | refine blk_drewN ?_ _ | refine blk_drew ?_ | refine blk_alloc ?_ _)); exact BK331.out⟩, ⟨by (with_reducible repeat (first | refine blk_drewN ?_ _ | refine blk_drew ?_ | refine blk_alloc ?_ _)); exact BK340.out⟩, ⟨by repeat (first | (with_reducible first | exact HB.out | apply below_alloc | apply pw_below_drewN | apply below_drew1 | refine below_set ?_ GE331.out | refine below_set ?_ GE340.out) | exact HB.out)⟩⟩
        case rest =>
          clear HC16
          try clear c2
          try clear p2
          try clear c3
          try clear c25
          try clear c26
          try clear c27
          try clear c28
          try clear c29
          try clear c29b0
          try clear c29b1
          try clear c29b2
          try clear c33
          try clear c33b0
          try clear c33b1
          obtain ⟨kq, x71_15, rfl, HA, HJ15, HO_22, BK331, BK340, HB⟩ := hcut
          cases kq with
          | zero => exact absurd HA.out (by simp [chattellaw09_DateTells.j1])
          | succ kj15 =>
            have H := HA.out
            clear HA
            simp only [chattellaw09_DateTells.j1] at H
            by_cases c38 : x71_15 = true
            · subst c38
              have H1 : (some false) = some r := by rw [if_pos rfl] at H; exact H
              clear H
              have H := H1
              clear H1
              exact absurd (Option.some.inj H) (by rw [ht_]; decide)
            · replace c38 := Bool.eq_false_iff.mpr c38
              subst c38
              have H1 : (if t341 = true then ((chattelref09_Number.f kj15 ((rd_T23 y335 x24_1).f0) ((rd_T23 y335 x24_1).f1) ((rd_T23 y335 x24_1).f2)).bind fun t354 => (if t343 = 0 then (if t345 = 0 then (if t347 = 0 then (if t342 = t354 then (if t344 = (Int.tmod (wrap64 (t354 - 1)) 7) then ((chattelref09_Print.f kj15 ((rd_T23 y335 x24_1).f0) ((rd_T23 y335 x24_1).f1) ((rd_T23 y335 x24_1).f2)).bind fun t355 => (if t346.toList = t355.toList then (chattellaw09_DateTells.l0 kj15 y335 (y335.length : Int) (wrap64 (x24_1 + 1))) else (some false))) else (some false)) else (some false)) else (some false)) else (some false)) else (some false))) else ((date_Check.f kj15 ((rd_T23 y335 x24_1).f0) ((rd_T23 y335 x24_1).f1) ((rd_T23 y335 x24_1).f2)).bind fun t353 => (if t353 = 11 then (if t343 = 11 then (if t345 = 11 then (if t347 = 11 then (if t342 = 0 then (if t344 = 0 then (if t346.toList = ([] : List UInt8) then (chattellaw09_DateTells.l0 kj15 y335 (y335.length : Int) (wrap64 (x24_1 + 1))) else (some false)) else (some false)) else (some false)) else (some false)) else (some false)) else (some false)) else (some false)))) = some r := by rw [if_neg (show ¬ (false = true) by decide)] at H; exact H
              clear H
              have H := H1
              clear H1
              by_cases c39 : t341 = true
              · subst c39
                have H1 : ((chattelref09_Number.f kj15 ((rd_T23 y335 x24_1).f0) ((rd_T23 y335 x24_1).f1) ((rd_T23 y335 x24_1).f2)).bind fun t354 => (if t343 = 0 then (if t345 = 0 then (if t347 = 0 then (if t342 = t354 then (if t344 = (Int.tmod (wrap64 (t354 - 1)) 7) then ((chattelref09_Print.f kj15 ((rd_T23 y335 x24_1).f0) ((rd_T23 y335 x24_1).f1) ((rd_T23 y335 x24_1).f2)).bind fun t355 => (if t346.toList = t355.toList then (chattellaw09_DateTells.l0 kj15 y335 (y335.length : Int) (wrap64 (x24_1 + 1))) else (some false))) else (some false)) else (some false)) else (some false)) else (some false)) else (some false))) = some r := by rw [if_pos rfl] at H; exact H
                clear H
                have H := H1
                clear H1
                replace H := Option.bind_eq_some_iff.mp H
                obtain ⟨t354, A400, H⟩ := H
                replace H : (if t343 = 0 then (if t345 = 0 then (if t347 = 0 then (if t342 = t354 then (if t344 = (Int.tmod (wrap64 (t354 - 1)) 7) then ((chattelref09_Print.f kj15 ((rd_T23 y335 x24_1).f0) ((rd_T23 y335 x24_1).f1) ((rd_T23 y335 x24_1).f2)).bind fun t355 => (if t346.toList = t355.toList then (chattellaw09_DateTells.l0 kj15 y335 (y335.length : Int) (wrap64 (x24_1 + 1))) else (some false))) else (some false)) else (some false)) else (some false)) else (some false)) else (some false)) = some r := H
                have A40 := Aside0.mk A400
                clear A400
                by_cases c41 : t343 = 0
                rotate_left
                · rw [if_neg c41] at H
                  have c41b0 : (t343 == 0) = false := beq_eq_false_iff_ne.mpr c41
                  have c41b1 : (t343 != 0) = true := bne_iff_ne.mpr c41
                  exact absurd (Option.some.inj H) (by rw [ht_]; decide)
                rw [if_pos c41] at H
                have c41b0 : (t343 == 0) = true := beq_iff_eq.mpr c41
                have c41b1 : (t343 != 0) = false := bne_eq_false_iff_eq.mpr c41
                clear c41
                by_cases c42 : t345 = 0
                rotate_left
                · rw [if_neg c42] at H
                  have c42b0 : (t345 == 0) = false := beq_eq_false_iff_ne.mpr c42
                  have c42b1 : (t345 != 0) = true := bne_iff_ne.mpr c42
                  exact absurd (Option.some.inj H) (by rw [ht_]; decide)
                rw [if_pos c42] at H
                have c42b0 : (t345 == 0) = true := beq_iff_eq.mpr c42
                have c42b1 : (t345 != 0) = false := bne_eq_false_iff_eq.mpr c42
                clear c42
                by_cases c43 : t347 = 0
                rotate_left
                · rw [if_neg c43] at H
                  have c43b0 : (t347 == 0) = false := beq_eq_false_iff_ne.mpr c43
                  have c43b1 : (t347 != 0) = true := bne_iff_ne.mpr c43
                  exact absurd (Option.some.inj H) (by rw [ht_]; decide)
                rw [if_pos c43] at H
                have c43b0 : (t347 == 0) = true := beq_iff_eq.mpr c43
                have c43b1 : (t347 != 0) = false := bne_eq_false_iff_eq.mpr c43
                clear c43
                by_cases c44 : t342 = t354
                rotate_left
                · rw [if_neg c44] at H
                  have c44b0 : (t342 == t354) = false := beq_eq_false_iff_ne.mpr c44
                  have c44b1 : (t342 != t354) = true := bne_iff_ne.mpr c44
                  exact absurd (Option.some.inj H) (by rw [ht_]; decide)
                rw [if_pos c44] at H
                have c44b0 : (t342 == t354) = true := beq_iff_eq.mpr c44
                have c44b1 : (t342 != t354) = false := bne_eq_false_iff_eq.mpr c44
                clear c44
                by_cases c45 : t344 = (Int.tmod (wrap64 (t354 - 1)) 7)
                rotate_left
                · rw [if_neg c45] at H
                  have c45b0 : (t344 == (Int.tmod (wrap64 (t354 - 1)) 7)) = false := beq_eq_false_iff_ne.mpr c45
                  have c45b1 : (t344 != (Int.tmod (wrap64 (t354 - 1)) 7)) = true := bne_iff_ne.mpr c45
                  exact absurd (Option.some.inj H) (by rw [ht_]; decide)
                rw [if_pos c45] at H
                have c45b0 : (t344 == (Int.tmod (wrap64 (t354 - 1)) 7)) = true := beq_iff_eq.mpr c45
                have c45b1 : (t344 != (Int.tmod (wrap64 (t354 - 1)) 7)) = false := bne_eq_false_iff_eq.mpr c45
                clear c45
                replace H := Option.bind_eq_some_iff.mp H
                obtain ⟨t355, A460, H⟩ := H
                replace H : (if t346.toList = t355.toList then (chattellaw09_DateTells.l0 kj15 y335 (y335.length : Int) (wrap64 (x24_1 + 1))) else (some false)) = some r := H
                have A46 := Aside0.mk A460
                clear A460
                by_cases c47 : t346.toList = t355.toList
                rotate_left
                · rw [if_neg c47] at H
                  have c47b0 : (t346.toList == t355.toList) = false := beq_eq_false_iff_ne.mpr c47
                  have c47b1 : (t346.toList != t355.toList) = true := bne_iff_ne.mpr c47
                  exact absurd (Option.some.inj H) (by rw [ht_]; decide)
                rw [if_pos c47] at H
                have c47b0 : (t346.toList == t355.toList) = true := beq_iff_eq.mpr c47
                have c47b1 : (t346.toList != t355.toList) = false := bne_eq_false_iff_eq.mpr c47
                clear c47
                have H' := Aside0.mk H
                clear H
                have hnb48 := NB340_331.out
                have hnc48 := NB331_340.out
                have hcz49_0 : wc.cell? ⟨gb340, 0, none⟩ = some (.int .i64 ((rd_T23 y335 x24_1).f0)) := (blk_cell BK340.out 0).trans rfl
                have hcz49_1 : wc.cell? ⟨gb340, 1, none⟩ = some (.int .i64 ((rd_T23 y335 x24_1).f1)) := (blk_cell BK340.out 1).trans rfl
                have hcz49_2 : wc.cell? ⟨gb340, 2, none⟩ = some (.int .i64 ((rd_T23 y335 x24_1).f2)) := (blk_cell BK340.out 2).trans rfl
                have hfz49_0 := blk_frozen BK340.out 0
                have hfz49_1 := blk_frozen BK340.out 1
                have hfz49_2 := blk_frozen BK340.out 2
                go_wp2_with (first | ((with_reducible refine gate_callee (f := 30) rfl ?_); refine goesL_ (some 102) rfl rfl Try.func30 (by kernel_rfl) rfl #[.agg #[.int .i64 ((rd_T23 y335 x24_1).f0), .int .i64 ((rd_T23 y335 x24_1).f1), .int .i64 ((rd_T23 y335 x24_1).f2)]] rfl (by (try simp only [List.map_toArray, List.map_cons, List.map_nil]); first | done | rfl | (simp only [List.length_drop, List.length_take]; rfl)) ?_; (with_reducible refine (chattelref09_Number.calls kj15 ((rd_T23 y335 x24_1).f0) ((rd_T23 y335 x24_1).f1) ((rd_T23 y335 x24_1).f2) t354 _ A40.out).mono ?_); rintro e w50 ⟨rfl, hb⟩; refine ⟨_, rfl, ?_⟩; replace HO_22 := Aside0.mk (rb HO_22.out hb); replace BK331 := Aside0.mk (bb BK331.out hb); replace BK340 := Aside0.mk (bb BK340.out hb); replace HB := Aside0.mk (bs HB.out hb); (try clear hb); (try clear hb2); (try clear hk); (try clear hi); have hcz51_0 : w50.cell? ⟨gb340, 0, none⟩ = some (.int .i64 ((rd_T23 y335 x24_1).f0)) := (blk_cell BK340.out 0).trans rfl; have hcz51_1 : w50.cell? ⟨gb340, 1, none⟩ = some (.int .i64 ((rd_T23 y335 x24_1).f1)) := (blk_cell BK340.out 1).trans rfl; have hcz51_2 : w50.cell? ⟨gb340, 2, none⟩ = some (.int .i64 ((rd_T23 y335 x24_1).f2)) := (blk_cell BK340.out 2).trans rfl; have hfz51_0 := blk_frozen BK340.out 0; have hfz51_1 := blk_frozen BK340.out 1; have hfz51_2 := blk_frozen BK340.out 2) | (go_at_call 31; (with_reducible refine (chattelref09_Print.calls kj15 ((rd_T23 y335 x24_1).f0) ((rd_T23 y335 x24_1).f1) ((rd_T23 y335 x24_1).f2) t355 _ A46.out).mono ?_); rintro e w52 ⟨rfl, hb⟩; replace HO_22 := Aside0.mk (rb HO_22.out hb); replace BK331 := Aside0.mk (bb BK331.out hb); replace BK340 := Aside0.mk (bb BK340.out hb); replace HB := Aside0.mk (bs HB.out hb); (try clear hb); (try clear hb2); (try clear hk); (try clear hi)))
                go_roundg kj15
                case measure => have := HK1.out; have := HJ15.out; omega
                case rel => exact ⟨(wrap64 (x24_1 + 1)), (by first | rfl | (simp; done) | (simp [*]; done)), H', ⟨by have := HK1.out; have := HJ15.out; omega⟩, ⟨by (with_reducible repeat (first | apply Kd.R_alloc | apply Kd.R_drewN | apply Kd.R_drew)); exact Kd.R_mono HO_22.out (fun _ hk => hk.1)⟩, ⟨by (with_reducible repeat (first | refine blk_drewN ?_ _ | refine blk_drew ?_ | refine blk_alloc ?_ _)); exact BK331.out⟩, ⟨by repeat (first | (with_reducible first | exact HB.out | apply below_alloc | apply pw_below_drewN | apply below_drew1 | refine below_set ?_ GE331.out | refine below_set ?_ GE340.out) | exact HB.out)⟩⟩
              · replace c39 := Bool.eq_false_iff.mpr c39
                subst c39
                have H1 : ((date_Check.f kj15 ((rd_T23 y335 x24_1).f0) ((rd_T23 y335 x24_1).f1) ((rd_T23 y335 x24_1).f2)).bind fun t353 => (if t353 = 11 then (if t343 = 11 then (if t345 = 11 then (if t347 = 11 then (if t342 = 0 then (if t344 = 0 then (if t346.toList = ([] : List UInt8) then (chattellaw09_DateTells.l0 kj15 y335 (y335.length : Int) (wrap64 (x24_1 + 1))) else (some false)) else (some false)) else (some false)) else (some false)) else (some false)) else (some false)) else (some false))) = some r := by rw [if_neg (show ¬ (false = true) by decide)] at H; exact H
                clear H
                have H := H1
                clear H1
                replace H := Option.bind_eq_some_iff.mp H
                obtain ⟨t353, A530, H⟩ := H
                replace H : (if t353 = 11 then (if t343 = 11 then (if t345 = 11 then (if t347 = 11 then (if t342 = 0 then (if t344 = 0 then (if t346.toList = ([] : List UInt8) then (chattellaw09_DateTells.l0 kj15 y335 (y335.length : Int) (wrap64 (x24_1 + 1))) else (some false)) else (some false)) else (some false)) else (some false)) else (some false)) else (some false)) else (some false)) = some r := H
                have A53 := Aside0.mk A530
                clear A530
                by_cases c54 : t353 = 11
                rotate_left
                · rw [if_neg c54] at H
                  have c54b0 : (t353 == 11) = false := beq_eq_false_iff_ne.mpr c54
                  have c54b1 : (t353 != 11) = true := bne_iff_ne.mpr c54
                  exact absurd (Option.some.inj H) (by rw [ht_]; decide)
                rw [if_pos c54] at H
                have c54b0 : (t353 == 11) = true := beq_iff_eq.mpr c54
                have c54b1 : (t353 != 11) = false := bne_eq_false_iff_eq.mpr c54
                clear c54
                by_cases c55 : t343 = 11
                rotate_left
                · rw [if_neg c55] at H
                  have c55b0 : (t343 == 11) = false := beq_eq_false_iff_ne.mpr c55
                  have c55b1 : (t343 != 11) = true := bne_iff_ne.mpr c55
                  exact absurd (Option.some.inj H) (by rw [ht_]; decide)
                rw [if_pos c55] at H
                have c55b0 : (t343 == 11) = true := beq_iff_eq.mpr c55
                have c55b1 : (t343 != 11) = false := bne_eq_false_iff_eq.mpr c55
                clear c55
                by_cases c56 : t345 = 11
                rotate_left
                · rw [if_neg c56] at H
                  have c56b0 : (t345 == 11) = false := beq_eq_false_iff_ne.mpr c56
                  have c56b1 : (t345 != 11) = true := bne_iff_ne.mpr c56
                  exact absurd (Option.some.inj H) (by rw [ht_]; decide)
                rw [if_pos c56] at H
                have c56b0 : (t345 == 11) = true := beq_iff_eq.mpr c56
                have c56b1 : (t345 != 11) = false := bne_eq_false_iff_eq.mpr c56
                clear c56
                by_cases c57 : t347 = 11
                rotate_left
                · rw [if_neg c57] at H
                  have c57b0 : (t347 == 11) = false := beq_eq_false_iff_ne.mpr c57
                  have c57b1 : (t347 != 11) = true := bne_iff_ne.mpr c57
                  exact absurd (Option.some.inj H) (by rw [ht_]; decide)
                rw [if_pos c57] at H
                have c57b0 : (t347 == 11) = true := beq_iff_eq.mpr c57
                have c57b1 : (t347 != 11) = false := bne_eq_false_iff_eq.mpr c57
                clear c57
                by_cases c58 : t342 = 0
                rotate_left
                · rw [if_neg c58] at H
                  have c58b0 : (t342 == 0) = false := beq_eq_false_iff_ne.mpr c58
                  have c58b1 : (t342 != 0) = true := bne_iff_ne.mpr c58
                  exact absurd (Option.some.inj H) (by rw [ht_]; decide)
                rw [if_pos c58] at H
                have c58b0 : (t342 == 0) = true := beq_iff_eq.mpr c58
                have c58b1 : (t342 != 0) = false := bne_eq_false_iff_eq.mpr c58
                clear c58
                by_cases c59 : t344 = 0
                rotate_left
                · rw [if_neg c59] at H
                  have c59b0 : (t344 == 0) = false := beq_eq_false_iff_ne.mpr c59
                  have c59b1 : (t344 != 0) = true := bne_iff_ne.mpr c59
                  exact absurd (Option.some.inj H) (by rw [ht_]; decide)
                rw [if_pos c59] at H
                have c59b0 : (t344 == 0) = true := beq_iff_eq.mpr c59
                have c59b1 : (t344 != 0) = false := bne_eq_false_iff_eq.mpr c59
                clear c59
                by_cases c60 : t346.toList = ([] : List UInt8)
                rotate_left
                · rw [if_neg c60] at H
                  have c60b0 : (t346.toList == ([] : List UInt8)) = false := beq_eq_false_iff_ne.mpr c60
                  have c60b1 : (t346.toList != ([] : List UInt8)) = true := bne_iff_ne.mpr c60
                  exact absurd (Option.some.inj H) (by rw [ht_]; decide)
                rw [if_pos c60] at H
                have c60b0 : (t346.toList == ([] : List UInt8)) = true := beq_iff_eq.mpr c60
                have c60b1 : (t346.toList != ([] : List UInt8)) = false := bne_eq_false_iff_eq.mpr c60
                clear c60
                have H' := Aside0.mk H
                clear H
                have hnb61 := NB340_331.out
                have hnc61 := NB331_340.out
                have hcz62_0 : wc.cell? ⟨gb340, 0, none⟩ = some (.int .i64 ((rd_T23 y335 x24_1).f0)) := (blk_cell BK340.out 0).trans rfl
                have hcz62_1 : wc.cell? ⟨gb340, 1, none⟩ = some (.int .i64 ((rd_T23 y335 x24_1).f1)) := (blk_cell BK340.out 1).trans rfl
                have hcz62_2 : wc.cell? ⟨gb340, 2, none⟩ = some (.int .i64 ((rd_T23 y335 x24_1).f2)) := (blk_cell BK340.out 2).trans rfl
                have hfz62_0 := blk_frozen BK340.out 0
                have hfz62_1 := blk_frozen BK340.out 1
                have hfz62_2 := blk_frozen BK340.out 2
                go_wp2_with (first | ((with_reducible refine gate_callee (f := 29) rfl ?_); refine goesL_ (some 75) rfl rfl Try.func29 (by kernel_rfl) rfl #[.agg #[.int .i64 ((rd_T23 y335 x24_1).f0), .int .i64 ((rd_T23 y335 x24_1).f1), .int .i64 ((rd_T23 y335 x24_1).f2)]] rfl (by (try simp only [List.map_toArray, List.map_cons, List.map_nil]); first | done | rfl | (simp only [List.length_drop, List.length_take]; rfl)) ?_; (with_reducible refine (date_Check.calls kj15 ((rd_T23 y335 x24_1).f0) ((rd_T23 y335 x24_1).f1) ((rd_T23 y335 x24_1).f2) t353 _ A53.out).mono ?_); rintro e w63 ⟨rfl, hb⟩; refine ⟨_, rfl, ?_⟩; replace HO_22 := Aside0.mk (rb HO_22.out hb); replace BK331 := Aside0.mk (bb BK331.out hb); replace BK340 := Aside0.mk (bb BK340.out hb); replace HB := Aside0.mk (bs HB.out hb); (try clear hb); (try clear hb2); (try clear hk); (try clear hi)))
                go_roundg kj15
                case measure => have := HK1.out; have := HJ15.out; omega
                case rel => exact ⟨(wrap64 (x24_1 + 1)), (by first | rfl | (simp; done) | (simp [*]; done)), H', ⟨by have := HK1.out; have := HJ15.out; omega⟩, ⟨by (with_reducible repeat (first | apply Kd.R_alloc | apply Kd.R_drewN | apply Kd.R_drew)); exact Kd.R_mono HO_22.out (fun _ hk => hk.1)⟩, ⟨by (with_reducible repeat (first | refine blk_drewN ?_ _ | refine blk_drew ?_ | refine blk_alloc ?_ _)); exact BK331.out⟩, ⟨by repeat (first | (with_reducible first | exact HB.out | apply below_alloc | apply pw_below_drewN | apply below_drew1 | refine below_set ?_ GE331.out | refine below_set ?_ GE340.out) | exact HB.out)⟩⟩
      · rw [if_neg c9] at H
        have c9b0 : decide (x24_1 < (y335.length : Int)) = false := decide_eq_false c9
        clear c9
        replace H := Option.bind_eq_some_iff.mp H
        obtain ⟨t338, A640, H⟩ := H
        replace H : (some t338) = some r := H
        have A64 := Aside0.mk A640
        clear A640
        obtain rfl := Option.some.inj H
        go_wp2_with (first | ((with_reducible refine gate_callee (f := 32) rfl ?_); refine goesL_ (some 132) rfl rfl Try.func32 (by kernel_rfl) rfl #[] rfl (by (try simp only [List.map_toArray, List.map_cons, List.map_nil]); first | done | rfl | (simp only [List.length_drop, List.length_take]; rfl)) ?_; (with_reducible refine (chattellaw09_wakes.calls k1  t338 _ A64.out).mono ?_); rintro e w65 ⟨rfl, hb⟩; refine ⟨_, rfl, ?_⟩; replace HO_22 := Aside0.mk (rb HO_22.out hb); replace BK331 := Aside0.mk (bb BK331.out hb); replace HB := Aside0.mk (bs HB.out hb); (try clear hb); (try clear hb2); (try clear hk); (try clear hi)))
        go_ret
        exact ⟨by first | rfl | (simp [errW_none, errW_some] <;> rfl) | (simp [*, errW_none, errW_some] <;> rfl), by repeat (first | (with_reducible first | exact HB.out | apply below_alloc | apply pw_below_drewN | apply below_drew1 | refine below_set ?_ GE331.out) | exact HB.out)⟩

/-- THE ONE PURE STATEMENT of chattellaw09_DateTells: yours. -/
def chattellaw09_DateTells.Pure : Prop := ∀ (a0_0 : Int) (a0_1 : Int) (a0_2 : Int), (Lit.int .i64 a0_0).wf = true → (Lit.int .i64 a0_1).wf = true → (Lit.int .i64 a0_2).wf = true → ∃ k, chattellaw09_DateTells.f k a0_0 a0_1 a0_2 = some true
theorem chattellaw09_DateTells.walk (P : chattellaw09_DateTells.Pure) (a0_0 : Int) (a0_1 : Int) (a0_2 : Int) (w : World) (w0_0 : (Lit.int .i64 a0_0).wf = true) (w0_1 : (Lit.int .i64 a0_1).wf = true) (w0_2 : (Lit.int .i64 a0_2).wf = true) :
    Calls Try.prog 6 #[.agg #[.int .i64 a0_0, .int .i64 a0_1, .int .i64 a0_2]] w fun e w' => e = .returned (.bool true) ∧ Below w.heap.size w w' := by
  obtain ⟨k, h⟩ := P a0_0 a0_1 a0_2 w0_0 w0_1 w0_2
  refine (chattellaw09_DateTells.calls k a0_0 a0_1 a0_2 true w h rfl).mono ?_
  rintro e w' ⟨rfl, hd⟩
  exact ⟨rfl, hd⟩

end Go.Proofs.Ytfikfmediheioaa.F
