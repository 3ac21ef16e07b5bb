-- Written by this session's printer (wip/tools), out of the translation's own print. Lean checks it.
import Derived.Test.YtfikfmediheioaaF0
import Derived.Test.YtfikfmediheioaaF4
import Derived.Test.YtfikfmediheioaaF10
import Derived.Test.YtfikfmediheioaaF13
import Derived.Test.YtfikfmediheioaaF14
import Derived.Test.YtfikfmediheioaaF16
namespace Go.Proofs.Ytfikfmediheioaa.F
open Go.RowKit Go.Proofs.YtfikfmediheioaaW.PrintWords Go.Proofs.YtfikfmediheioaaW.PrintLast Go.Proofs.YtfikfmediheioaaW.PrintMore Go.Proofs.YtfikfmediheioaaX
attribute [local go_sem] max2_int cell_some
attribute [local go_sem] max2_int min2_int max_two min_two max_three min_three max_four min_four   -- for this text's walks alone
set_option linter.unusedVariables false
set_option linter.unusedSimpArgs false

/-! ### chattellaw10_MonthSeries: function 3 -/
mutual
def chattellaw10_MonthSeries.l0 : Nat → Int → Int → List (S23) → Int → Int → Option (Bool)
  | 0, _, _, _, _, _ => none
  | k + 1, x1, x2, x24, x25, x26 => if x26 < x25 then (if 0 ≤ x26 then (if x26 < (x24.length : Int) then ((some (([(⟨x1, x2⟩ : S27), (⟨1 + ((mx 0 x1) % 12), (mx 0 x2) % 40⟩ : S27)] : List (S27)) : List (S27))).bind fun y176 => (chattellaw10_MonthSeries.l1 k x1 x2 x24 x25 x26 y176 (y176.length : Int) 0 ((rd_T23 x24 x26).f0) ((rd_T23 x24 x26).f1) ((rd_T23 x24 x26).f2))) else (none)) else (none)) else ((chattellaw10_wakes.f k).bind fun t173 => (some t173))
def chattellaw10_MonthSeries.l1 : Nat → Int → Int → List (S23) → Int → Int → List (S27) → Int → Int → Int → Int → Int → Option (Bool)
  | 0, _, _, _, _, _, _, _, _, _, _, _ => none
  | k + 1, x1, x2, x24, x25, x26, x41, x42, x43, x176000, x176001, x176002 => if x43 < x42 then (if 0 ≤ x43 then (if x43 < (x41.length : Int) then ((month_Series.f k x176000 x176001 x176002 ((rd_T27 x41 x43).f0) ((rd_T27 x41 x43).f1)).bind fun bt181 => ((chattelref10_Series.f k x176000 x176001 x176002 ((rd_T27 x41 x43).f0) ((rd_T27 x41 x43).f1)).bind fun bt185 => (if bt181.2 = bt185.2 then ((api_Date.f k bt181.1 bt185.1).bind fun t189 => (if t189 = true then (chattellaw10_MonthSeries.l1 k x1 x2 x24 x25 x26 x41 x42 (wrap64 (x43 + 1)) x176000 x176001 x176002) else (some false))) else (some false)))) else (none)) else (none)) else (chattellaw10_MonthSeries.l0 k x1 x2 x24 x25 (wrap64 (x26 + 1)))
end
def chattellaw10_MonthSeries.f (k : Nat) (a0_0 : Int) (a0_1 : Int) (a0_2 : Int) (a1 : Int) (a2 : Int) : Option (Bool) := (chattelref09_Make.f k a0_0 a0_1 a0_2 9999).bind fun bt167 => ((some (([(⟨a0_0, a0_1, a0_2⟩ : S23), (⟨bt167.1, bt167.2.1, bt167.2.2⟩ : S23)] : List (S23)) : List (S23))).bind fun y170 => (chattellaw10_MonthSeries.l0 k a1 a2 y170 (y170.length : Int) 0))
theorem chattellaw10_MonthSeries.mono_l : ∀ k, (∀ y0 y1 y2 y3 y4, LeO (chattellaw10_MonthSeries.l0 k y0 y1 y2 y3 y4) (chattellaw10_MonthSeries.l0 (k + 1) y0 y1 y2 y3 y4)) ∧ (∀ y0 y1 y2 y3 y4 y5 y6 y7 y8 y9 y10, LeO (chattellaw10_MonthSeries.l1 k y0 y1 y2 y3 y4 y5 y6 y7 y8 y9 y10) (chattellaw10_MonthSeries.l1 (k + 1) y0 y1 y2 y3 y4 y5 y6 y7 y8 y9 y10))
  | 0 => ⟨fun _ _ _ _ _ r h => by simp [chattellaw10_MonthSeries.l0] at h, fun _ _ _ _ _ _ _ _ _ _ _ r h => by simp [chattellaw10_MonthSeries.l1] at h⟩
  | k + 1 => by
    obtain ⟨ih0, ih1⟩ := chattellaw10_MonthSeries.mono_l k
    refine ⟨?_, ?_⟩
    · intro y0 y1 y2 y3 y4
      unfold chattellaw10_MonthSeries.l0
      repeat' first
      | (with_reducible exact ih0 _ _ _ _ _)
      | (with_reducible exact ih1 _ _ _ _ _ _ _ _ _ _ _)
      | (with_reducible exact api_Date.mono _ _ _)
      | (with_reducible exact chattellaw10_wakes.mono _)
      | (with_reducible exact chattelref09_Make.mono _ _ _ _ _)
      | (with_reducible exact chattelref10_Series.mono _ _ _ _ _ _)
      | (with_reducible exact month_Series.mono _ _ _ _ _ _)
      | (with_reducible exact LeO.refl _)
      | (with_reducible exact LeO.none _)
      | (with_reducible refine LeO.ite ?_ ?_)
      | (with_reducible refine LeO.bind ?_ (fun _ => ?_))
      | exact ih0 _ _ _ _ _
      | exact ih1 _ _ _ _ _ _ _ _ _ _ _
      | exact api_Date.mono _ _ _
      | exact chattellaw10_wakes.mono _
      | exact chattelref09_Make.mono _ _ _ _ _
      | exact chattelref10_Series.mono _ _ _ _ _ _
      | exact month_Series.mono _ _ _ _ _ _
      | exact LeO.none _
      | refine LeO.ite ?_ ?_
      | refine LeO.bind ?_ (fun _ => ?_)
    · intro y0 y1 y2 y3 y4 y5 y6 y7 y8 y9 y10
      unfold chattellaw10_MonthSeries.l1
      repeat' first
      | (with_reducible exact ih0 _ _ _ _ _)
      | (with_reducible exact ih1 _ _ _ _ _ _ _ _ _ _ _)
      | (with_reducible exact api_Date.mono _ _ _)
      | (with_reducible exact chattellaw10_wakes.mono _)
      | (with_reducible exact chattelref09_Make.mono _ _ _ _ _)
      | (with_reducible exact chattelref10_Series.mono _ _ _ _ _ _)
      | (with_reducible exact month_Series.mono _ _ _ _ _ _)
      | (with_reducible exact LeO.refl _)
      | (with_reducible exact LeO.none _)
      | (with_reducible refine LeO.ite ?_ ?_)
      | (with_reducible refine LeO.bind ?_ (fun _ => ?_))
      | exact ih0 _ _ _ _ _
      | exact ih1 _ _ _ _ _ _ _ _ _ _ _
      | exact api_Date.mono _ _ _
      | exact chattellaw10_wakes.mono _
      | exact chattelref09_Make.mono _ _ _ _ _
      | exact chattelref10_Series.mono _ _ _ _ _ _
      | exact month_Series.mono _ _ _ _ _ _
      | exact LeO.none _
      | refine LeO.ite ?_ ?_
      | refine LeO.bind ?_ (fun _ => ?_)
theorem chattellaw10_MonthSeries.mono : ∀ a0 a1 a2 a3 a4 k, LeO (chattellaw10_MonthSeries.f k a0 a1 a2 a3 a4) (chattellaw10_MonthSeries.f (k + 1) a0 a1 a2 a3 a4) := by
  intro a0 a1 a2 a3 a4 k
  obtain ⟨ih0, ih1⟩ := chattellaw10_MonthSeries.mono_l k
  unfold chattellaw10_MonthSeries.f
  repeat' first
      | (with_reducible exact ih0 _ _ _ _ _)
      | (with_reducible exact ih1 _ _ _ _ _ _ _ _ _ _ _)
      | (with_reducible exact api_Date.mono _ _ _)
      | (with_reducible exact chattellaw10_wakes.mono _)
      | (with_reducible exact chattelref09_Make.mono _ _ _ _ _)
      | (with_reducible exact chattelref10_Series.mono _ _ _ _ _ _)
      | (with_reducible exact month_Series.mono _ _ _ _ _ _)
      | (with_reducible exact LeO.refl _)
      | (with_reducible exact LeO.none _)
      | (with_reducible refine LeO.ite ?_ ?_)
      | (with_reducible refine LeO.bind ?_ (fun _ => ?_))
      | exact ih0 _ _ _ _ _
      | exact ih1 _ _ _ _ _ _ _ _ _ _ _
      | exact api_Date.mono _ _ _
      | exact chattellaw10_wakes.mono _
      | exact chattelref09_Make.mono _ _ _ _ _
      | exact chattelref10_Series.mono _ _ _ _ _ _
      | exact month_Series.mono _ _ _ _ _ _
      | exact LeO.none _
      | refine LeO.ite ?_ ?_
      | refine LeO.bind ?_ (fun _ => ?_)
def chattellaw10_MonthSeries.T1 : Bool × List (List Nat × List Nat) := (true, [([], []), ([], []), ([1], [1]), ([], []), ([3], [3]), ([], []), ([5], [5]), ([2, 4, 6], [2, 4, 6]), ([7], [7]), ([0, 8], [0, 8]), ([9], [9]), ([], [])])
def chattellaw10_MonthSeries.B1 : List Nat := [0, 0, 2, 0, 8, 0, 32, 126, 254, 511, 1023, 0]
theorem chattellaw10_MonthSeries.tab1 : rtab .any (opsOf Try.f3 1) = chattellaw10_MonthSeries.T1 := by kernel_rfl
theorem chattellaw10_MonthSeries.bits1 : waitsOk chattellaw10_MonthSeries.T1.2 chattellaw10_MonthSeries.B1 = true := by kernel_rfl
set_option maxHeartbeats 8000000 in
set_option maxRecDepth 100000 in
theorem chattellaw10_MonthSeries.calls (k : Nat) (a0_0 : Int) (a0_1 : Int) (a0_2 : Int) (a1 : Int) (a2 : Int) (r : Bool) (w : World) (h : chattellaw10_MonthSeries.f k a0_0 a0_1 a0_2 a1 a2 = some r) (ht_ : r = true) :
    Calls Try.prog 3 #[.agg #[.int .i64 a0_0, .int .i64 a0_1, .int .i64 a0_2], .int .i64 a1, .int .i64 a2] w fun e w' => e = .returned (.bool r) ∧ Below w.heap.size w w' := by
  have hu23 := Try.underlying23
  have hu25 := Try.underlying25
  have hu27 := Try.underlying27
  have HB := Aside0.mk (Below.refl w.heap.size w)
  have H : ((chattelref09_Make.f k a0_0 a0_1 a0_2 9999).bind fun bt167 => ((some (([(⟨a0_0, a0_1, a0_2⟩ : S23), (⟨bt167.1, bt167.2.1, bt167.2.2⟩ : S23)] : List (S23)) : List (S23))).bind fun y170 => (chattellaw10_MonthSeries.l0 k a1 a2 y170 (y170.length : Int) 0))) = some r := h
  clear h
  replace H := Option.bind_eq_some_iff.mp H
  obtain ⟨⟨t167, t168, t169⟩, A40, H⟩ := H
  replace H : ((some (([(⟨a0_0, a0_1, a0_2⟩ : S23), (⟨t167, t168, t169⟩ : S23)] : List (S23)) : List (S23))).bind fun y170 => (chattellaw10_MonthSeries.l0 k a1 a2 y170 (y170.length : Int) 0)) = some r := H
  have A4 := Aside0.mk A40
  clear A40
  obtain ⟨y170, hy170⟩ : ∃ y_ : List (S23), y_ = (([(⟨a0_0, a0_1, a0_2⟩ : S23), (⟨t167, t168, t169⟩ : S23)] : List (S23))) := ⟨_, rfl⟩
  replace H : (chattellaw10_MonthSeries.l0 k a1 a2 y170 (y170.length : Int) 0) = some r := by first | (rw [hy170]; with_reducible exact H) | (have H2_ := (Option.bind_some _ _).symm.trans H; rw [hy170]; with_reducible exact H2_) | (have H2_ := (Option.bind_some _ _).symm.trans H; with_reducible exact H2_) | with_reducible exact H | (rw [hy170]; exact H) | exact H
  have Ny170 := Aside0.mk hy170
  clear hy170
  have H' := Aside0.mk H
  clear H
  go_enter Try.func3, Try.ntmps3
  try go_wp2_with (first | ((with_reducible refine gate_dst (N := 3) rfl ?_); refine box_event ?hg (N := 3) ?hd (cs := #[.int .i64 a0_0, .int .i64 a0_1, .int .i64 a0_2]) (t := 23) ?hr ?_; (case hd => rfl); (case hg => rfl); (case hr => first | (go_simp; done) | (go_simp; rfl)); intro gb166 hg w5 hbox hb; have n0_ := Aside0.mk (below_step (by repeat (first | (with_reducible first | exact HB.out | apply below_alloc | apply pw_below_drewN | apply below_drew1) | exact HB.out)) hb); have n1_ := Aside0.mk (hbox); have n2_ := Aside0.mk ((by rw [hg]; exact (below_size (by repeat (first | (with_reducible first | exact HB.out | apply below_alloc | apply pw_below_drewN | apply below_drew1) | exact HB.out))) : w.heap.size ≤ gb166)); have n3_ := Aside0.mk ((by rw [hg]; exact (below_size (by repeat (first | (with_reducible first | exact HB.out | apply below_alloc | apply pw_below_drewN | apply below_drew1) | exact HB.out))) : w.heap.size ≤ gb166)); clear HB; have HB := n0_; have BK166 := n1_; have GW166 := n2_; have GE166 := n3_; clear n0_ n1_ n2_ n3_; clear hb hbox hg))
  replace BK166 := Aside0.mk (blk_drew BK166.out)
  replace HB := Aside0.mk (below_drew1 HB.out)
  refine start_ (n := 12) (S := fun w' => w'.cell? ⟨gb166, 0, none⟩ = some (.int .i64 a0_0) ∧ w'.cell? ⟨gb166, 1, none⟩ = some (.int .i64 a0_1) ∧ w'.cell? ⟨gb166, 2, none⟩ = some (.int .i64 a0_2)) (ds := []) (fl 0 12 []) (by kernel_rfl) rfl rfl ⟨(blk_cell BK166.out 0).trans rfl, (blk_cell BK166.out 1).trans rfl, (blk_cell BK166.out 2).trans rfl⟩ (fun hHeld => ?_); refine with_tabW chattellaw10_MonthSeries.tab1 chattellaw10_MonthSeries.bits1 (fun HT_ HW_ => ?_)
  generalize w5.drew = w6 at BK166 HB hHeld ⊢
  refine pure_ (i := 1) (N := some 16) (v := ?_) (a' := ?_) (fl 0 12 [1]) rfl rfl (any_of HT_.out (by kernel_rfl)) (fun _ _ _ h => h) (Or.inl ⟨by rfl, ?_⟩) ?_ ?_
  rotate_left
  · intro w'
    go_simp
    with_reducible rfl
  rotate_left
  · simp only [Act.put, List.setIfInBounds_toArray, List.set_cons_zero, List.set_cons_succ, i64_w, i32_w]
    rfl
  refine pure_ (i := 3) (N := some 18) (v := ?_) (a' := ?_) (fl 0 12 [1, 3]) rfl rfl (any_of HT_.out (by kernel_rfl)) (fun _ _ _ h => h) (Or.inl ⟨by rfl, ?_⟩) ?_ ?_
  rotate_left
  · intro w'
    go_simp
    with_reducible rfl
  rotate_left
  · simp only [Act.put, List.setIfInBounds_toArray, List.set_cons_zero, List.set_cons_succ, i64_w, i32_w]
    rfl
  refine pure_ (i := 5) (N := some 20) (v := ?_) (a' := ?_) (fl 0 12 [1, 3, 5]) rfl rfl (any_of HT_.out (by kernel_rfl)) (fun _ _ _ h => h) (Or.inl ⟨by rfl, ?_⟩) ?_ ?_
  rotate_left
  · intro w'
    go_simp
    with_reducible rfl
  rotate_left
  · simp only [Act.put, List.setIfInBounds_toArray, List.set_cons_zero, List.set_cons_succ, i64_w, i32_w]
    rfl
  refine pure_ (i := 11) (N := some 26) (v := ?_) (a' := ?_) (fl 0 12 [1, 3, 5, 11]) rfl rfl (any_of HT_.out (by kernel_rfl)) (fun _ _ _ h => h) (Or.inl ⟨by rfl, ?_⟩) ?_ ?_
  rotate_left
  · intro w'
    go_simp
    with_reducible rfl
  rotate_left
  · simp only [Act.put, List.setIfInBounds_toArray, List.set_cons_zero, List.set_cons_succ, i64_w, i32_w]
    rfl
  refine take_ (i := 0) (N := some 15) (v := ?_) (a' := ?_) (fl 2 12 [3, 5, 11]) rfl rfl (take_ofW HT_.out HW_.out (by kernel_rfl)) (fun _ _ _ h => h) (Or.inl ⟨by rfl, ?_⟩) hHeld ?_ ?_
  rotate_left
  · rintro w' ⟨s0, s1, s2⟩
    go_simp
    with_reducible rfl
  rotate_left
  · simp only [Act.put, List.setIfInBounds_toArray, List.set_cons_zero, List.set_cons_succ, i64_w, i32_w]
    rfl
  refine take_ (i := 2) (N := some 17) (v := ?_) (a' := ?_) (fl 4 12 [5, 11]) rfl rfl (take_ofW HT_.out HW_.out (by kernel_rfl)) (fun _ _ _ h => h) (Or.inl ⟨by rfl, ?_⟩) hHeld ?_ ?_
  rotate_left
  · rintro w' ⟨s0, s1, s2⟩
    go_simp
    with_reducible rfl
  rotate_left
  · simp only [Act.put, List.setIfInBounds_toArray, List.set_cons_zero, List.set_cons_succ, i64_w, i32_w]
    rfl
  refine take_ (i := 4) (N := some 19) (v := ?_) (a' := ?_) (fl 6 12 [11]) rfl rfl (take_ofW HT_.out HW_.out (by kernel_rfl)) (fun _ _ _ h => h) (Or.inl ⟨by rfl, ?_⟩) hHeld ?_ ?_
  rotate_left
  · rintro w' ⟨s0, s1, s2⟩
    go_simp
    with_reducible rfl
  rotate_left
  · simp only [Act.put, List.setIfInBounds_toArray, List.set_cons_zero, List.set_cons_succ, i64_w, i32_w]
    rfl
  refine take_ (i := 6) (N := some 21) (v := ?_) (a' := ?_) (fl 7 12 [11]) rfl rfl (take_ofW HT_.out HW_.out (by kernel_rfl)) (fun _ _ _ h => h) (Or.inl ⟨by rfl, ?_⟩) hHeld ?_ ?_
  rotate_left
  · rintro w' ⟨s0, s1, s2⟩
    go_simp
    with_reducible rfl
  rotate_left
  · simp only [Act.put, List.setIfInBounds_toArray, List.set_cons_zero, List.set_cons_succ, i64_w, i32_w]
    rfl
  refine pure_ (i := 7) (N := some 22) (v := ?_) (a' := ?_) (fl 8 12 [11]) rfl rfl (any_of HT_.out (by kernel_rfl)) (fun _ _ _ h => h) (Or.inl ⟨by rfl, ?_⟩) ?_ ?_
  rotate_left
  · intro w'
    go_simp
    with_reducible rfl
  rotate_left
  · simp only [Act.put, List.setIfInBounds_toArray, List.set_cons_zero, List.set_cons_succ, i64_w, i32_w]
    rfl
  refine one_ (i := 8) (N := some 23) (fl 9 12 [11]) rfl rfl (one_of HT_.out (by kernel_rfl)) (by decide) (fun K hK => ?_)
  refine goes_ Try.func12 (by kernel_rfl) rfl #[.agg #[.int .i64 a0_0, .int .i64 a0_1, .int .i64 a0_2], .int .i64 9999] (by rfl) rfl rfl (by (try simp only [List.map_toArray, List.map_cons, List.map_nil]); first | done | rfl | (simp only [List.length_drop, List.length_take]; rfl)) ?_
  with_reducible refine (chattelref09_Make.calls k a0_0 a0_1 a0_2 9999 t167 t168 t169 _ A4.out).mono ?_
  rintro e w7 ⟨rfl, hb⟩
  refine ⟨_, rfl, ?_⟩
  replace BK166 := Aside0.mk (bb BK166.out hb)
  replace HB := Aside0.mk (bs HB.out hb)
  (try clear hb)
  (try clear hb2)
  (try clear hk)
  (try clear hi)
  refine hK.out _ _ ⟨(blk_cell BK166.out 0).trans rfl, (blk_cell BK166.out 1).trans rfl, (blk_cell BK166.out 2).trans rfl⟩ (fun hHeld => ?_)
  clear hK K
  refine norm_ (a' := ?_) ?_ ?_
  rotate_left
  · show Act.put _ (some 23) _ = _
    simp only [Act.put, List.setIfInBounds_toArray, List.set_cons_zero, List.set_cons_succ, i64_w, i32_w]
    rfl
  refine one_ (i := 9) (N := some 24) (fl 10 12 [11]) rfl rfl (one_of HT_.out (by kernel_rfl)) (by decide) (fun K hK => ?_)
  refine Kd.R_lit_step k23 _ 23 ?hg (N := 24) ?hd (xs := ([(⟨a0_0, a0_1, a0_2⟩ : S23), (⟨t167, t168, t169⟩ : S23)] : List (S23))) (inner := [.int .i64 a0_0, .int .i64 a0_1, .int .i64 a0_2, .int .i64 t167, .int .i64 t168, .int .i64 t169]) (ok := fun _ => True) (okp := fun _ => True) ?hr ?hp (fun _ hk => hk) trivial (Below.refl _ _) (Nat.le_refl _) (by simp) ?_; (case hd => rfl); (case hg => rfl); (case hr => first | (go_simp; done) | (go_simp; rfl)); (case hp => exact (Reps.c3 (show Kd.M k23 _ _ _ (⟨a0_0, a0_1, a0_2⟩ : S23) [.int .i64 a0_0, .int .i64 a0_1, .int .i64 a0_2] from (k23_mkM _ _ _ (⟨a0_0, a0_1, a0_2⟩ : S23) )) (Reps.c3 (show Kd.M k23 _ _ _ (⟨t167, t168, t169⟩ : S23) [.int .i64 t167, .int .i64 t168, .int .i64 t169] from (k23_mkM _ _ _ (⟨t167, t168, t169⟩ : S23) )) (Reps.none _ _))))
  intro v171 w8 ho9 hb hg_ hnew_
  clear hg_ hnew_
  (first | rw [← Ny170.out] at ho9 | (simp only [Int.reduceToNat] at ho9; rw [← Ny170.out] at ho9))
  have HO172 := Aside0.mk (Kd.R_lower (Kd.R_newB ho9 (g := gb166) (o := .cells #[.int .i64 a0_0, .int .i64 a0_1, .int .i64 a0_2] 23 (0, 0)) (by (with_reducible repeat (first | refine blk_drewN ?_ _ | refine blk_drew ?_ | refine blk_alloc ?_ _)); exact BK166.out)) (bz HB.out))
  replace BK166 := Aside0.mk (bb BK166.out hb)
  replace HB := Aside0.mk (bs HB.out hb)
  clear hb ho9
  obtain ⟨Ao10, co10, eo10⟩ := Kd.R_slice HO172.out
  (first | subst eo10 | (injection eo10 with f1_ f2_ f3_; have f4_ := f1_.symm; have f5_ := f3_.symm; clear f1_ f2_ f3_; subst f4_; subst f5_))
  refine hK.out _ _ ⟨(blk_cell BK166.out 0).trans rfl, (blk_cell BK166.out 1).trans rfl, (blk_cell BK166.out 2).trans rfl⟩ (fun hHeld => ?_)
  clear hK K
  refine norm_ (a' := ?_) ?_ ?_
  rotate_left
  · show Act.put _ (some 24) _ = _
    simp only [Act.put, List.setIfInBounds_toArray, List.set_cons_zero, List.set_cons_succ, i64_w, i32_w]
    rfl
  refine pure_ (i := 10) (N := some 25) (v := ?_) (a' := ?_) (fl 12 12 []) rfl rfl (any_of HT_.out (by kernel_rfl)) (fun _ _ _ h => h) (Or.inl ⟨by rfl, ?_⟩) ?_ ?_
  rotate_left
  · intro w'
    go_simp
    with_reducible rfl
  rotate_left
  · simp only [Act.put, List.setIfInBounds_toArray, List.set_cons_zero, List.set_cons_succ, i64_w, i32_w]
    rfl
  refine done_ (done_of HT_.out (by kernel_rfl)) ?_
  try go_wp2
  go_loopg [26] k (fun kq v26 w' => ∃ (x26_1 : Int), v26 = .int .i64 x26_1 ∧ Aside0 (chattellaw10_MonthSeries.l0 kq a1 a2 y170 (y170.length : Int) x26_1 = some r) ∧ Aside0 (kq ≤ k) ∧ Aside0 (Kd.R k23 23 w' w.heap.size (fun k_ => k_ ≠ gb166) (.slice Ao10 y170.length co10) y170) ∧ Aside0 (w'.heap[gb166]? = some (.cells #[.int .i64 a0_0, .int .i64 a0_1, .int .i64 a0_2] 23 (0, 0))) ∧ Aside0 (Below w.heap.size w w'))
  case atStart => exact ⟨(0), (by first | rfl | (simp; done) | (simp [*]; done)), H', ⟨Nat.le_refl _⟩, ⟨by (with_reducible repeat (first | apply Kd.R_alloc | apply Kd.R_drewN | apply Kd.R_drew)); exact Kd.R_mono HO172.out (fun _ hk => hk.2)⟩, ⟨by (with_reducible repeat (first | refine blk_drewN ?_ _ | refine blk_drew ?_ | refine blk_alloc ?_ _)); exact BK166.out⟩, ⟨by repeat (first | (with_reducible first | exact HB.out | apply below_alloc | apply pw_below_drewN | apply below_drew1 | refine below_set ?_ GE166.out) | exact HB.out)⟩⟩
  case round =>
    clear H'
    try clear c1
    try clear p2
    try clear c3
    obtain ⟨x26_1, rfl, HA, HK1, HO_24, BK166, HB⟩ := hrel
    cases gk with
    | zero => exact absurd HA.out (by simp [chattellaw10_MonthSeries.l0])
    | succ k1 =>
      have H := HA.out
      clear HA
      simp only [chattellaw10_MonthSeries.l0] at H
      by_cases c11 : x26_1 < (y170.length : Int)
      · rw [if_pos c11] at H
        have c11b0 : decide (x26_1 < (y170.length : Int)) = true := decide_eq_true c11
        clear c11
        by_cases c12 : 0 ≤ x26_1
        rotate_left
        · rw [if_neg c12] at H
          exact absurd H (by simp)
        rw [if_pos c12] at H
        have c12b0 : decide (0 ≤ x26_1) = true := decide_eq_true c12
        clear c12
        by_cases c13 : x26_1 < (y170.length : Int)
        rotate_left
        · rw [if_neg c13] at H
          exact absurd H (by simp)
        rw [if_pos c13] at H
        have c13b0 : decide (x26_1 < (y170.length : Int)) = true := decide_eq_true c13
        clear c13
        obtain ⟨ji14, hji14⟩ : ∃ j_ : Int, (mx 0 a1) = j_ := ⟨_, rfl⟩
        replace H : ((some (([(⟨a1, a2⟩ : S27), (⟨1 + ((ji14) % 12), (mx 0 a2) % 40⟩ : S27)] : List (S27)) : List (S27))).bind fun y176 => (chattellaw10_MonthSeries.l1 k1 a1 a2 y170 (y170.length : Int) x26_1 y176 (y176.length : Int) 0 ((rd_T23 y170 x26_1).f0) ((rd_T23 y170 x26_1).f1) ((rd_T23 y170 x26_1).f2))) = some r := by first | (rw [hji14] at H; exact H) | (simp only [hji14] at H ⊢; exact H)
        have hji14_ : (if 0 < a1 then a1 else 0) = ji14 := hji14
        obtain ⟨ji15, hji15⟩ : ∃ j_ : Int, (mx 0 a2) = j_ := ⟨_, rfl⟩
        replace H : ((some (([(⟨a1, a2⟩ : S27), (⟨1 + ((ji14) % 12), (ji15) % 40⟩ : S27)] : List (S27)) : List (S27))).bind fun y176 => (chattellaw10_MonthSeries.l1 k1 a1 a2 y170 (y170.length : Int) x26_1 y176 (y176.length : Int) 0 ((rd_T23 y170 x26_1).f0) ((rd_T23 y170 x26_1).f1) ((rd_T23 y170 x26_1).f2))) = some r := by first | (rw [hji15] at H; exact H) | (simp only [hji15] at H ⊢; exact H)
        have hji15_ : (if 0 < a2 then a2 else 0) = ji15 := hji15
        obtain ⟨y176, hy176⟩ : ∃ y_ : List (S27), y_ = (([(⟨a1, a2⟩ : S27), (⟨1 + ((ji14) % 12), (ji15) % 40⟩ : S27)] : List (S27))) := ⟨_, rfl⟩
        replace H : (chattellaw10_MonthSeries.l1 k1 a1 a2 y170 (y170.length : Int) x26_1 y176 (y176.length : Int) 0 ((rd_T23 y170 x26_1).f0) ((rd_T23 y170 x26_1).f1) ((rd_T23 y170 x26_1).f2)) = some r := by first | (rw [hy176]; with_reducible exact H) | (have H2_ := (Option.bind_some _ _).symm.trans H; rw [hy176]; with_reducible exact H2_) | (have H2_ := (Option.bind_some _ _).symm.trans H; with_reducible exact H2_) | with_reducible exact H | (rw [hy176]; exact H) | exact H
        have Ny176 := Aside0.mk hy176
        clear hy176
        have H' := Aside0.mk H
        clear H
        have p174 : 0 ≤ (x26_1 : Int) := of_decide_eq_true (by first | (with_reducible assumption) | assumption)
        have q174 : x26_1 < (y170.length : Int) := of_decide_eq_true (by first | (with_reducible assumption) | assumption)
        obtain ⟨ad174, e174, hx174_0, hx174_1, hx174_2⟩ := at_T23 (Kd.R_reads' HO_24.out).2.2 x26_1 p174 q174
        cases e174
        replace p174 := eq_true p174
        replace q174 := eq_true q174
        go_wp2_with (first | ((with_reducible refine gate_dst (N := 8) rfl ?_); refine box_event ?hg (N := 8) ?hd (cs := #[.int .i64 0, .int .i64 0, .int .i64 0]) (t := 23) ?hr ?_; (case hd => rfl); (case hg => rfl); (case hr => first | (go_simp; done) | (go_simp; rfl)); intro gb175 hg w16 hbox hb; have n0_ := Aside0.mk (Kd.R_below (Kd.R_elderB (by (with_reducible repeat (first | apply Kd.R_alloc | apply Kd.R_drewN | apply Kd.R_drew)); exact HO_24.out) gb175 (Nat.le_of_eq hg.symm)) hb); have n1_ := Aside0.mk (bb BK166.out hb); have n2_ := Aside0.mk (bs HB.out hb); have n3_ := Aside0.mk (hbox); have n4_ := Aside0.mk ((by rw [hg]; exact (bz HB.out) : w.heap.size ≤ gb175)); have n5_ := Aside0.mk ((by rw [hg]; exact (bz HB.out) : w.heap.size ≤ gb175)); have n6_ := Aside0.mk ((by rw [hg]; exact Nat.ne_of_lt (blk_lt (g := gb166) (o := .cells #[.int .i64 a0_0, .int .i64 a0_1, .int .i64 a0_2] 23 (0, 0)) (by (with_reducible repeat (first | refine blk_drewN ?_ _ | refine blk_drew ?_ | refine blk_alloc ?_ _)); exact BK166.out)) : gb166 ≠ gb175)); have n7_ := Aside0.mk ((by rw [hg]; exact Nat.ne_of_gt (blk_lt (g := gb166) (o := .cells #[.int .i64 a0_0, .int .i64 a0_1, .int .i64 a0_2] 23 (0, 0)) (by (with_reducible repeat (first | refine blk_drewN ?_ _ | refine blk_drew ?_ | refine blk_alloc ?_ _)); exact BK166.out)) : gb175 ≠ gb166)); clear HO_24; clear BK166; clear HB; have HO_24 := n0_; have BK166 := n1_; have HB := n2_; have BK175 := n3_; have GW175 := n4_; have GE175 := n5_; have NB166_175 := n6_; have NB175_166 := n7_; clear n0_ n1_ n2_ n3_ n4_ n5_ n6_ n7_; clear hb hbox hg; have hnb17 := NB175_166.out; have hnc17 := NB166_175.out; have hcz18_0 : w16.cell? ⟨gb175, 0, none⟩ = some (.int .i64 0) := (blk_cell BK175.out 0).trans rfl; have hcz18_1 : w16.cell? ⟨gb175, 1, none⟩ = some (.int .i64 0) := (blk_cell BK175.out 1).trans rfl; have hcz18_2 : w16.cell? ⟨gb175, 2, none⟩ = some (.int .i64 0) := (blk_cell BK175.out 2).trans rfl; have hfz18_0 := blk_frozen BK175.out 0; have hfz18_1 := blk_frozen BK175.out 1; have hfz18_2 := blk_frozen BK175.out 2) | ((with_reducible refine gate_dst (N := 41) rfl ?_); refine Kd.R_lit k27 _ 27 ?hg (N := 41) ?hd (xs := ([(⟨a1, a2⟩ : S27), (⟨1 + ((ji14) % 12), (ji15) % 40⟩ : S27)] : List (S27))) (inner := [.int .i64 a1, .int .i64 a2, .int .i64 (1 + ((ji14) % 12)), .int .i64 ((ji15) % 40)]) (ok := fun _ => True) (okp := fun _ => True) ?hr ?hp (fun _ hk => hk) trivial (Below.refl _ _) (Nat.le_refl _) (by simp) ?_; (case hd => rfl); (case hg => rfl); (case hr => first | (go_simp; done) | (go_simp; rfl)); (case hp => exact (Reps.c2 (show Kd.M k27 _ _ _ (⟨a1, a2⟩ : S27) [.int .i64 a1, .int .i64 a2] from (k27_mkM _ _ _ (⟨a1, a2⟩ : S27) )) (Reps.c2 (show Kd.M k27 _ _ _ (⟨1 + ((ji14) % 12), (ji15) % 40⟩ : S27) [.int .i64 (1 + ((ji14) % 12)), .int .i64 ((ji15) % 40)] from (k27_mkM _ _ _ (⟨1 + ((ji14) % 12), (ji15) % 40⟩ : S27) )) (Reps.none _ _)))); intro v177 w19 ho20 hb hg_ hnew_; clear hg_ hnew_; (first | rw [← Ny176.out] at ho20 | (simp only [Int.reduceToNat] at ho20; rw [← Ny176.out] at ho20)); replace HO_24 := Aside0.mk (Kd.R_below (by (with_reducible repeat (first | apply Kd.R_alloc | apply Kd.R_drewN | apply Kd.R_drew)); exact (Kd.R_mono (Kd.R_far (p := ⟨gb175, 2, none⟩) (Kd.R_far (p := ⟨gb175, 1, none⟩) (Kd.R_far (p := ⟨gb175, 0, none⟩) (Kd.R_mono HO_24.out (fun k_ hk => (⟨hk, hk.2⟩ : _ ∧ k_ ≠ gb175))) (fun _ hk => hk.2) (.int .i64 ((rd_T23 y170 x26_1).f0))) (fun _ hk => hk.2) (.int .i64 ((rd_T23 y170 x26_1).f1))) (fun _ hk => hk.2) (.int .i64 ((rd_T23 y170 x26_1).f2))) (fun _ h_ => h_.1))) hb); have HO178 := Aside0.mk (Kd.R_lower ho20 (below_size (by repeat (first | (with_reducible first | exact HB.out | apply below_alloc | apply pw_below_drewN | apply below_drew1 | refine below_set ?_ GE166.out | refine below_set ?_ GE175.out) | exact HB.out)))); replace BK166 := Aside0.mk (blk_below (g := gb166) (o := .cells #[.int .i64 a0_0, .int .i64 a0_1, .int .i64 a0_2] 23 (0, 0)) (by (with_reducible repeat (first | refine blk_drewN ?_ _ | refine blk_drew ?_ | refine blk_alloc ?_ _)); refine blk_far ?_ NB166_175.out _; (with_reducible repeat (first | refine blk_drewN ?_ _ | refine blk_drew ?_ | refine blk_alloc ?_ _)); refine blk_far ?_ NB166_175.out _; (with_reducible repeat (first | refine blk_drewN ?_ _ | refine blk_drew ?_ | refine blk_alloc ?_ _)); refine blk_far ?_ NB166_175.out _; (with_reducible repeat (first | refine blk_drewN ?_ _ | refine blk_drew ?_ | refine blk_alloc ?_ _)); exact BK166.out) hb); replace BK175 := Aside0.mk (blk_below (g := gb175) (o := .cells #[.int .i64 ((rd_T23 y170 x26_1).f0), .int .i64 ((rd_T23 y170 x26_1).f1), .int .i64 ((rd_T23 y170 x26_1).f2)] 23 (0, 0)) (by (with_reducible repeat (first | refine blk_drewN ?_ _ | refine blk_drew ?_ | refine blk_alloc ?_ _)); refine blk_put (cs := #[.int .i64 ((rd_T23 y170 x26_1).f0), .int .i64 ((rd_T23 y170 x26_1).f1), .int .i64 0]) ?_ 2 _ rfl; (with_reducible repeat (first | refine blk_drewN ?_ _ | refine blk_drew ?_ | refine blk_alloc ?_ _)); refine blk_put (cs := #[.int .i64 ((rd_T23 y170 x26_1).f0), .int .i64 0, .int .i64 0]) ?_ 1 _ rfl; (with_reducible repeat (first | refine blk_drewN ?_ _ | refine blk_drew ?_ | refine blk_alloc ?_ _)); refine blk_put (cs := #[.int .i64 0, .int .i64 0, .int .i64 0]) ?_ 0 _ rfl; (with_reducible repeat (first | refine blk_drewN ?_ _ | refine blk_drew ?_ | refine blk_alloc ?_ _)); exact BK175.out) hb); replace HB := Aside0.mk (below_step (by repeat (first | (with_reducible first | exact HB.out | apply below_alloc | apply pw_below_drewN | apply below_drew1 | refine below_set ?_ GE166.out | refine below_set ?_ GE175.out) | exact HB.out)) hb); clear hb ho20; obtain ⟨Ao21, co21, eo21⟩ := Kd.R_slice HO178.out; subst eo21))
        go_loopg [43] k1 (fun kq v43 w' => ∃ (x43_2 : Int), v43 = .int .i64 x43_2 ∧ Aside0 (chattellaw10_MonthSeries.l1 kq a1 a2 y170 (y170.length : Int) x26_1 y176 (y176.length : Int) x43_2 ((rd_T23 y170 x26_1).f0) ((rd_T23 y170 x26_1).f1) ((rd_T23 y170 x26_1).f2) = some r) ∧ Aside0 (kq ≤ k1) ∧ Aside0 (Kd.R k23 23 w' w.heap.size (fun k_ => k_ ≠ gb166 ∧ k_ ≠ gb175) (.slice (some ad174) y170.length co10) y170) ∧ Aside0 (Kd.R k27 27 w' w.heap.size (fun _ => True) (.slice Ao21 y176.length co21) y176) ∧ Aside0 (w'.heap[gb166]? = some (.cells #[.int .i64 a0_0, .int .i64 a0_1, .int .i64 a0_2] 23 (0, 0))) ∧ Aside0 (w'.heap[gb175]? = some (.cells #[.int .i64 ((rd_T23 y170 x26_1).f0), .int .i64 ((rd_T23 y170 x26_1).f1), .int .i64 ((rd_T23 y170 x26_1).f2)] 23 (0, 0))) ∧ Aside0 (Below w.heap.size w w'))
        case atStart => exact ⟨(0), (by first | rfl | (simp; done) | (simp [*]; done)), H', ⟨Nat.le_refl _⟩, ⟨by (with_reducible repeat (first | apply Kd.R_alloc | apply Kd.R_drewN | apply Kd.R_drew)); exact HO_24.out⟩, ⟨by (with_reducible repeat (first | apply Kd.R_alloc | apply Kd.R_drewN | apply Kd.R_drew)); exact HO178.out⟩, ⟨by (with_reducible repeat (first | refine blk_drewN ?_ _ | refine blk_drew ?_ | refine blk_alloc ?_ _)); exact BK166.out⟩, ⟨by (with_reducible repeat (first | refine blk_drewN ?_ _ | refine blk_drew ?_ | refine blk_alloc ?_ _)); exact BK175.out⟩, ⟨by repeat (first | (with_reducible first | exact HB.out | apply below_alloc | apply pw_below_drewN | apply below_drew1 | refine below_set ?_ GE166.out | refine below_set ?_ GE175.out) | exact HB.out)⟩⟩
        case round =>
          clear H'
          try clear c1
          try clear p1
          try clear q1
          try clear hx1
          try clear c2
          try clear p2
          try clear c3
          try clear c11
          try clear c11b0
          try clear c12
          try clear c12b0
          try clear c13
          try clear c13b0
          try clear c17
          try clear p17
          try clear q17
          try clear hx17
          try clear hcz18_0
          try clear hcz18_1
          try clear hcz18_2
          try clear hfz18_0
          try clear hfz18_1
          try clear hfz18_2
          try clear hx174_0
          try clear hx174_1
          try clear hx174_2
          try clear p174
          try clear p2
          try clear q174
          obtain ⟨x43_2, rfl, HA, HK2, HO_24, HO_41, BK166, BK175, HB⟩ := hrel
          cases gk with
          | zero => exact absurd HA.out (by simp [chattellaw10_MonthSeries.l1])
          | succ k2 =>
            have H := HA.out
            clear HA
            simp only [chattellaw10_MonthSeries.l1] at H
            by_cases c22 : x43_2 < (y176.length : Int)
            · rw [if_pos c22] at H
              have c22b0 : decide (x43_2 < (y176.length : Int)) = true := decide_eq_true c22
              clear c22
              by_cases c23 : 0 ≤ x43_2
              rotate_left
              · rw [if_neg c23] at H
                exact absurd H (by simp)
              rw [if_pos c23] at H
              have c23b0 : decide (0 ≤ x43_2) = true := decide_eq_true c23
              clear c23
              by_cases c24 : x43_2 < (y176.length : Int)
              rotate_left
              · rw [if_neg c24] at H
                exact absurd H (by simp)
              rw [if_pos c24] at H
              have c24b0 : decide (x43_2 < (y176.length : Int)) = true := decide_eq_true c24
              clear c24
              replace H := Option.bind_eq_some_iff.mp H
              obtain ⟨⟨t181, t184⟩, A250, H⟩ := H
              replace H : ((chattelref10_Series.f k2 ((rd_T23 y170 x26_1).f0) ((rd_T23 y170 x26_1).f1) ((rd_T23 y170 x26_1).f2) ((rd_T27 y176 x43_2).f0) ((rd_T27 y176 x43_2).f1)).bind fun bt185 => (if t184 = bt185.2 then ((api_Date.f k2 t181 bt185.1).bind fun t189 => (if t189 = true then (chattellaw10_MonthSeries.l1 k2 a1 a2 y170 (y170.length : Int) x26_1 y176 (y176.length : Int) (wrap64 (x43_2 + 1)) ((rd_T23 y170 x26_1).f0) ((rd_T23 y170 x26_1).f1) ((rd_T23 y170 x26_1).f2)) else (some false))) else (some false))) = some r := H
              have A25 := Aside0.mk A250
              clear A250
              replace H := Option.bind_eq_some_iff.mp H
              obtain ⟨⟨t185, t188⟩, A260, H⟩ := H
              replace H : (if t184 = t188 then ((api_Date.f k2 t181 t185).bind fun t189 => (if t189 = true then (chattellaw10_MonthSeries.l1 k2 a1 a2 y170 (y170.length : Int) x26_1 y176 (y176.length : Int) (wrap64 (x43_2 + 1)) ((rd_T23 y170 x26_1).f0) ((rd_T23 y170 x26_1).f1) ((rd_T23 y170 x26_1).f2)) else (some false))) else (some false)) = some r := H
              have A26 := Aside0.mk A260
              clear A260
              by_cases c27 : t184 = t188
              rotate_left
              · rw [if_neg c27] at H
                have c27b0 : (t184 == t188) = false := beq_eq_false_iff_ne.mpr c27
                have c27b1 : (t184 != t188) = true := bne_iff_ne.mpr c27
                exact absurd (Option.some.inj H) (by rw [ht_]; decide)
              rw [if_pos c27] at H
              have c27b0 : (t184 == t188) = true := beq_iff_eq.mpr c27
              have c27b1 : (t184 != t188) = false := bne_eq_false_iff_eq.mpr c27
              clear c27
              replace H := Option.bind_eq_some_iff.mp H
              obtain ⟨t189, A280, H⟩ := H
              replace H : (if t189 = true then (chattellaw10_MonthSeries.l1 k2 a1 a2 y170 (y170.length : Int) x26_1 y176 (y176.length : Int) (wrap64 (x43_2 + 1)) ((rd_T23 y170 x26_1).f0) ((rd_T23 y170 x26_1).f1) ((rd_T23 y170 x26_1).f2)) else (some false)) = some r := H
              have A28 := Aside0.mk A280
              clear A280
              by_cases c29 : t189 = true
              · subst c29
                have H1 : (chattellaw10_MonthSeries.l1 k2 a1 a2 y170 (y170.length : Int) x26_1 y176 (y176.length : Int) (wrap64 (x43_2 + 1)) ((rd_T23 y170 x26_1).f0) ((rd_T23 y170 x26_1).f1) ((rd_T23 y170 x26_1).f2)) = some r := by rw [if_pos rfl] at H; exact H
                clear H
                have H := H1
                clear H1
                have H' := Aside0.mk H
                clear H
                have p179 : 0 ≤ (x43_2 : Int) := of_decide_eq_true (by first | (with_reducible assumption) | assumption)
                have q179 : x43_2 < (y176.length : Int) := of_decide_eq_true (by first | (with_reducible assumption) | assumption)
                obtain ⟨ad179, e179, hx179_0, hx179_1⟩ := at_T27 (Kd.R_reads' HO_41.out).2.2 x43_2 p179 q179
                cases e179
                replace p179 := eq_true p179
                replace q179 := eq_true q179
                go_wp2_with (first | ((with_reducible refine gate_dst (N := 10) rfl ?_); refine box_event ?hg (N := 10) ?hd (cs := #[.int .i64 0, .int .i64 0]) (t := 27) ?hr ?_; (case hd => rfl); (case hg => rfl); (case hr => first | (go_simp; done) | (go_simp; rfl)); intro gb180 hg w30 hbox hb; have n0_ := Aside0.mk (rb HO_24.out hb); have n1_ := Aside0.mk (Kd.R_below (Kd.R_elderB (by (with_reducible repeat (first | apply Kd.R_alloc | apply Kd.R_drewN | apply Kd.R_drew)); exact HO_41.out) gb180 (Nat.le_of_eq hg.symm)) hb); have n2_ := Aside0.mk (bb BK166.out hb); have n3_ := Aside0.mk (bb BK175.out hb); have n4_ := Aside0.mk (bs HB.out hb); have n5_ := Aside0.mk (hbox); have n6_ := Aside0.mk ((by rw [hg]; exact (bz HB.out) : w.heap.size ≤ gb180)); have n7_ := Aside0.mk ((by rw [hg]; exact (bz HB.out) : w.heap.size ≤ gb180)); have n8_ := Aside0.mk ((by rw [hg]; exact Nat.ne_of_lt (blk_lt (g := gb166) (o := .cells #[.int .i64 a0_0, .int .i64 a0_1, .int .i64 a0_2] 23 (0, 0)) (by (with_reducible repeat (first | refine blk_drewN ?_ _ | refine blk_drew ?_ | refine blk_alloc ?_ _)); exact BK166.out)) : gb166 ≠ gb180)); have n9_ := Aside0.mk ((by rw [hg]; exact Nat.ne_of_gt (blk_lt (g := gb166) (o := .cells #[.int .i64 a0_0, .int .i64 a0_1, .int .i64 a0_2] 23 (0, 0)) (by (with_reducible repeat (first | refine blk_drewN ?_ _ | refine blk_drew ?_ | refine blk_alloc ?_ _)); exact BK166.out)) : gb180 ≠ gb166)); have n10_ := Aside0.mk ((by rw [hg]; exact Nat.ne_of_lt (blk_lt (g := gb175) (o := .cells #[.int .i64 ((rd_T23 y170 x26_1).f0), .int .i64 ((rd_T23 y170 x26_1).f1), .int .i64 ((rd_T23 y170 x26_1).f2)] 23 (0, 0)) (by (with_reducible repeat (first | refine blk_drewN ?_ _ | refine blk_drew ?_ | refine blk_alloc ?_ _)); exact BK175.out)) : gb175 ≠ gb180)); have n11_ := Aside0.mk ((by rw [hg]; exact Nat.ne_of_gt (blk_lt (g := gb175) (o := .cells #[.int .i64 ((rd_T23 y170 x26_1).f0), .int .i64 ((rd_T23 y170 x26_1).f1), .int .i64 ((rd_T23 y170 x26_1).f2)] 23 (0, 0)) (by (with_reducible repeat (first | refine blk_drewN ?_ _ | refine blk_drew ?_ | refine blk_alloc ?_ _)); exact BK175.out)) : gb180 ≠ gb175)); clear HO_24; clear HO_41; clear BK166; clear BK175; clear HB; have HO_24 := n0_; have HO_41 := n1_; have BK166 := n2_; have BK175 := n3_; have HB := n4_; have BK180 := n5_; have GW180 := n6_; have GE180 := n7_; have NB166_180 := n8_; have NB180_166 := n9_; have NB175_180 := n10_; have NB180_175 := n11_; clear n0_ n1_ n2_ n3_ n4_ n5_ n6_ n7_ n8_ n9_ n10_ n11_; clear hb hbox hg; have hnb31 := NB180_166.out; have hnc31 := NB166_180.out; have hnb32 := NB180_175.out; have hnc32 := NB175_180.out; have hcz33_0 : w30.cell? ⟨gb180, 0, none⟩ = some (.int .i64 0) := (blk_cell BK180.out 0).trans rfl; have hcz33_1 : w30.cell? ⟨gb180, 1, none⟩ = some (.int .i64 0) := (blk_cell BK180.out 1).trans rfl; have hfz33_0 := blk_frozen BK180.out 0; have hfz33_1 := blk_frozen BK180.out 1; have hnb34 := NB175_166.out; have hnc34 := NB166_175.out; have hcz35_0 : w30.cell? ⟨gb175, 0, none⟩ = some (.int .i64 ((rd_T23 y170 x26_1).f0)) := (blk_cell BK175.out 0).trans rfl; have hcz35_1 : w30.cell? ⟨gb175, 1, none⟩ = some (.int .i64 ((rd_T23 y170 x26_1).f1)) := (blk_cell BK175.out 1).trans rfl; have hcz35_2 : w30.cell? ⟨gb175, 2, none⟩ = some (.int .i64 ((rd_T23 y170 x26_1).f2)) := (blk_cell BK175.out 2).trans rfl; have hfz35_0 := blk_frozen BK175.out 0; have hfz35_1 := blk_frozen BK175.out 1; have hfz35_2 := blk_frozen BK175.out 2) | ((with_reducible refine gate_callee (f := 13) rfl ?_); refine goesL_ (some 53) rfl rfl Try.func13 (by kernel_rfl) rfl #[.agg #[.int .i64 ((rd_T23 y170 x26_1).f0), .int .i64 ((rd_T23 y170 x26_1).f1), .int .i64 ((rd_T23 y170 x26_1).f2)], .int .i64 ((rd_T27 y176 x43_2).f0), .int .i64 ((rd_T27 y176 x43_2).f1)] rfl (by (try simp only [List.map_toArray, List.map_cons, List.map_nil]); first | done | rfl | (simp only [List.length_drop, List.length_take]; rfl)) ?_; (with_reducible refine (month_Series.calls k2 ((rd_T23 y170 x26_1).f0) ((rd_T23 y170 x26_1).f1) ((rd_T23 y170 x26_1).f2) ((rd_T27 y176 x43_2).f0) ((rd_T27 y176 x43_2).f1) t181 t184 _ A25.out).mono ?_); rintro e w36 ⟨v182, rfl, ho0, hb⟩; refine ⟨_, rfl, ?_⟩; have n0_ := Aside0.mk (Kd.R_elder' (by (with_reducible repeat (first | apply Kd.R_alloc | apply Kd.R_drewN | apply Kd.R_drew)); exact (Kd.R_mono (Kd.R_far (p := ⟨gb180, 1, none⟩) (Kd.R_far (p := ⟨gb180, 0, none⟩) (Kd.R_types HO_24.out BK180.out (by decide)) (fun _ hk => hk.2) (.int .i64 ((rd_T27 y176 x43_2).f0))) (fun _ hk => hk.2) (.int .i64 ((rd_T27 y176 x43_2).f1))) (fun _ h_ => h_.1))) (Kd.R_base ho0) hb); have n1_ := Aside0.mk (Kd.R_below (by (with_reducible repeat (first | apply Kd.R_alloc | apply Kd.R_drewN | apply Kd.R_drew)); exact (Kd.R_mono (Kd.R_far (p := ⟨gb180, 1, none⟩) (Kd.R_far (p := ⟨gb180, 0, none⟩) (Kd.R_mono HO_41.out (fun k_ hk => (⟨hk, hk.2⟩ : _ ∧ k_ ≠ gb180))) (fun _ hk => hk.2) (.int .i64 ((rd_T27 y176 x43_2).f0))) (fun _ hk => hk.2) (.int .i64 ((rd_T27 y176 x43_2).f1))) (fun _ h_ => h_.1))) hb); have n2_ := Aside0.mk (Kd.R_lower (Kd.R_newB (Kd.R_newB (Kd.R_new' ho0 (Kd.R_lt (by (with_reducible repeat (first | apply Kd.R_alloc | apply Kd.R_drewN | apply Kd.R_drew)); exact (Kd.R_mono (Kd.R_far (p := ⟨gb180, 1, none⟩) (Kd.R_far (p := ⟨gb180, 0, none⟩) (Kd.R_types HO_24.out BK180.out (by decide)) (fun _ hk => hk.2) (.int .i64 ((rd_T27 y176 x43_2).f0))) (fun _ hk => hk.2) (.int .i64 ((rd_T27 y176 x43_2).f1))) (fun _ h_ => h_.1))))) (g := gb166) (o := .cells #[.int .i64 a0_0, .int .i64 a0_1, .int .i64 a0_2] 23 (0, 0)) (by (with_reducible repeat (first | refine blk_drewN ?_ _ | refine blk_drew ?_ | refine blk_alloc ?_ _)); refine blk_far ?_ NB166_180.out _; (with_reducible repeat (first | refine blk_drewN ?_ _ | refine blk_drew ?_ | refine blk_alloc ?_ _)); refine blk_far ?_ NB166_180.out _; (with_reducible repeat (first | refine blk_drewN ?_ _ | refine blk_drew ?_ | refine blk_alloc ?_ _)); exact BK166.out)) (g := gb175) (o := .cells #[.int .i64 ((rd_T23 y170 x26_1).f0), .int .i64 ((rd_T23 y170 x26_1).f1), .int .i64 ((rd_T23 y170 x26_1).f2)] 23 (0, 0)) (by (with_reducible repeat (first | refine blk_drewN ?_ _ | refine blk_drew ?_ | refine blk_alloc ?_ _)); refine blk_far ?_ NB175_180.out _; (with_reducible repeat (first | refine blk_drewN ?_ _ | refine blk_drew ?_ | refine blk_alloc ?_ _)); refine blk_far ?_ NB175_180.out _; (with_reducible repeat (first | refine blk_drewN ?_ _ | refine blk_drew ?_ | refine blk_alloc ?_ _)); exact BK175.out)) (below_size (by repeat (first | (with_reducible first | exact HB.out | apply below_alloc | apply pw_below_drewN | apply below_drew1 | refine below_set ?_ GE166.out | refine below_set ?_ GE175.out | refine below_set ?_ GE180.out) | exact HB.out)))); have n3_ := Aside0.mk (blk_below (g := gb166) (o := .cells #[.int .i64 a0_0, .int .i64 a0_1, .int .i64 a0_2] 23 (0, 0)) (by (with_reducible repeat (first | refine blk_drewN ?_ _ | refine blk_drew ?_ | refine blk_alloc ?_ _)); refine blk_far ?_ NB166_180.out _; (with_reducible repeat (first | refine blk_drewN ?_ _ | refine blk_drew ?_ | refine blk_alloc ?_ _)); refine blk_far ?_ NB166_180.out _; (with_reducible repeat (first | refine blk_drewN ?_ _ | refine blk_drew ?_ | refine blk_alloc ?_ _)); exact BK166.out) hb); have n4_ := Aside0.mk (blk_below (g := gb175) (o := .cells #[.int .i64 ((rd_T23 y170 x26_1).f0), .int .i64 ((rd_T23 y170 x26_1).f1), .int .i64 ((rd_T23 y170 x26_1).f2)] 23 (0, 0)) (by (with_reducible repeat (first | refine blk_drewN ?_ _ | refine blk_drew ?_ | refine blk_alloc ?_ _)); refine blk_far ?_ NB175_180.out _; (with_reducible repeat (first | refine blk_drewN ?_ _ | refine blk_drew ?_ | refine blk_alloc ?_ _)); refine blk_far ?_ NB175_180.out _; (with_reducible repeat (first | refine blk_drewN ?_ _ | refine blk_drew ?_ | refine blk_alloc ?_ _)); exact BK175.out) hb); have n5_ := Aside0.mk (blk_below (g := gb180) (o := .cells #[.int .i64 ((rd_T27 y176 x43_2).f0), .int .i64 ((rd_T27 y176 x43_2).f1)] 27 (0, 0)) (by (with_reducible repeat (first | refine blk_drewN ?_ _ | refine blk_drew ?_ | refine blk_alloc ?_ _)); refine blk_put (cs := #[.int .i64 ((rd_T27 y176 x43_2).f0), .int .i64 0]) ?_ 1 _ rfl; (with_reducible repeat (first | refine blk_drewN ?_ _ | refine blk_drew ?_ | refine blk_alloc ?_ _)); refine blk_put (cs := #[.int .i64 0, .int .i64 0]) ?_ 0 _ rfl; (with_reducible repeat (first | refine blk_drewN ?_ _ | refine blk_drew ?_ | refine blk_alloc ?_ _)); exact BK180.out) hb); have n6_ := Aside0.mk (below_step (by repeat (first | (with_reducible first | exact HB.out | apply below_alloc | apply pw_below_drewN | apply below_drew1 | refine below_set ?_ GE166.out | refine below_set ?_ GE175.out | refine below_set ?_ GE180.out) | exact HB.out)) hb); clear HO_24; clear HO_41; clear BK166; clear BK175; clear BK180; clear HB; have HO_24 := n0_; have HO_41 := n1_; have HO183 := n2_; have BK166 := n3_; have BK175 := n4_; have BK180 := n5_; have HB := n6_; clear n0_ n1_ n2_ n3_ n4_ n5_ n6_; (try clear hb); (try clear hb2); (try clear hk); (try clear hi); (try clear ho0); have hcz37_0 : w36.cell? ⟨gb175, 0, none⟩ = some (.int .i64 ((rd_T23 y170 x26_1).f0)) := (blk_cell BK175.out 0).trans rfl; have hcz37_1 : w36.cell? ⟨gb175, 1, none⟩ = some (.int .i64 ((rd_T23 y170 x26_1).f1)) := (blk_cell BK175.out 1).trans rfl; have hcz37_2 : w36.cell? ⟨gb175, 2, none⟩ = some (.int .i64 ((rd_T23 y170 x26_1).f2)) := (blk_cell BK175.out 2).trans rfl; have hfz37_0 := blk_frozen BK175.out 0; have hfz37_1 := blk_frozen BK175.out 1; have hfz37_2 := blk_frozen BK175.out 2; have hcz38_0 : w36.cell? ⟨gb180, 0, none⟩ = some (.int .i64 ((rd_T27 y176 x43_2).f0)) := (blk_cell BK180.out 0).trans rfl; have hcz38_1 : w36.cell? ⟨gb180, 1, none⟩ = some (.int .i64 ((rd_T27 y176 x43_2).f1)) := (blk_cell BK180.out 1).trans rfl; have hfz38_0 := blk_frozen BK180.out 0; have hfz38_1 := blk_frozen BK180.out 1) | ((with_reducible refine gate_callee (f := 14) rfl ?_); refine goesL_ (some 62) rfl rfl Try.func14 (by kernel_rfl) rfl #[.agg #[.int .i64 ((rd_T23 y170 x26_1).f0), .int .i64 ((rd_T23 y170 x26_1).f1), .int .i64 ((rd_T23 y170 x26_1).f2)], .int .i64 ((rd_T27 y176 x43_2).f0), .int .i64 ((rd_T27 y176 x43_2).f1)] rfl (by (try simp only [List.map_toArray, List.map_cons, List.map_nil]); first | done | rfl | (simp only [List.length_drop, List.length_take]; rfl)) ?_; (with_reducible refine (chattelref10_Series.calls k2 ((rd_T23 y170 x26_1).f0) ((rd_T23 y170 x26_1).f1) ((rd_T23 y170 x26_1).f2) ((rd_T27 y176 x43_2).f0) ((rd_T27 y176 x43_2).f1) t185 t188 _ A26.out).mono ?_); rintro e w39 ⟨v186, rfl, ho0, hb⟩; refine ⟨_, rfl, ?_⟩; have n0_ := Aside0.mk (Kd.R_elder' (by (with_reducible repeat (first | apply Kd.R_alloc | apply Kd.R_drewN | apply Kd.R_drew)); exact HO_24.out) (Kd.R_base ho0) hb); have n1_ := Aside0.mk (rb HO_41.out hb); have n2_ := Aside0.mk (Kd.R_elder' (by (with_reducible repeat (first | apply Kd.R_alloc | apply Kd.R_drewN | apply Kd.R_drew)); exact HO183.out) (Kd.R_base ho0) hb); have n3_ := Aside0.mk (Kd.R_lower (Kd.R_newB (Kd.R_newB (Kd.R_new' (Kd.R_new' ho0 (Kd.R_lt (by (with_reducible repeat (first | apply Kd.R_alloc | apply Kd.R_drewN | apply Kd.R_drew)); exact HO_24.out))) (Kd.R_lt (by (with_reducible repeat (first | apply Kd.R_alloc | apply Kd.R_drewN | apply Kd.R_drew)); exact HO183.out))) (g := gb166) (o := .cells #[.int .i64 a0_0, .int .i64 a0_1, .int .i64 a0_2] 23 (0, 0)) (by (with_reducible repeat (first | refine blk_drewN ?_ _ | refine blk_drew ?_ | refine blk_alloc ?_ _)); exact BK166.out)) (g := gb175) (o := .cells #[.int .i64 ((rd_T23 y170 x26_1).f0), .int .i64 ((rd_T23 y170 x26_1).f1), .int .i64 ((rd_T23 y170 x26_1).f2)] 23 (0, 0)) (by (with_reducible repeat (first | refine blk_drewN ?_ _ | refine blk_drew ?_ | refine blk_alloc ?_ _)); exact BK175.out)) (bz HB.out)); have n4_ := Aside0.mk (bb BK166.out hb); have n5_ := Aside0.mk (bb BK175.out hb); have n6_ := Aside0.mk (bb BK180.out hb); have n7_ := Aside0.mk (bs HB.out hb); clear HO_24; clear HO_41; clear HO183; clear BK166; clear BK175; clear BK180; clear HB; have HO_24 := n0_; have HO_41 := n1_; have HO183 := n2_; have HO187 := n3_; have BK166 := n4_; have BK175 := n5_; have BK180 := n6_; have HB := n7_; clear n0_ n1_ n2_ n3_ n4_ n5_ n6_ n7_; (try clear hb); (try clear hb2); (try clear hk); (try clear hi); (try clear ho0); obtain ⟨Ao40, co40, eo40⟩ := Kd.R_slice HO183.out; subst eo40; obtain ⟨Ao41, co41, eo41⟩ := Kd.R_slice HO187.out; subst eo41) | (go_at_call 15; (with_reducible refine (api_Date.calls k2 _ _ t181 _ _ t185 true _ ?side1 ?side2 ?side3 ?side4 A28.out).mono ?_); (case side1 => exact cr HO183.out); (case side2 => exact (Kd.R_reads' HO183.out).2.1); (case side3 => exact cr HO187.out); (case side4 => exact (Kd.R_reads' HO187.out).2.1); rintro e w' ⟨rfl, ⟨nd, rfl⟩⟩))
                go_roundg k2
                case measure => have := HK1.out; have := HK2.out; omega
                case rel => exact ⟨(wrap64 (x43_2 + 1)), (by first | rfl | (simp; done) | (simp [*]; done)), H', ⟨by have := HK1.out; have := HK2.out; omega⟩, ⟨by (with_reducible repeat (first | apply Kd.R_alloc | apply Kd.R_drewN | apply Kd.R_drew)); exact Kd.R_mono HO_24.out (fun _ hk => ⟨hk.1.1.1, hk.1.1.2⟩)⟩, ⟨by (with_reducible repeat (first | apply Kd.R_alloc | apply Kd.R_drewN | apply Kd.R_drew)); exact Kd.R_mono HO_41.out (fun _ hk => trivial)⟩, ⟨by (with_reducible repeat (first | refine blk_drewN ?_ _ | refine blk_drew ?_ | refine blk_alloc ?_ _)); exact BK166.out⟩, ⟨by (with_reducible repeat (first | refine blk_drewN ?_ _ | refine blk_drew ?_ | refine blk_alloc ?_ _)); exact BK175.out⟩, ⟨by repeat (first | (with_reducible first | exact HB.out | apply below_alloc | apply pw_below_drewN | apply below_drew1 | refine below_set ?_ GE166.out | refine below_set ?_ GE175.out | refine below_set ?_ GE180.out) | exact HB.out)⟩⟩
              · replace c29 := Bool.eq_false_iff.mpr c29
                subst c29
                have H1 : (some false) = some r := by rw [if_neg (show ¬ (false = true) by decide)] at H; exact H
                clear H
                have H := H1
                clear H1
                exact absurd (Option.some.inj H) (by rw [ht_]; decide)
            · rw [if_neg c22] at H
              have c22b0 : decide (x43_2 < (y176.length : Int)) = false := decide_eq_false c22
              clear c22
              have H' := Aside0.mk H
              clear H
              go_wp2
              go_roundg k2
              case measure => have := HK1.out; have := HK2.out; omega
              case rel => exact ⟨(wrap64 (x26_1 + 1)), (by first | rfl | (simp; done) | (simp [*]; done)), H', ⟨by have := HK1.out; have := HK2.out; omega⟩, ⟨by (with_reducible repeat (first | apply Kd.R_alloc | apply Kd.R_drewN | apply Kd.R_drew)); exact Kd.R_mono HO_24.out (fun _ hk => hk.1)⟩, ⟨by (with_reducible repeat (first | refine blk_drewN ?_ _ | refine blk_drew ?_ | refine blk_alloc ?_ _)); exact BK166.out⟩, ⟨by repeat (first | (with_reducible first | exact HB.out | apply below_alloc | apply pw_below_drewN | apply below_drew1 | refine below_set ?_ GE166.out | refine below_set ?_ GE175.out) | exact HB.out)⟩⟩
      · rw [if_neg c11] at H
        have c11b0 : decide (x26_1 < (y170.length : Int)) = false := decide_eq_false c11
        clear c11
        replace H := Option.bind_eq_some_iff.mp H
        obtain ⟨t173, A420, H⟩ := H
        replace H : (some t173) = some r := H
        have A42 := Aside0.mk A420
        clear A420
        obtain rfl := Option.some.inj H
        go_wp2_with (first | ((with_reducible refine gate_callee (f := 16) rfl ?_); refine goesL_ (some 76) rfl rfl Try.func16 (by kernel_rfl) rfl #[] rfl (by (try simp only [List.map_toArray, List.map_cons, List.map_nil]); first | done | rfl | (simp only [List.length_drop, List.length_take]; rfl)) ?_; (with_reducible refine (chattellaw10_wakes.calls k1  t173 _ A42.out).mono ?_); rintro e w43 ⟨rfl, hb⟩; refine ⟨_, rfl, ?_⟩; replace HO_24 := Aside0.mk (rb HO_24.out hb); replace BK166 := Aside0.mk (bb BK166.out hb); replace HB := Aside0.mk (bs HB.out hb); (try clear hb); (try clear hb2); (try clear hk); (try clear hi)))
        go_ret
        exact ⟨by first | rfl | (simp [errW_none, errW_some] <;> rfl) | (simp [*, errW_none, errW_some] <;> rfl), by repeat (first | (with_reducible first | exact HB.out | apply below_alloc | apply pw_below_drewN | apply below_drew1 | refine below_set ?_ GE166.out) | exact HB.out)⟩

/-- THE ONE PURE STATEMENT of chattellaw10_MonthSeries: yours. -/
def chattellaw10_MonthSeries.Pure : Prop := ∀ (a0_0 : Int) (a0_1 : Int) (a0_2 : Int) (a1 : Int) (a2 : Int), (Lit.int .i64 a0_0).wf = true → (Lit.int .i64 a0_1).wf = true → (Lit.int .i64 a0_2).wf = true → (Lit.int .i64 a1).wf = true → (Lit.int .i64 a2).wf = true → ∃ k, chattellaw10_MonthSeries.f k a0_0 a0_1 a0_2 a1 a2 = some true
theorem chattellaw10_MonthSeries.walk (P : chattellaw10_MonthSeries.Pure) (a0_0 : Int) (a0_1 : Int) (a0_2 : Int) (a1 : Int) (a2 : Int) (w : World) (w0_0 : (Lit.int .i64 a0_0).wf = true) (w0_1 : (Lit.int .i64 a0_1).wf = true) (w0_2 : (Lit.int .i64 a0_2).wf = true) (w1 : (Lit.int .i64 a1).wf = true) (w2 : (Lit.int .i64 a2).wf = true) :
    Calls Try.prog 3 #[.agg #[.int .i64 a0_0, .int .i64 a0_1, .int .i64 a0_2], .int .i64 a1, .int .i64 a2] w fun e w' => e = .returned (.bool true) ∧ Below w.heap.size w w' := by
  obtain ⟨k, h⟩ := P a0_0 a0_1 a0_2 a1 a2 w0_0 w0_1 w0_2 w1 w2
  refine (chattellaw10_MonthSeries.calls k a0_0 a0_1 a0_2 a1 a2 true w h rfl).mono ?_
  rintro e w' ⟨rfl, hd⟩
  exact ⟨rfl, hd⟩

end Go.Proofs.Ytfikfmediheioaa.F
