-- Written by this session's printer (wip/tools), out of the translation's own print. Lean checks it.
import Derived.Test.YtfikfmediheioaaF0
import Derived.Test.YtfikfmediheioaaF1
import Derived.Test.YtfikfmediheioaaF11
import Derived.Test.YtfikfmediheioaaF19
import Derived.Test.YtfikfmediheioaaF30
import Derived.Test.YtfikfmediheioaaF33
import Derived.Test.YtfikfmediheioaaF36
import Derived.Test.YtfikfmediheioaaF38
namespace Go.Proofs.Ytfikfmediheioaa.F
open Go.RowKit Go.Proofs.YtfikfmediheioaaW.PrintWords Go.Proofs.YtfikfmediheioaaW.PrintLast Go.Proofs.YtfikfmediheioaaW.PrintMore Go.Proofs.YtfikfmediheioaaX
attribute [local go_sem] max2_int cell_some
attribute [local go_sem] max2_int min2_int max_two min_two max_three min_three max_four min_four   -- for this text's walks alone
set_option linter.unusedVariables false
set_option linter.unusedSimpArgs false

attribute [local go_sem high] eqA23
/-! ### chattellaw09_DateBack: function 7 -/
mutual
def chattellaw09_DateBack.l0 : Nat → List Int → Int → Int → Option (Bool)
  | 0, _, _, _ => none
  | k + 1, x21, x22, x23 => if x23 < x22 then (if 0 ≤ x23 then (if x23 < (x21.length : Int) then ((date_Of.f k (rd x21 x23)).bind fun bt364 => (if (rd x21 x23) < 1 then (chattellaw09_DateBack.j1 k (rd x21 x23) bt364.2.2.2 x21 x22 x23 true bt364.1 bt364.2.1 bt364.2.2.1) else (chattellaw09_DateBack.j1 k (rd x21 x23) bt364.2.2.2 x21 x22 x23 (decide ((rd x21 x23) > 3652059)) bt364.1 bt364.2.1 bt364.2.2.1))) else (none)) else (none)) else ((chattellaw09_wakes.f k).bind fun t362 => (some t362))
def chattellaw09_DateBack.j1 : Nat → Int → Int → List Int → Int → Int → Bool → Int → Int → Int → Option (Bool)
  | 0, _, _, _, _, _, _, _, _, _ => none
  | k + 1, x4, x6, x21, x22, x23, x37, x369000, x369001, x369002 => if x37 = true then (if x6 = 11 then (if (!(x369000 == 0) || (!(x369001 == 0) || (!(x369002 == 0)))) = true then (some false) else (chattellaw09_DateBack.l0 k x21 x22 (wrap64 (x23 + 1)))) else (some false)) else ((date_Number.f k x369000 x369001 x369002).bind fun bt369 => (if x6 = 0 then (if bt369.2 = 0 then (if bt369.1 = x4 then ((chattelref09_Right.f k x369000 x369001 x369002).bind fun t371 => (if t371 = true then ((chattelref09_Number.f k x369000 x369001 x369002).bind fun t372 => (chattellaw09_DateBack.j2 k x4 x21 x22 x23 (t372 != x4) x369000 x369001 x369002)) else (chattellaw09_DateBack.j2 k x4 x21 x22 x23 true x369000 x369001 x369002))) else (chattellaw09_DateBack.j2 k x4 x21 x22 x23 true x369000 x369001 x369002)) else (chattellaw09_DateBack.j2 k x4 x21 x22 x23 true x369000 x369001 x369002)) else (chattellaw09_DateBack.j2 k x4 x21 x22 x23 true x369000 x369001 x369002)))
def chattellaw09_DateBack.j2 : Nat → Int → List Int → Int → Int → Bool → Int → Int → Int → Option (Bool)
  | 0, _, _, _, _, _, _, _, _ => none
  | k + 1, x4, x21, x22, x23, x71, x369000, x369001, x369002 => if x71 = true then (some false) else ((date_Of.f k (wrap64 (x4 + 1))).bind fun bt373 => ((chattelref09_Next.f k x369000 x369001 x369002).bind fun bt378 => (if (bt378.2.2.2 != (bt373.2.2.2 == 0)) = true then (some false) else (if bt378.2.2.2 = true then (if (!(bt373.1 == bt378.1) || (!(bt373.2.1 == bt378.2.1) || (!(bt373.2.2.1 == bt378.2.2.1)))) = true then (some false) else (chattellaw09_DateBack.l0 k x21 x22 (wrap64 (x23 + 1)))) else (chattellaw09_DateBack.l0 k x21 x22 (wrap64 (x23 + 1)))))))
end
def chattellaw09_DateBack.f (k : Nat) (a0 : Int) : Option (Bool) := (some (([a0, (mx 0 a0) % 3652061, 3652059 - ((mx 0 a0) % 400)] : List Int) : List Int)).bind fun y359 => (chattellaw09_DateBack.l0 k y359 (y359.length : Int) 0)
theorem chattellaw09_DateBack.mono_l : ∀ k, (∀ y0 y1 y2, LeO (chattellaw09_DateBack.l0 k y0 y1 y2) (chattellaw09_DateBack.l0 (k + 1) y0 y1 y2)) ∧ (∀ y0 y1 y2 y3 y4 y5 y6 y7 y8, LeO (chattellaw09_DateBack.j1 k y0 y1 y2 y3 y4 y5 y6 y7 y8) (chattellaw09_DateBack.j1 (k + 1) y0 y1 y2 y3 y4 y5 y6 y7 y8)) ∧ (∀ y0 y1 y2 y3 y4 y5 y6 y7, LeO (chattellaw09_DateBack.j2 k y0 y1 y2 y3 y4 y5 y6 y7) (chattellaw09_DateBack.j2 (k + 1) y0 y1 y2 y3 y4 y5 y6 y7))
  | 0 => ⟨fun _ _ _ r h => by simp [chattellaw09_DateBack.l0] at h, fun _ _ _ _ _ _ _ _ _ r h => by simp [chattellaw09_DateBack.j1] at h, fun _ _ _ _ _ _ _ _ r h => by simp [chattellaw09_DateBack.j2] at h⟩
  | k + 1 => by
    obtain ⟨ih0, ih1, ih2⟩ := chattellaw09_DateBack.mono_l k
    refine ⟨?_, ?_, ?_⟩
    · intro y0 y1 y2
      unfold chattellaw09_DateBack.l0
      repeat' first
      | (with_reducible exact ih0 _ _ _)
      | (with_reducible exact ih1 _ _ _ _ _ _ _ _ _)
      | (with_reducible exact ih2 _ _ _ _ _ _ _ _)
      | (with_reducible exact chattellaw09_wakes.mono _)
      | (with_reducible exact chattelref09_Next.mono _ _ _ _)
      | (with_reducible exact chattelref09_Number.mono _ _ _ _)
      | (with_reducible exact chattelref09_Right.mono _ _ _ _)
      | (with_reducible exact date_Number.mono _ _ _ _)
      | (with_reducible exact date_Of.mono _ _)
      | (with_reducible exact LeO.refl _)
      | (with_reducible exact LeO.none _)
      | (with_reducible refine LeO.ite ?_ ?_)
      | (with_reducible refine LeO.bind ?_ (fun _ => ?_))
      | exact ih0 _ _ _
      | exact ih1 _ _ _ _ _ _ _ _ _
      | exact ih2 _ _ _ _ _ _ _ _
      | exact chattellaw09_wakes.mono _
      | exact chattelref09_Next.mono _ _ _ _
      | exact chattelref09_Number.mono _ _ _ _
      | exact chattelref09_Right.mono _ _ _ _
      | exact date_Number.mono _ _ _ _
      | exact date_Of.mono _ _
      | exact LeO.none _
      | refine LeO.ite ?_ ?_
      | refine LeO.bind ?_ (fun _ => ?_)
    · intro y0 y1 y2 y3 y4 y5 y6 y7 y8
      unfold chattellaw09_DateBack.j1
      repeat' first
      | (with_reducible exact ih0 _ _ _)
      | (with_reducible exact ih1 _ _ _ _ _ _ _ _ _)
      | (with_reducible exact ih2 _ _ _ _ _ _ _ _)
      | (with_reducible exact chattellaw09_wakes.mono _)
      | (with_reducible exact chattelref09_Next.mono _ _ _ _)
      | (with_reducible exact chattelref09_Number.mono _ _ _ _)
      | (with_reducible exact chattelref09_Right.mono _ _ _ _)
      | (with_reducible exact date_Number.mono _ _ _ _)
      | (with_reducible exact date_Of.mono _ _)
      | (with_reducible exact LeO.refl _)
      | (with_reducible exact LeO.none _)
      | (with_reducible refine LeO.ite ?_ ?_)
      | (with_reducible refine LeO.bind ?_ (fun _ => ?_))
      | exact ih0 _ _ _
      | exact ih1 _ _ _ _ _ _ _ _ _
      | exact ih2 _ _ _ _ _ _ _ _
      | exact chattellaw09_wakes.mono _
      | exact chattelref09_Next.mono _ _ _ _
      | exact chattelref09_Number.mono _ _ _ _
      | exact chattelref09_Right.mono _ _ _ _
      | exact date_Number.mono _ _ _ _
      | exact date_Of.mono _ _
      | exact LeO.none _
      | refine LeO.ite ?_ ?_
      | refine LeO.bind ?_ (fun _ => ?_)
    · intro y0 y1 y2 y3 y4 y5 y6 y7
      unfold chattellaw09_DateBack.j2
      repeat' first
      | (with_reducible exact ih0 _ _ _)
      | (with_reducible exact ih1 _ _ _ _ _ _ _ _ _)
      | (with_reducible exact ih2 _ _ _ _ _ _ _ _)
      | (with_reducible exact chattellaw09_wakes.mono _)
      | (with_reducible exact chattelref09_Next.mono _ _ _ _)
      | (with_reducible exact chattelref09_Number.mono _ _ _ _)
      | (with_reducible exact chattelref09_Right.mono _ _ _ _)
      | (with_reducible exact date_Number.mono _ _ _ _)
      | (with_reducible exact date_Of.mono _ _)
      | (with_reducible exact LeO.refl _)
      | (with_reducible exact LeO.none _)
      | (with_reducible refine LeO.ite ?_ ?_)
      | (with_reducible refine LeO.bind ?_ (fun _ => ?_))
      | exact ih0 _ _ _
      | exact ih1 _ _ _ _ _ _ _ _ _
      | exact ih2 _ _ _ _ _ _ _ _
      | exact chattellaw09_wakes.mono _
      | exact chattelref09_Next.mono _ _ _ _
      | exact chattelref09_Number.mono _ _ _ _
      | exact chattelref09_Right.mono _ _ _ _
      | exact date_Number.mono _ _ _ _
      | exact date_Of.mono _ _
      | exact LeO.none _
      | refine LeO.ite ?_ ?_
      | refine LeO.bind ?_ (fun _ => ?_)
theorem chattellaw09_DateBack.mono : ∀ a0 k, LeO (chattellaw09_DateBack.f k a0) (chattellaw09_DateBack.f (k + 1) a0) := by
  intro a0 k
  obtain ⟨ih0, ih1, ih2⟩ := chattellaw09_DateBack.mono_l k
  unfold chattellaw09_DateBack.f
  repeat' first
      | (with_reducible exact ih0 _ _ _)
      | (with_reducible exact ih1 _ _ _ _ _ _ _ _ _)
      | (with_reducible exact ih2 _ _ _ _ _ _ _ _)
      | (with_reducible exact chattellaw09_wakes.mono _)
      | (with_reducible exact chattelref09_Next.mono _ _ _ _)
      | (with_reducible exact chattelref09_Number.mono _ _ _ _)
      | (with_reducible exact chattelref09_Right.mono _ _ _ _)
      | (with_reducible exact date_Number.mono _ _ _ _)
      | (with_reducible exact date_Of.mono _ _)
      | (with_reducible exact LeO.refl _)
      | (with_reducible exact LeO.none _)
      | (with_reducible refine LeO.ite ?_ ?_)
      | (with_reducible refine LeO.bind ?_ (fun _ => ?_))
      | exact ih0 _ _ _
      | exact ih1 _ _ _ _ _ _ _ _ _
      | exact ih2 _ _ _ _ _ _ _ _
      | exact chattellaw09_wakes.mono _
      | exact chattelref09_Next.mono _ _ _ _
      | exact chattelref09_Number.mono _ _ _ _
      | exact chattelref09_Right.mono _ _ _ _
      | exact date_Number.mono _ _ _ _
      | exact date_Of.mono _ _
      | exact LeO.none _
      | refine LeO.ite ?_ ?_
      | refine LeO.bind ?_ (fun _ => ?_)
set_option maxHeartbeats 8000000 in
set_option maxRecDepth 100000 in
theorem chattellaw09_DateBack.calls (k : Nat) (a0 : Int) (r : Bool) (w : World) (h : chattellaw09_DateBack.f k a0 = some r) (ht_ : r = true) :
    Calls Try.prog 7 #[.int .i64 a0] w fun e w' => e = .returned (.bool r) ∧ Below w.heap.size w w' := by
  have hu23 := Try.underlying23
  have HB := Aside0.mk (Below.refl w.heap.size w)
  have H : ((some (([a0, (mx 0 a0) % 3652061, 3652059 - ((mx 0 a0) % 400)] : List Int) : List Int)).bind fun y359 => (chattellaw09_DateBack.l0 k y359 (y359.length : Int) 0)) = some r := h
  clear h
  obtain ⟨ji2, hji2⟩ : ∃ j_ : Int, (mx 0 a0) = j_ := ⟨_, rfl⟩
  replace H : ((some (([a0, (ji2) % 3652061, 3652059 - ((ji2) % 400)] : List Int) : List Int)).bind fun y359 => (chattellaw09_DateBack.l0 k y359 (y359.length : Int) 0)) = some r := by first | (rw [hji2] at H; exact H) | (simp only [hji2] at H ⊢; exact H)
  (try (have hji2l : 0 ≤ ji2 := by (rw [← hji2]; unfold mx; (repeat' split) <;> omega)))
  (try (have hji2m : 0 ≤ ji2 := by omega))
  have hji2_ : (if 0 < a0 then a0 else 0) = ji2 := hji2
  obtain ⟨y359, hy359⟩ : ∃ y_ : List Int, y_ = (([a0, (ji2) % 3652061, 3652059 - ((ji2) % 400)] : List Int)) := ⟨_, rfl⟩
  replace H : (chattellaw09_DateBack.l0 k y359 (y359.length : Int) 0) = some r := by first | (rw [hy359]; with_reducible exact H) | (have H2_ := (Option.bind_some _ _).symm.trans H; rw [hy359]; with_reducible exact H2_) | (have H2_ := (Option.bind_some _ _).symm.trans H; with_reducible exact H2_) | with_reducible exact H | (rw [hy359]; exact H) | exact H
  have Ny359 := Aside0.mk hy359
  clear hy359
  have H' := Aside0.mk H
  clear H
  go_enter Try.func7, Try.ntmps7
  go_wp2_with (first | ((with_reducible refine gate_dst (N := 21) rfl ?_); refine Kd.R_lit (Kd.int .i64) _ 3 ?hg (N := 21) ?hd (xs := ([a0, (ji2) % 3652061, 3652059 - ((ji2) % 400)] : List Int)) (inner := [.int .i64 a0, .int .i64 ((ji2) % 3652061), .int .i64 (3652059 - ((ji2) % 400))]) (ok := fun _ => True) (okp := fun _ => True) ?hr ?hp (fun _ hk => hk) trivial (Below.refl _ _) (Nat.le_refl _) (by simp) ?_; (case hd => rfl); (case hg => rfl); (case hr => first | (go_simp; done) | (go_simp; rfl)); (case hp => exact (Reps.one (show Kd.M (Kd.int .i64) _ _ _ a0 [.int .i64 a0] from rfl) (Reps.one (show Kd.M (Kd.int .i64) _ _ _ ((ji2) % 3652061) [.int .i64 ((ji2) % 3652061)] from rfl) (Reps.one (show Kd.M (Kd.int .i64) _ _ _ (3652059 - ((ji2) % 400)) [.int .i64 (3652059 - ((ji2) % 400))] from rfl) (Reps.none _ _))))); intro v360 w4 ho5 hb hg_ hnew_; clear hg_ hnew_; (first | rw [← Ny359.out] at ho5 | (simp only [Int.reduceToNat] at ho5; rw [← Ny359.out] at ho5)); have HO361 := Aside0.mk (Kd.R_lower ho5 (below_size (by repeat (first | (with_reducible first | exact HB.out | apply below_alloc | apply pw_below_drewN | apply below_drew1) | exact HB.out)))); replace HB := Aside0.mk (below_step (by repeat (first | (with_reducible first | exact HB.out | apply below_alloc | apply pw_below_drewN | apply below_drew1) | exact HB.out)) hb); clear hb ho5; obtain ⟨Ao6, co6, eo6⟩ := Kd.R_slice HO361.out; subst eo6))
  go_loopg [23] k (fun kq v23 w' => ∃ (x23_1 : Int), v23 = .int .i64 x23_1 ∧ Aside0 (chattellaw09_DateBack.l0 kq y359 (y359.length : Int) x23_1 = some r) ∧ Aside0 (kq ≤ k) ∧ Aside0 (Kd.R (Kd.int .i64) 3 w' w.heap.size (fun _ => True) (.slice Ao6 y359.length co6) y359) ∧ Aside0 (Below w.heap.size w w'))
  case atStart => exact ⟨(0), (by first | rfl | (simp; done) | (simp [*]; done)), H', ⟨Nat.le_refl _⟩, ⟨by (with_reducible repeat (first | apply Kd.R_alloc | apply Kd.R_drewN | apply Kd.R_drew)); exact HO361.out⟩, ⟨by repeat (first | (with_reducible first | exact HB.out | apply below_alloc | apply pw_below_drewN | apply below_drew1) | exact HB.out)⟩⟩
  case round =>
    clear H'
    try clear p2
    try clear c3
    try clear c3b0
    obtain ⟨x23_1, rfl, HA, HK1, HO_21, HB⟩ := hrel
    cases gk with
    | zero => exact absurd HA.out (by simp [chattellaw09_DateBack.l0])
    | succ k1 =>
      have H := HA.out
      clear HA
      simp only [chattellaw09_DateBack.l0] at H
      by_cases c7 : x23_1 < (y359.length : Int)
      · rw [if_pos c7] at H
        have c7b0 : decide (x23_1 < (y359.length : Int)) = true := decide_eq_true c7
        clear c7
        by_cases c8 : 0 ≤ x23_1
        rotate_left
        · rw [if_neg c8] at H
          exact absurd H (by simp)
        rw [if_pos c8] at H
        have c8b0 : decide (0 ≤ x23_1) = true := decide_eq_true c8
        clear c8
        by_cases c9 : x23_1 < (y359.length : Int)
        rotate_left
        · rw [if_neg c9] at H
          exact absurd H (by simp)
        rw [if_pos c9] at H
        have c9b0 : decide (x23_1 < (y359.length : Int)) = true := decide_eq_true c9
        clear c9
        replace H := Option.bind_eq_some_iff.mp H
        obtain ⟨⟨t364, t365, t366, t367⟩, A100, H⟩ := H
        replace H : (if (rd y359 x23_1) < 1 then (chattellaw09_DateBack.j1 k1 (rd y359 x23_1) t367 y359 (y359.length : Int) x23_1 true t364 t365 t366) else (chattellaw09_DateBack.j1 k1 (rd y359 x23_1) t367 y359 (y359.length : Int) x23_1 (decide ((rd y359 x23_1) > 3652059)) t364 t365 t366)) = some r := H
        have A10 := Aside0.mk A100
        clear A100
        have HC11 := Aside0.mk H
        clear H
        have p363 : 0 ≤ (x23_1 : Int) := of_decide_eq_true (by first | (with_reducible assumption) | assumption)
        have q363 : x23_1 < (y359.length : Int) := of_decide_eq_true (by first | (with_reducible assumption) | assumption)
        obtain ⟨ad363, e363, hx363_0⟩ := Kd.at_int (Kd.R_reads' HO_21.out).2.2 x23_1 p363 q363
        cases e363
        replace p363 := eq_true p363
        replace q363 := eq_true q363
        go_upto_region 5 with (first | ((with_reducible refine gate_callee (f := 33) rfl ?_); refine goesL_ (some 29) rfl rfl Try.func33 (by kernel_rfl) rfl #[.int .i64 (rd y359 x23_1)] rfl (by (try simp only [List.map_toArray, List.map_cons, List.map_nil]); first | done | rfl | (simp only [List.length_drop, List.length_take]; rfl)) ?_; (with_reducible refine (date_Of.calls k1 (rd y359 x23_1) t364 t365 t366 t367 _ A10.out).mono ?_); rintro e w12 ⟨rfl, hb⟩; refine ⟨_, rfl, ?_⟩; replace HO_21 := Aside0.mk (rb HO_21.out hb); replace HB := Aside0.mk (bs HB.out hb); (try clear hb); (try clear hb2); (try clear hk); (try clear hi)) | ((with_reducible refine gate_dst (N := 5) rfl ?_); refine box_event ?hg (N := 5) ?hd (cs := #[.int .i64 0, .int .i64 0, .int .i64 0]) (t := 23) ?hr ?_; (case hd => rfl); (case hg => rfl); (case hr => first | (go_simp; done) | (go_simp; rfl)); intro gb368 hg w13 hbox hb; have n0_ := Aside0.mk (rb HO_21.out hb); have n1_ := Aside0.mk (bs HB.out hb); have n2_ := Aside0.mk (hbox); have n3_ := Aside0.mk ((by rw [hg]; exact (bz HB.out) : w.heap.size ≤ gb368)); have n4_ := Aside0.mk ((by rw [hg]; exact (bz HB.out) : w.heap.size ≤ gb368)); clear HO_21; clear HB; have HO_21 := n0_; have HB := n1_; have BK368 := n2_; have GW368 := n3_; have GE368 := n4_; clear n0_ n1_ n2_ n3_ n4_; clear hb hbox hg; have hcz14_0 : w13.cell? ⟨gb368, 0, none⟩ = some (.int .i64 0) := (blk_cell BK368.out 0).trans rfl; have hcz14_1 : w13.cell? ⟨gb368, 1, none⟩ = some (.int .i64 0) := (blk_cell BK368.out 1).trans rfl; have hcz14_2 : w13.cell? ⟨gb368, 2, none⟩ = some (.int .i64 0) := (blk_cell BK368.out 2).trans rfl; have hfz14_0 := blk_frozen BK368.out 0; have hfz14_1 := blk_frozen BK368.out 1; have hfz14_2 := blk_frozen BK368.out 2))
        (try simp only [Act.put, List.setIfInBounds_toArray, List.set_cons_zero, List.set_cons_succ])
        go_cut [37] (fun v37 wc => ∃ (kq : Nat) (x37_10 : Bool), v37 = .bool x37_10 ∧ Aside0 (chattellaw09_DateBack.j1 kq (rd y359 x23_1) t367 y359 (y359.length : Int) x23_1 x37_10 t364 t365 t366 = some r) ∧ Aside0 (kq ≤ k1) ∧ Aside0 (Kd.R (Kd.int .i64) 3 wc w.heap.size (fun _ => True) (.slice (some ad363) y359.length co6) y359) ∧ Aside0 (wc.heap[gb368]? = some (.cells #[.int .i64 t364, .int .i64 t365, .int .i64 t366] 23 (0, 0))) ∧ Aside0 (Below w.heap.size w wc))
        case first =>
          have H := HC11.out
          clear HC11
          by_cases c15 : (rd y359 x23_1) < 1
          · rw [if_pos c15] at H
            have c15b0 : decide ((rd y359 x23_1) < 1) = true := decide_eq_true c15
            clear c15
            (first | rw [c15b0] | (simp only [i64_w, i32_w]; rw [c15b0]) | skip)
            have H' := Aside0.mk H
            clear H
            go_wp2
            (refine Met.intro ?_; go_step; (repeat apply Exists.intro); refine ⟨?rel, ?frame⟩)
            case frame => first | rfl | (rw [c15b0]; first | done | rfl) | (rw [c9b0]; first | done | rfl) | (rw [c8b0]; first | done | rfl) | (rw [c7b0]; first | done | rfl) | (simp only [c7b0, c8b0, c9b0, c15b0]; first | done | rfl)
            case rel => exact ⟨_, (true), (by first | rfl | (simp; done) | (simp [*]; done)), H', ⟨by have := HK1.out; first | omega | exact Nat.le_refl _⟩, ⟨by (with_reducible repeat (first | apply Kd.R_alloc | apply Kd.R_drewN | apply Kd.R_drew)); exact Kd.R_mono (Kd.R_far (p := ⟨gb368, 2, none⟩) (Kd.R_far (p := ⟨gb368, 1, none⟩) (Kd.R_far (p := ⟨gb368, 0, none⟩) (Kd.R_types HO_21.out BK368.out (by decide)) (fun _ hk => hk.2) (.int .i64 t364)) (fun _ hk => hk.2) (.int .i64 t365)) (fun _ hk => hk.2) (.int .i64 t366)) (fun _ hk => trivial)⟩, ⟨by (with_reducible repeat (first | refine blk_drewN ?_ _ | refine blk_drew ?_ | refine blk_alloc ?_ _)); refine blk_put (cs := #[.int .i64 t364, .int .i64 t365, .int .i64 0]) ?_ 2 _ rfl; (with_reducible repeat (first | refine blk_drewN ?_ _ | refine blk_drew ?_ | refine blk_alloc ?_ _)); refine blk_put (cs := #[.int .i64 t364, .int .i64 0, .int .i64 0]) ?_ 1 _ rfl; (with_reducible repeat (first | refine blk_drewN ?_ _ | refine blk_drew ?_ | refine blk_alloc ?_ _)); refine blk_put (cs := #[.int .i64 0, .int .i64 0, .int .i64 0]) ?_ 0 _ rfl; (with_reducible repeat (first | refine blk_drewN ?_ _ | refine blk_drew ?_ | refine blk_alloc ?_ _)); exact BK368.out⟩, ⟨by repeat (first | (with_reducible first | exact HB.out | apply below_alloc | apply pw_below_drewN | apply below_drew1 | refine below_set ?_ GE368.out) | exact HB.out)⟩⟩
          · rw [if_neg c15] at H
            have c15b0 : decide ((rd y359 x23_1) < 1) = false := decide_eq_false c15
            clear c15
            (first | rw [c15b0] | (simp only [i64_w, i32_w]; rw [c15b0]) | skip)
            have H' := Aside0.mk H
            clear H
            go_wp2
            (refine Met.intro ?_; go_step; (repeat apply Exists.intro); refine ⟨?rel, ?frame⟩)
            case frame => first | rfl | (rw [c15b0]; first | done | rfl) | (rw [c9b0]; first | done | rfl) | (rw [c8b0]; first | done | rfl) | (rw [c7b0]; first | done | rfl) | (simp only [c7b0, c8b0, c9b0, c15b0]; first | done | rfl)
            case rel => exact ⟨_, (decide ((rd y359 x23_1) > 3652059)), (by first | rfl | (simp; done) | (simp [*]; done)), H', ⟨by have := HK1.out; first | omega | exact Nat.le_refl _⟩, ⟨by (with_reducible repeat (first | apply Kd.R_alloc | apply Kd.R_drewN | apply Kd.R_drew)); exact Kd.R_mono (Kd.R_far (p := ⟨gb368, 2, none⟩) (Kd.R_far (p := ⟨gb368, 1, none⟩) (Kd.R_far (p := ⟨gb368, 0, none⟩) (Kd.R_types HO_21.out BK368.out (by decide)) (fun _ hk => hk.2) (.int .i64 t364)) (fun _ hk => hk.2) (.int .i64 t365)) (fun _ hk => hk.2) (.int .i64 t366)) (fun _ hk => trivial)⟩, ⟨by (with_reducible repeat (first | refine blk_drewN ?_ _ | refine blk_drew ?_ | refine blk_alloc ?_ _)); refine blk_put (cs := #[.int .i64 t364, .int .i64 t365, .int .i64 0]) ?_ 2 _ rfl; (with_reducible repeat (first | refine blk_drewN ?_ _ | refine blk_drew ?_ | refine blk_alloc ?_ _)); refine blk_put (cs := #[.int .i64 t364, .int .i64 0, .int .i64 0]) ?_ 1 _ rfl; (with_reducible repeat (first | refine blk_drewN ?_ _ | refine blk_drew ?_ | refine blk_alloc ?_ _)); refine blk_put (cs := #[.int .i64 0, .int .i64 0, .int .i64 0]) ?_ 0 _ rfl; (with_reducible repeat (first | refine blk_drewN ?_ _ | refine blk_drew ?_ | refine blk_alloc ?_ _)); exact BK368.out⟩, ⟨by repeat (first | (with_reducible first | exact HB.out | apply below_alloc | apply pw_below_drewN | apply below_drew1 | refine below_set ?_ GE368.out) | exact HB.out)⟩⟩
        case rest =>
          clear HC11
          try clear c1
          try clear p2
          try clear c3
          try clear c3b0
          try clear p3
          try clear q3
          try clear hx3
          try clear c7
          try clear c7b0
          try clear c8
          try clear c8b0
          try clear c9
          try clear c9b0
          try clear c15
          try clear c15b0
          try clear hcz14_0
          try clear hcz14_1
          try clear hcz14_2
          try clear hfz14_0
          try clear hfz14_1
          try clear hfz14_2
          try clear hx363_0
          try clear p2
          try clear p363
          try clear q363
          obtain ⟨kq, x37_10, rfl, HA, HJ10, HO_21, BK368, HB⟩ := hcut
          cases kq with
          | zero => exact absurd HA.out (by simp [chattellaw09_DateBack.j1])
          | succ kj10 =>
            have H := HA.out
            clear HA
            simp only [chattellaw09_DateBack.j1] at H
            by_cases c16 : x37_10 = true
            · subst c16
              have H1 : (if t367 = 11 then (if (!(t364 == 0) || (!(t365 == 0) || (!(t366 == 0)))) = true then (some false) else (chattellaw09_DateBack.l0 kj10 y359 (y359.length : Int) (wrap64 (x23_1 + 1)))) else (some false)) = some r := by rw [if_pos rfl] at H; exact H
              clear H
              have H := H1
              clear H1
              by_cases c17 : t367 = 11
              rotate_left
              · rw [if_neg c17] at H
                have c17b0 : (t367 == 11) = false := beq_eq_false_iff_ne.mpr c17
                have c17b1 : (t367 != 11) = true := bne_iff_ne.mpr c17
                exact absurd (Option.some.inj H) (by rw [ht_]; decide)
              rw [if_pos c17] at H
              have c17b0 : (t367 == 11) = true := beq_iff_eq.mpr c17
              have c17b1 : (t367 != 11) = false := bne_eq_false_iff_eq.mpr c17
              clear c17
              by_cases c18 : (!(t364 == 0) || (!(t365 == 0) || (!(t366 == 0)))) = true
              · rw [if_pos c18] at H
                have c18b0 : (!(t364 == 0) || (!(t365 == 0) || (!(t366 == 0)))) = true := c18
                clear c18
                exact absurd (Option.some.inj H) (by rw [ht_]; decide)
              · rw [if_neg c18] at H
                have c18b0 : (!(t364 == 0) || (!(t365 == 0) || (!(t366 == 0)))) = false := by simpa using c18
                clear c18
                have H' := Aside0.mk H
                clear H
                have hcz19_0 : wc.cell? ⟨gb368, 0, none⟩ = some (.int .i64 t364) := (blk_cell BK368.out 0).trans rfl
                have hcz19_1 : wc.cell? ⟨gb368, 1, none⟩ = some (.int .i64 t365) := (blk_cell BK368.out 1).trans rfl
                have hcz19_2 : wc.cell? ⟨gb368, 2, none⟩ = some (.int .i64 t366) := (blk_cell BK368.out 2).trans rfl
                have hfz19_0 := blk_frozen BK368.out 0
                have hfz19_1 := blk_frozen BK368.out 1
                have hfz19_2 := blk_frozen BK368.out 2
                go_wp2
                go_roundg kj10
                case measure => have := HK1.out; have := HJ10.out; omega
                case rel => exact ⟨(wrap64 (x23_1 + 1)), (by first | rfl | (simp; done) | (simp [*]; done)), H', ⟨by have := HK1.out; have := HJ10.out; omega⟩, ⟨by (with_reducible repeat (first | apply Kd.R_alloc | apply Kd.R_drewN | apply Kd.R_drew)); exact HO_21.out⟩, ⟨by repeat (first | (with_reducible first | exact HB.out | apply below_alloc | apply pw_below_drewN | apply below_drew1 | refine below_set ?_ GE368.out) | exact HB.out)⟩⟩
            · replace c16 := Bool.eq_false_iff.mpr c16
              subst c16
              have H1 : ((date_Number.f kj10 t364 t365 t366).bind fun bt369 => (if t367 = 0 then (if bt369.2 = 0 then (if bt369.1 = (rd y359 x23_1) then ((chattelref09_Right.f kj10 t364 t365 t366).bind fun t371 => (if t371 = true then ((chattelref09_Number.f kj10 t364 t365 t366).bind fun t372 => (chattellaw09_DateBack.j2 kj10 (rd y359 x23_1) y359 (y359.length : Int) x23_1 (t372 != (rd y359 x23_1)) t364 t365 t366)) else (chattellaw09_DateBack.j2 kj10 (rd y359 x23_1) y359 (y359.length : Int) x23_1 true t364 t365 t366))) else (chattellaw09_DateBack.j2 kj10 (rd y359 x23_1) y359 (y359.length : Int) x23_1 true t364 t365 t366)) else (chattellaw09_DateBack.j2 kj10 (rd y359 x23_1) y359 (y359.length : Int) x23_1 true t364 t365 t366)) else (chattellaw09_DateBack.j2 kj10 (rd y359 x23_1) y359 (y359.length : Int) x23_1 true t364 t365 t366))) = some r := by rw [if_neg (show ¬ (false = true) by decide)] at H; exact H
              clear H
              have H := H1
              clear H1
              replace H := Option.bind_eq_some_iff.mp H
              obtain ⟨⟨t369, t370⟩, A200, H⟩ := H
              replace H : (if t367 = 0 then (if t370 = 0 then (if t369 = (rd y359 x23_1) then ((chattelref09_Right.f kj10 t364 t365 t366).bind fun t371 => (if t371 = true then ((chattelref09_Number.f kj10 t364 t365 t366).bind fun t372 => (chattellaw09_DateBack.j2 kj10 (rd y359 x23_1) y359 (y359.length : Int) x23_1 (t372 != (rd y359 x23_1)) t364 t365 t366)) else (chattellaw09_DateBack.j2 kj10 (rd y359 x23_1) y359 (y359.length : Int) x23_1 true t364 t365 t366))) else (chattellaw09_DateBack.j2 kj10 (rd y359 x23_1) y359 (y359.length : Int) x23_1 true t364 t365 t366)) else (chattellaw09_DateBack.j2 kj10 (rd y359 x23_1) y359 (y359.length : Int) x23_1 true t364 t365 t366)) else (chattellaw09_DateBack.j2 kj10 (rd y359 x23_1) y359 (y359.length : Int) x23_1 true t364 t365 t366)) = some r := H
              have A20 := Aside0.mk A200
              clear A200
              have HC21 := Aside0.mk H
              clear H
              have hcz22_0 : wc.cell? ⟨gb368, 0, none⟩ = some (.int .i64 t364) := (blk_cell BK368.out 0).trans rfl
              have hcz22_1 : wc.cell? ⟨gb368, 1, none⟩ = some (.int .i64 t365) := (blk_cell BK368.out 1).trans rfl
              have hcz22_2 : wc.cell? ⟨gb368, 2, none⟩ = some (.int .i64 t366) := (blk_cell BK368.out 2).trans rfl
              have hfz22_0 := blk_frozen BK368.out 0
              have hfz22_1 := blk_frozen BK368.out 1
              have hfz22_2 := blk_frozen BK368.out 2
              go_upto_region 9 with (first | ((with_reducible refine gate_callee (f := 22) rfl ?_); refine goesL_ (some 47) rfl rfl Try.func22 (by kernel_rfl) rfl #[.agg #[.int .i64 t364, .int .i64 t365, .int .i64 t366]] rfl (by (try simp only [List.map_toArray, List.map_cons, List.map_nil]); first | done | rfl | (simp only [List.length_drop, List.length_take]; rfl)) ?_; (with_reducible refine (date_Number.calls kj10 t364 t365 t366 t369 t370 _ A20.out).mono ?_); rintro e w23 ⟨rfl, hb⟩; refine ⟨_, rfl, ?_⟩; replace HO_21 := Aside0.mk (rb HO_21.out hb); replace BK368 := Aside0.mk (bb BK368.out hb); replace HB := Aside0.mk (bs HB.out hb); (try clear hb); (try clear hb2); (try clear hk); (try clear hi)))
              (try simp only [Act.put, List.setIfInBounds_toArray, List.set_cons_zero, List.set_cons_succ])
              go_cut [71] (fun v71 wc => ∃ (kq : Nat) (x71_20 : Bool), v71 = .bool x71_20 ∧ Aside0 (chattellaw09_DateBack.j2 kq (rd y359 x23_1) y359 (y359.length : Int) x23_1 x71_20 t364 t365 t366 = some r) ∧ Aside0 (kq ≤ kj10) ∧ Aside0 (Kd.R (Kd.int .i64) 3 wc w.heap.size (fun _ => True) (.slice (some ad363) y359.length co6) y359) ∧ Aside0 (wc.heap[gb368]? = some (.cells #[.int .i64 t364, .int .i64 t365, .int .i64 t366] 23 (0, 0))) ∧ Aside0 (Below w.heap.size w wc))
              case first =>
                have H := HC21.out
                clear HC21
                by_cases c24 : t367 = 0
                · rw [if_pos c24] at H
                  have c24b0 : (t367 == 0) = true := beq_iff_eq.mpr c24
                  have c24b1 : (t367 != 0) = false := bne_eq_false_iff_eq.mpr c24
                  clear c24
                  (first | rw [c24b0] | (simp only [i64_w, i32_w]; rw [c24b0]) | skip)
                  by_cases c25 : t370 = 0
                  · rw [if_pos c25] at H
                    have c25b0 : (t370 == 0) = true := beq_iff_eq.mpr c25
                    have c25b1 : (t370 != 0) = false := bne_eq_false_iff_eq.mpr c25
                    clear c25
                    by_cases c26 : t369 = (rd y359 x23_1)
                    · rw [if_pos c26] at H
                      have c26b0 : (t369 == (rd y359 x23_1)) = true := beq_iff_eq.mpr c26
                      have c26b1 : (t369 != (rd y359 x23_1)) = false := bne_eq_false_iff_eq.mpr c26
                      clear c26
                      replace H := Option.bind_eq_some_iff.mp H
                      obtain ⟨t371, A270, H⟩ := H
                      replace H : (if t371 = true then ((chattelref09_Number.f kj10 t364 t365 t366).bind fun t372 => (chattellaw09_DateBack.j2 kj10 (rd y359 x23_1) y359 (y359.length : Int) x23_1 (t372 != (rd y359 x23_1)) t364 t365 t366)) else (chattellaw09_DateBack.j2 kj10 (rd y359 x23_1) y359 (y359.length : Int) x23_1 true t364 t365 t366)) = some r := H
                      have A27 := Aside0.mk A270
                      clear A270
                      by_cases c28 : t371 = true
                      · subst c28
                        have H1 : ((chattelref09_Number.f kj10 t364 t365 t366).bind fun t372 => (chattellaw09_DateBack.j2 kj10 (rd y359 x23_1) y359 (y359.length : Int) x23_1 (t372 != (rd y359 x23_1)) t364 t365 t366)) = some r := by rw [if_pos rfl] at H; exact H
                        clear H
                        have H := H1
                        clear H1
                        replace H := Option.bind_eq_some_iff.mp H
                        obtain ⟨t372, A290, H⟩ := H
                        replace H : (chattellaw09_DateBack.j2 kj10 (rd y359 x23_1) y359 (y359.length : Int) x23_1 (t372 != (rd y359 x23_1)) t364 t365 t366) = some r := H
                        have A29 := Aside0.mk A290
                        clear A290
                        have H' := Aside0.mk H
                        clear H
                        have hcz30_0 : w23.cell? ⟨gb368, 0, none⟩ = some (.int .i64 t364) := (blk_cell BK368.out 0).trans rfl
                        have hcz30_1 : w23.cell? ⟨gb368, 1, none⟩ = some (.int .i64 t365) := (blk_cell BK368.out 1).trans rfl
                        have hcz30_2 : w23.cell? ⟨gb368, 2, none⟩ = some (.int .i64 t366) := (blk_cell BK368.out 2).trans rfl
                        have hfz30_0 := blk_frozen BK368.out 0
                        have hfz30_1 := blk_frozen BK368.out 1
                        have hfz30_2 := blk_frozen BK368.out 2
                        go_wp2_with (first | (go_at_call 21; (with_reducible refine (chattelref09_Right.calls kj10 t364 t365 t366 true _ A27.out).mono ?_); rintro e w31 ⟨rfl, hb⟩; replace HO_21 := Aside0.mk (rb HO_21.out hb); replace BK368 := Aside0.mk (bb BK368.out hb); replace HB := Aside0.mk (bs HB.out hb); (try clear hb); (try clear hb2); (try clear hk); (try clear hi); have hcz32_0 : w31.cell? ⟨gb368, 0, none⟩ = some (.int .i64 t364) := (blk_cell BK368.out 0).trans rfl; have hcz32_1 : w31.cell? ⟨gb368, 1, none⟩ = some (.int .i64 t365) := (blk_cell BK368.out 1).trans rfl; have hcz32_2 : w31.cell? ⟨gb368, 2, none⟩ = some (.int .i64 t366) := (blk_cell BK368.out 2).trans rfl; have hfz32_0 := blk_frozen BK368.out 0; have hfz32_1 := blk_frozen BK368.out 1; have hfz32_2 := blk_frozen BK368.out 2) | (go_at_call 30; (with_reducible refine (chattelref09_Number.calls kj10 t364 t365 t366 t372 _ A29.out).mono ?_); rintro e w33 ⟨rfl, hb⟩; replace HO_21 := Aside0.mk (rb HO_21.out hb); replace BK368 := Aside0.mk (bb BK368.out hb); replace HB := Aside0.mk (bs HB.out hb); (try clear hb); (try clear hb2); (try clear hk); (try clear hi)))
                        (refine Met.intro ?_; go_step; (repeat apply Exists.intro); refine ⟨?rel, ?frame⟩)
                        case frame => first | rfl | (rw [c26b1]; first | done | rfl) | (rw [c26b0]; first | done | rfl) | (rw [c25b1]; first | done | rfl) | (rw [c25b0]; first | done | rfl) | (simp only [c7b0, c8b0, c9b0, c24b0, c24b1, c25b0, c25b1, c26b0, c26b1]; first | done | rfl)
                        case rel => exact ⟨_, ((t372 != (rd y359 x23_1))), (by first | rfl | (simp; done) | (simp [*]; done)), H', ⟨by have := HK1.out; have := HJ10.out; first | omega | exact Nat.le_refl _⟩, ⟨by (with_reducible repeat (first | apply Kd.R_alloc | apply Kd.R_drewN | apply Kd.R_drew)); exact HO_21.out⟩, ⟨by (with_reducible repeat (first | refine blk_drewN ?_ _ | refine blk_drew ?_ | refine blk_alloc ?_ _)); exact BK368.out⟩, ⟨by repeat (first | (with_reducible first | exact HB.out | apply below_alloc | apply pw_below_drewN | apply below_drew1 | refine below_set ?_ GE368.out) | exact HB.out)⟩⟩
                      · replace c28 := Bool.eq_false_iff.mpr c28
                        subst c28
                        have H1 : (chattellaw09_DateBack.j2 kj10 (rd y359 x23_1) y359 (y359.length : Int) x23_1 true t364 t365 t366) = some r := by rw [if_neg (show ¬ (false = true) by decide)] at H; exact H
                        clear H
                        have H := H1
                        clear H1
                        have H' := Aside0.mk H
                        clear H
                        have hcz34_0 : w23.cell? ⟨gb368, 0, none⟩ = some (.int .i64 t364) := (blk_cell BK368.out 0).trans rfl
                        have hcz34_1 : w23.cell? ⟨gb368, 1, none⟩ = some (.int .i64 t365) := (blk_cell BK368.out 1).trans rfl
                        have hcz34_2 : w23.cell? ⟨gb368, 2, none⟩ = some (.int .i64 t366) := (blk_cell BK368.out 2).trans rfl
                        have hfz34_0 := blk_frozen BK368.out 0
                        have hfz34_1 := blk_frozen BK368.out 1
                        have hfz34_2 := blk_frozen BK368.out 2
                        go_wp2_with (first | (go_at_call 21; (with_reducible refine (chattelref09_Right.calls kj10 t364 t365 t366 false _ A27.out).mono ?_); rintro e w35 ⟨rfl, hb⟩; replace HO_21 := Aside0.mk (rb HO_21.out hb); replace BK368 := Aside0.mk (bb BK368.out hb); replace HB := Aside0.mk (bs HB.out hb); (try clear hb); (try clear hb2); (try clear hk); (try clear hi)))
                        (refine Met.intro ?_; go_step; (repeat apply Exists.intro); refine ⟨?rel, ?frame⟩)
                        case frame => first | rfl | (rw [c26b1]; first | done | rfl) | (rw [c26b0]; first | done | rfl) | (rw [c25b1]; first | done | rfl) | (rw [c25b0]; first | done | rfl) | (simp only [c7b0, c8b0, c9b0, c24b0, c24b1, c25b0, c25b1, c26b0, c26b1]; first | done | rfl)
                        case rel => exact ⟨_, (true), (by first | rfl | (simp; done) | (simp [*]; done)), H', ⟨by have := HK1.out; have := HJ10.out; first | omega | exact Nat.le_refl _⟩, ⟨by (with_reducible repeat (first | apply Kd.R_alloc | apply Kd.R_drewN | apply Kd.R_drew)); exact HO_21.out⟩, ⟨by (with_reducible repeat (first | refine blk_drewN ?_ _ | refine blk_drew ?_ | refine blk_alloc ?_ _)); exact BK368.out⟩, ⟨by repeat (first | (with_reducible first | exact HB.out | apply below_alloc | apply pw_below_drewN | apply below_drew1 | refine below_set ?_ GE368.out) | exact HB.out)⟩⟩
                    · rw [if_neg c26] at H
                      have c26b0 : (t369 == (rd y359 x23_1)) = false := beq_eq_false_iff_ne.mpr c26
                      have c26b1 : (t369 != (rd y359 x23_1)) = true := bne_iff_ne.mpr c26
                      have H' := Aside0.mk H
                      clear H
                      go_wp2
                      (refine Met.intro ?_; go_step; (repeat apply Exists.intro); refine ⟨?rel, ?frame⟩)
                      case frame => first | rfl | (rw [c26b1]; first | done | rfl) | (rw [c26b0]; first | done | rfl) | (rw [c25b1]; first | done | rfl) | (rw [c25b0]; first | done | rfl) | (simp only [c7b0, c8b0, c9b0, c24b0, c24b1, c25b0, c25b1, c26b0, c26b1]; first | done | rfl)
                      case rel => exact ⟨_, (true), (by first | rfl | (simp; done) | (simp [*]; done)), H', ⟨by have := HK1.out; have := HJ10.out; first | omega | exact Nat.le_refl _⟩, ⟨by (with_reducible repeat (first | apply Kd.R_alloc | apply Kd.R_drewN | apply Kd.R_drew)); exact HO_21.out⟩, ⟨by (with_reducible repeat (first | refine blk_drewN ?_ _ | refine blk_drew ?_ | refine blk_alloc ?_ _)); exact BK368.out⟩, ⟨by repeat (first | (with_reducible first | exact HB.out | apply below_alloc | apply pw_below_drewN | apply below_drew1 | refine below_set ?_ GE368.out) | exact HB.out)⟩⟩
                  · rw [if_neg c25] at H
                    have c25b0 : (t370 == 0) = false := beq_eq_false_iff_ne.mpr c25
                    have c25b1 : (t370 != 0) = true := bne_iff_ne.mpr c25
                    have H' := Aside0.mk H
                    clear H
                    go_wp2
                    (refine Met.intro ?_; go_step; (repeat apply Exists.intro); refine ⟨?rel, ?frame⟩)
                    case frame => first | rfl | (rw [c25b1]; first | done | rfl) | (rw [c25b0]; first | done | rfl) | (rw [c24b1]; first | done | rfl) | (rw [c24b0]; first | done | rfl) | (simp only [c7b0, c8b0, c9b0, c24b0, c24b1, c25b0, c25b1]; first | done | rfl)
                    case rel => exact ⟨_, (true), (by first | rfl | (simp; done) | (simp [*]; done)), H', ⟨by have := HK1.out; have := HJ10.out; first | omega | exact Nat.le_refl _⟩, ⟨by (with_reducible repeat (first | apply Kd.R_alloc | apply Kd.R_drewN | apply Kd.R_drew)); exact HO_21.out⟩, ⟨by (with_reducible repeat (first | refine blk_drewN ?_ _ | refine blk_drew ?_ | refine blk_alloc ?_ _)); exact BK368.out⟩, ⟨by repeat (first | (with_reducible first | exact HB.out | apply below_alloc | apply pw_below_drewN | apply below_drew1 | refine below_set ?_ GE368.out) | exact HB.out)⟩⟩
                · rw [if_neg c24] at H
                  have c24b0 : (t367 == 0) = false := beq_eq_false_iff_ne.mpr c24
                  have c24b1 : (t367 != 0) = true := bne_iff_ne.mpr c24
                  (first | rw [c24b0] | (simp only [i64_w, i32_w]; rw [c24b0]) | skip)
                  have H' := Aside0.mk H
                  clear H
                  go_wp2
                  (refine Met.intro ?_; go_step; (repeat apply Exists.intro); refine ⟨?rel, ?frame⟩)
                  case frame => first | rfl | (rw [c24b1]; first | done | rfl) | (rw [c24b0]; first | done | rfl) | (rw [c9b0]; first | done | rfl) | (rw [c8b0]; first | done | rfl) | (simp only [c7b0, c8b0, c9b0, c24b0, c24b1]; first | done | rfl)
                  case rel => exact ⟨_, (true), (by first | rfl | (simp; done) | (simp [*]; done)), H', ⟨by have := HK1.out; have := HJ10.out; first | omega | exact Nat.le_refl _⟩, ⟨by (with_reducible repeat (first | apply Kd.R_alloc | apply Kd.R_drewN | apply Kd.R_drew)); exact HO_21.out⟩, ⟨by (with_reducible repeat (first | refine blk_drewN ?_ _ | refine blk_drew ?_ | refine blk_alloc ?_ _)); exact BK368.out⟩, ⟨by repeat (first | (with_reducible first | exact HB.out | apply below_alloc | apply pw_below_drewN | apply below_drew1 | refine below_set ?_ GE368.out) | exact HB.out)⟩⟩
              case rest =>
                clear HC21
                try clear c1
                try clear c2
                try clear p2
                try clear c3
                try clear c3b0
                try clear p3
                try clear q3
                try clear hx3
                try clear p6
                try clear c7
                try clear c7b0
                try clear c8
                try clear c8b0
                try clear c9
                try clear c9b0
                try clear c15
                try clear c15b0
                try clear c16
                try clear c17
                try clear c17b0
                try clear c17b1
                try clear c18
                try clear c18b0
                try clear c22
                try clear c24
                try clear c24b0
                try clear c24b1
                try clear c25
                try clear c25b0
                try clear c25b1
                try clear c26
                try clear c26b0
                try clear c26b1
                try clear c28
                try clear c33
                try clear hcz14_0
                try clear hcz14_1
                try clear hcz14_2
                try clear hcz19_0
                try clear hcz19_1
                try clear hcz19_2
                try clear hcz22_0
                try clear hcz22_1
                try clear hcz22_2
                try clear hcz30_0
                try clear hcz30_1
                try clear hcz30_2
                try clear hcz32_0
                try clear hcz32_1
                try clear hcz32_2
                try clear hcz34_0
                try clear hcz34_1
                try clear hcz34_2
                try clear hfz14_0
                try clear hfz14_1
                try clear hfz14_2
                try clear hfz19_0
                try clear hfz19_1
                try clear hfz19_2
                try clear hfz22_0
                try clear hfz22_1
                try clear hfz22_2
                try clear hfz30_0
                try clear hfz30_1
                try clear hfz30_2
                try clear hfz32_0
                try clear hfz32_1
                try clear hfz32_2
                try clear hfz34_0
                try clear hfz34_1
                try clear hfz34_2
                try clear hx363_0
                try clear p2
                try clear p3
                try clear p363
                try clear q3
                try clear q363
                obtain ⟨kq, x71_20, rfl, HA, HJ20, HO_21, BK368, HB⟩ := hcut
                cases kq with
                | zero => exact absurd HA.out (by simp [chattellaw09_DateBack.j2])
                | succ kj20 =>
                  have H := HA.out
                  clear HA
                  simp only [chattellaw09_DateBack.j2] at H
                  by_cases c36 : x71_20 = true
                  · subst c36
                    have H1 : (some false) = some r := by rw [if_pos rfl] at H; exact H
                    clear H
                    have H := H1
                    clear H1
                    exact absurd (Option.some.inj H) (by rw [ht_]; decide)
                  · replace c36 := Bool.eq_false_iff.mpr c36
                    subst c36
                    have H1 : ((date_Of.f kj20 (wrap64 ((rd y359 x23_1) + 1))).bind fun bt373 => ((chattelref09_Next.f kj20 t364 t365 t366).bind fun bt378 => (if (bt378.2.2.2 != (bt373.2.2.2 == 0)) = true then (some false) else (if bt378.2.2.2 = true then (if (!(bt373.1 == bt378.1) || (!(bt373.2.1 == bt378.2.1) || (!(bt373.2.2.1 == bt378.2.2.1)))) = true then (some false) else (chattellaw09_DateBack.l0 kj20 y359 (y359.length : Int) (wrap64 (x23_1 + 1)))) else (chattellaw09_DateBack.l0 kj20 y359 (y359.length : Int) (wrap64 (x23_1 + 1))))))) = some r := by rw [if_neg (show ¬ (false = true) by decide)] at H; exact H
                    clear H
                    have H := H1
                    clear H1
                    replace H := Option.bind_eq_some_iff.mp H
                    obtain ⟨⟨t373, t374, t375, t376⟩, A370, H⟩ := H
                    replace H : ((chattelref09_Next.f kj20 t364 t365 t366).bind fun bt378 => (if (bt378.2.2.2 != (t376 == 0)) = true then (some false) else (if bt378.2.2.2 = true then (if (!(t373 == bt378.1) || (!(t374 == bt378.2.1) || (!(t375 == bt378.2.2.1)))) = true then (some false) else (chattellaw09_DateBack.l0 kj20 y359 (y359.length : Int) (wrap64 (x23_1 + 1)))) else (chattellaw09_DateBack.l0 kj20 y359 (y359.length : Int) (wrap64 (x23_1 + 1)))))) = some r := H
                    have A37 := Aside0.mk A370
                    clear A370
                    replace H := Option.bind_eq_some_iff.mp H
                    obtain ⟨⟨t378, t379, t380, t381⟩, A380, H⟩ := H
                    replace H : (if (t381 != (t376 == 0)) = true then (some false) else (if t381 = true then (if (!(t373 == t378) || (!(t374 == t379) || (!(t375 == t380)))) = true then (some false) else (chattellaw09_DateBack.l0 kj20 y359 (y359.length : Int) (wrap64 (x23_1 + 1)))) else (chattellaw09_DateBack.l0 kj20 y359 (y359.length : Int) (wrap64 (x23_1 + 1))))) = some r := H
                    have A38 := Aside0.mk A380
                    clear A380
                    by_cases c39 : (t381 != (t376 == 0)) = true
                    · rw [if_pos c39] at H
                      have c39b0 : (t381 != (t376 == 0)) = true := c39
                      (try (have c39b1 : decide (t381 = (t376 == 0)) = false := by simpa using c39))
                      (try (have c39b2 : (t381 == (t376 == 0)) = false := by simpa using c39))
                      (try (have c39b3 : ¬ (t381 = (t376 == 0)) := by simpa using c39))
                      clear c39
                      exact absurd (Option.some.inj H) (by rw [ht_]; decide)
                    · rw [if_neg c39] at H
                      have c39b0 : (t381 != (t376 == 0)) = false := by simpa using c39
                      (try (have c39b1 : decide (t381 = (t376 == 0)) = true := by simpa using c39))
                      (try (have c39b2 : (t381 == (t376 == 0)) = true := by simpa using c39))
                      clear c39
                      by_cases c40 : t381 = true
                      · subst c40
                        have H1 : (if (!(t373 == t378) || (!(t374 == t379) || (!(t375 == t380)))) = true then (some false) else (chattellaw09_DateBack.l0 kj20 y359 (y359.length : Int) (wrap64 (x23_1 + 1)))) = some r := by rw [if_pos rfl] at H; exact H
                        clear H
                        have H := H1
                        clear H1
                        by_cases c41 : (!(t373 == t378) || (!(t374 == t379) || (!(t375 == t380)))) = true
                        · rw [if_pos c41] at H
                          have c41b0 : (!(t373 == t378) || (!(t374 == t379) || (!(t375 == t380)))) = true := c41
                          clear c41
                          exact absurd (Option.some.inj H) (by rw [ht_]; decide)
                        · rw [if_neg c41] at H
                          have c41b0 : (!(t373 == t378) || (!(t374 == t379) || (!(t375 == t380)))) = false := by simpa using c41
                          clear c41
                          have H' := Aside0.mk H
                          clear H
                          go_wp2_with (first | ((with_reducible refine gate_callee (f := 33) rfl ?_); refine goesL_ (some 75) rfl rfl Try.func33 (by kernel_rfl) rfl #[.int .i64 (wrap64 ((rd y359 x23_1) + 1))] rfl (by (try simp only [List.map_toArray, List.map_cons, List.map_nil]); first | done | rfl | (simp only [List.length_drop, List.length_take]; rfl)) ?_; (with_reducible refine (date_Of.calls kj20 (wrap64 ((rd y359 x23_1) + 1)) t373 t374 t375 t376 _ A37.out).mono ?_); rintro e w42 ⟨rfl, hb⟩; refine ⟨_, rfl, ?_⟩; replace HO_21 := Aside0.mk (rb HO_21.out hb); replace BK368 := Aside0.mk (bb BK368.out hb); replace HB := Aside0.mk (bs HB.out hb); (try clear hb); (try clear hb2); (try clear hk); (try clear hi)) | ((with_reducible refine gate_dst (N := 9) rfl ?_); refine box_event ?hg (N := 9) ?hd (cs := #[.int .i64 0, .int .i64 0, .int .i64 0]) (t := 23) ?hr ?_; (case hd => rfl); (case hg => rfl); (case hr => first | (go_simp; done) | (go_simp; rfl)); intro gb377 hg w43 hbox hb; have n0_ := Aside0.mk (rb HO_21.out hb); have n1_ := Aside0.mk (bb BK368.out hb); have n2_ := Aside0.mk (bs HB.out hb); have n3_ := Aside0.mk (hbox); have n4_ := Aside0.mk ((by rw [hg]; exact (bz HB.out) : w.heap.size ≤ gb377)); have n5_ := Aside0.mk ((by rw [hg]; exact (bz HB.out) : w.heap.size ≤ gb377)); have n6_ := Aside0.mk ((by rw [hg]; exact Nat.ne_of_lt (blk_lt (g := gb368) (o := .cells #[.int .i64 t364, .int .i64 t365, .int .i64 t366] 23 (0, 0)) (by (with_reducible repeat (first | refine blk_drewN ?_ _ | refine blk_drew ?_ | refine blk_alloc ?_ _)); exact BK368.out)) : gb368 ≠ gb377)); have n7_ := Aside0.mk ((by rw [hg]; exact Nat.ne_of_gt (blk_lt (g := gb368) (o := .cells #[.int .i64 t364, .int .i64 t365, .int .i64 t366] 23 (0, 0)) (by (with_reducible repeat (first | refine blk_drewN ?_ _ | refine blk_drew ?_ | refine blk_alloc ?_ _)); exact BK368.out)) : gb377 ≠ gb368)); clear HO_21; clear BK368; clear HB; have HO_21 := n0_; have BK368 := n1_; have HB := n2_; have BK377 := n3_; have GW377 := n4_; have GE377 := n5_; have NB368_377 := n6_; have NB377_368 := n7_; clear n0_ n1_ n2_ n3_ n4_ n5_ n6_ n7_; clear hb hbox hg; have hnb44 := NB377_368.out; have hnc44 := NB368_377.out; have hcz45_0 : w43.cell? ⟨gb377, 0, none⟩ = some (.int .i64 0) := (blk_cell BK377.out 0).trans rfl; have hcz45_1 : w43.cell? ⟨gb377, 1, none⟩ = some (.int .i64 0) := (blk_cell BK377.out 1).trans rfl; have hcz45_2 : w43.cell? ⟨gb377, 2, none⟩ = some (.int .i64 0) := (blk_cell BK377.out 2).trans rfl; have hfz45_0 := blk_frozen BK377.out 0; have hfz45_1 := blk_frozen BK377.out 1; have hfz45_2 := blk_frozen BK377.out 2; have hcz46_0 : w43.cell? ⟨gb368, 0, none⟩ = some (.int .i64 t364) := (blk_cell BK368.out 0).trans rfl; have hcz46_1 : w43.cell? ⟨gb368, 1, none⟩ = some (.int .i64 t365) := (blk_cell BK368.out 1).trans rfl; have hcz46_2 : w43.cell? ⟨gb368, 2, none⟩ = some (.int .i64 t366) := (blk_cell BK368.out 2).trans rfl; have hfz46_0 := blk_frozen BK368.out 0; have hfz46_1 := blk_frozen BK368.out 1; have hfz46_2 := blk_frozen BK368.out 2) | ((with_reducible refine gate_callee (f := 34) rfl ?_); refine goesL_ (some 80) rfl rfl Try.func34 (by kernel_rfl) rfl #[.agg #[.int .i64 t364, .int .i64 t365, .int .i64 t366]] rfl (by (try simp only [List.map_toArray, List.map_cons, List.map_nil]); first | done | rfl | (simp only [List.length_drop, List.length_take]; rfl)) ?_; (with_reducible refine (chattelref09_Next.calls kj20 t364 t365 t366 t378 t379 t380 true _ A38.out).mono ?_); rintro e w47 ⟨rfl, hb⟩; refine ⟨_, rfl, ?_⟩; replace HO_21 := Aside0.mk (Kd.R_below (by (with_reducible repeat (first | apply Kd.R_alloc | apply Kd.R_drewN | apply Kd.R_drew)); exact (Kd.R_mono (Kd.R_far (p := ⟨gb377, 2, none⟩) (Kd.R_far (p := ⟨gb377, 1, none⟩) (Kd.R_far (p := ⟨gb377, 0, none⟩) (Kd.R_types HO_21.out BK377.out (by decide)) (fun _ hk => hk.2) (.int .i64 t373)) (fun _ hk => hk.2) (.int .i64 t374)) (fun _ hk => hk.2) (.int .i64 t375)) (fun _ h_ => h_.1))) hb); replace BK368 := Aside0.mk (blk_below (g := gb368) (o := .cells #[.int .i64 t364, .int .i64 t365, .int .i64 t366] 23 (0, 0)) (by (with_reducible repeat (first | refine blk_drewN ?_ _ | refine blk_drew ?_ | refine blk_alloc ?_ _)); refine blk_far ?_ NB368_377.out _; (with_reducible repeat (first | refine blk_drewN ?_ _ | refine blk_drew ?_ | refine blk_alloc ?_ _)); refine blk_far ?_ NB368_377.out _; (with_reducible repeat (first | refine blk_drewN ?_ _ | refine blk_drew ?_ | refine blk_alloc ?_ _)); refine blk_far ?_ NB368_377.out _; (with_reducible repeat (first | refine blk_drewN ?_ _ | refine blk_drew ?_ | refine blk_alloc ?_ _)); exact BK368.out) hb); replace BK377 := Aside0.mk (blk_below (g := gb377) (o := .cells #[.int .i64 t373, .int .i64 t374, .int .i64 t375] 23 (0, 0)) (by (with_reducible repeat (first | refine blk_drewN ?_ _ | refine blk_drew ?_ | refine blk_alloc ?_ _)); refine blk_put (cs := #[.int .i64 t373, .int .i64 t374, .int .i64 0]) ?_ 2 _ rfl; (with_reducible repeat (first | refine blk_drewN ?_ _ | refine blk_drew ?_ | refine blk_alloc ?_ _)); refine blk_put (cs := #[.int .i64 t373, .int .i64 0, .int .i64 0]) ?_ 1 _ rfl; (with_reducible repeat (first | refine blk_drewN ?_ _ | refine blk_drew ?_ | refine blk_alloc ?_ _)); refine blk_put (cs := #[.int .i64 0, .int .i64 0, .int .i64 0]) ?_ 0 _ rfl; (with_reducible repeat (first | refine blk_drewN ?_ _ | refine blk_drew ?_ | refine blk_alloc ?_ _)); exact BK377.out) hb); replace HB := Aside0.mk (below_step (by repeat (first | (with_reducible first | exact HB.out | apply below_alloc | apply pw_below_drewN | apply below_drew1 | refine below_set ?_ GE368.out | refine below_set ?_ GE377.out) | exact HB.out)) hb); (try clear hb); (try clear hb2); (try clear hk); (try clear hi)) | ((with_reducible refine gate_dst (N := 11) rfl ?_); refine box_event ?hg (N := 11) ?hd (cs := #[.int .i64 0, .int .i64 0, .int .i64 0]) (t := 23) ?hr ?_; (case hd => rfl); (case hg => rfl); (case hr => first | (go_simp; done) | (go_simp; rfl)); intro gb382 hg w48 hbox hb; have n0_ := Aside0.mk (rb HO_21.out hb); have n1_ := Aside0.mk (bb BK368.out hb); have n2_ := Aside0.mk (bb BK377.out hb); have n3_ := Aside0.mk (bs HB.out hb); have n4_ := Aside0.mk (hbox); have n5_ := Aside0.mk ((by rw [hg]; exact (bz HB.out) : w.heap.size ≤ gb382)); have n6_ := Aside0.mk ((by rw [hg]; exact (bz HB.out) : w.heap.size ≤ gb382)); have n7_ := Aside0.mk ((by rw [hg]; exact Nat.ne_of_lt (blk_lt (g := gb368) (o := .cells #[.int .i64 t364, .int .i64 t365, .int .i64 t366] 23 (0, 0)) (by (with_reducible repeat (first | refine blk_drewN ?_ _ | refine blk_drew ?_ | refine blk_alloc ?_ _)); exact BK368.out)) : gb368 ≠ gb382)); have n8_ := Aside0.mk ((by rw [hg]; exact Nat.ne_of_gt (blk_lt (g := gb368) (o := .cells #[.int .i64 t364, .int .i64 t365, .int .i64 t366] 23 (0, 0)) (by (with_reducible repeat (first | refine blk_drewN ?_ _ | refine blk_drew ?_ | refine blk_alloc ?_ _)); exact BK368.out)) : gb382 ≠ gb368)); have n9_ := Aside0.mk ((by rw [hg]; exact Nat.ne_of_lt (blk_lt (g := gb377) (o := .cells #[.int .i64 t373, .int .i64 t374, .int .i64 t375] 23 (0, 0)) (by (with_reducible repeat (first | refine blk_drewN ?_ _ | refine blk_drew ?_ | refine blk_alloc ?_ _)); exact BK377.out)) : gb377 ≠ gb382)); have n10_ := Aside0.mk ((by rw [hg]; exact Nat.ne_of_gt (blk_lt (g := gb377) (o := .cells #[.int .i64 t373, .int .i64 t374, .int .i64 t375] 23 (0, 0)) (by (with_reducible repeat (first | refine blk_drewN ?_ _ | refine blk_drew ?_ | refine blk_alloc ?_ _)); exact BK377.out)) : gb382 ≠ gb377)); clear HO_21; clear BK368; clear BK377; clear HB; have HO_21 := n0_; have BK368 := n1_; have BK377 := n2_; have HB := n3_; have BK382 := n4_; have GW382 := n5_; have GE382 := n6_; have NB368_382 := n7_; have NB382_368 := n8_; have NB377_382 := n9_; have NB382_377 := n10_; clear n0_ n1_ n2_ n3_ n4_ n5_ n6_ n7_ n8_ n9_ n10_; clear hb hbox hg; have hnb49 := NB382_368.out; have hnc49 := NB368_382.out; have hnb50 := NB382_377.out; have hnc50 := NB377_382.out; have hcz51_0 : w48.cell? ⟨gb382, 0, none⟩ = some (.int .i64 0) := (blk_cell BK382.out 0).trans rfl; have hcz51_1 : w48.cell? ⟨gb382, 1, none⟩ = some (.int .i64 0) := (blk_cell BK382.out 1).trans rfl; have hcz51_2 : w48.cell? ⟨gb382, 2, none⟩ = some (.int .i64 0) := (blk_cell BK382.out 2).trans rfl; have hfz51_0 := blk_frozen BK382.out 0; have hfz51_1 := blk_frozen BK382.out 1; have hfz51_2 := blk_frozen BK382.out 2; have hcz52_0 : w48.cell? ⟨gb377, 0, none⟩ = some (.int .i64 t373) := (blk_cell BK377.out 0).trans rfl; have hcz52_1 : w48.cell? ⟨gb377, 1, none⟩ = some (.int .i64 t374) := (blk_cell BK377.out 1).trans rfl; have hcz52_2 : w48.cell? ⟨gb377, 2, none⟩ = some (.int .i64 t375) := (blk_cell BK377.out 2).trans rfl; have hfz52_0 := blk_frozen BK377.out 0; have hfz52_1 := blk_frozen BK377.out 1; have hfz52_2 := blk_frozen BK377.out 2))
                          go_roundg kj20
                          case measure => have := HK1.out; have := HJ10.out; have := HJ20.out; omega
                          case rel => exact ⟨(wrap64 (x23_1 + 1)), (by first | rfl | (simp; done) | (simp [*]; done)), H', ⟨by have := HK1.out; have := HJ10.out; have := HJ20.out; omega⟩, ⟨by (with_reducible repeat (first | apply Kd.R_alloc | apply Kd.R_drewN | apply Kd.R_drew)); exact Kd.R_mono (Kd.R_far (p := ⟨gb382, 2, none⟩) (Kd.R_far (p := ⟨gb382, 1, none⟩) (Kd.R_far (p := ⟨gb382, 0, none⟩) (Kd.R_types HO_21.out BK382.out (by decide)) (fun _ hk => hk.2) (.int .i64 t378)) (fun _ hk => hk.2) (.int .i64 t379)) (fun _ hk => hk.2) (.int .i64 t380)) (fun _ hk => trivial)⟩, ⟨by repeat (first | (with_reducible first | exact HB.out | apply below_alloc | apply pw_below_drewN | apply below_drew1 | refine below_set ?_ GE368.out | refine below_set ?_ GE377.out | refine below_set ?_ GE382.out) | exact HB.out)⟩⟩
                      · replace c40 := Bool.eq_false_iff.mpr c40
                        subst c40
                        have H1 : (chattellaw09_DateBack.l0 kj20 y359 (y359.length : Int) (wrap64 (x23_1 + 1))) = some r := by rw [if_neg (show ¬ (false = true) by decide)] at H; exact H
                        clear H
                        have H := H1
                        clear H1
                        have H' := Aside0.mk H
                        clear H
                        go_wp2_with (first | ((with_reducible refine gate_callee (f := 33) rfl ?_); refine goesL_ (some 75) rfl rfl Try.func33 (by kernel_rfl) rfl #[.int .i64 (wrap64 ((rd y359 x23_1) + 1))] rfl (by (try simp only [List.map_toArray, List.map_cons, List.map_nil]); first | done | rfl | (simp only [List.length_drop, List.length_take]; rfl)) ?_; (with_reducible refine (date_Of.calls kj20 (wrap64 ((rd y359 x23_1) + 1)) t373 t374 t375 t376 _ A37.out).mono ?_); rintro e w53 ⟨rfl, hb⟩; refine ⟨_, rfl, ?_⟩; replace HO_21 := Aside0.mk (rb HO_21.out hb); replace BK368 := Aside0.mk (bb BK368.out hb); replace HB := Aside0.mk (bs HB.out hb); (try clear hb); (try clear hb2); (try clear hk); (try clear hi)) | ((with_reducible refine gate_dst (N := 9) rfl ?_); refine box_event ?hg (N := 9) ?hd (cs := #[.int .i64 0, .int .i64 0, .int .i64 0]) (t := 23) ?hr ?_; (case hd => rfl); (case hg => rfl); (case hr => first | (go_simp; done) | (go_simp; rfl)); intro gb377 hg w54 hbox hb; have n0_ := Aside0.mk (rb HO_21.out hb); have n1_ := Aside0.mk (bb BK368.out hb); have n2_ := Aside0.mk (bs HB.out hb); have n3_ := Aside0.mk (hbox); have n4_ := Aside0.mk ((by rw [hg]; exact (bz HB.out) : w.heap.size ≤ gb377)); have n5_ := Aside0.mk ((by rw [hg]; exact (bz HB.out) : w.heap.size ≤ gb377)); have n6_ := Aside0.mk ((by rw [hg]; exact Nat.ne_of_lt (blk_lt (g := gb368) (o := .cells #[.int .i64 t364, .int .i64 t365, .int .i64 t366] 23 (0, 0)) (by (with_reducible repeat (first | refine blk_drewN ?_ _ | refine blk_drew ?_ | refine blk_alloc ?_ _)); exact BK368.out)) : gb368 ≠ gb377)); have n7_ := Aside0.mk ((by rw [hg]; exact Nat.ne_of_gt (blk_lt (g := gb368) (o := .cells #[.int .i64 t364, .int .i64 t365, .int .i64 t366] 23 (0, 0)) (by (with_reducible repeat (first | refine blk_drewN ?_ _ | refine blk_drew ?_ | refine blk_alloc ?_ _)); exact BK368.out)) : gb377 ≠ gb368)); clear HO_21; clear BK368; clear HB; have HO_21 := n0_; have BK368 := n1_; have HB := n2_; have BK377 := n3_; have GW377 := n4_; have GE377 := n5_; have NB368_377 := n6_; have NB377_368 := n7_; clear n0_ n1_ n2_ n3_ n4_ n5_ n6_ n7_; clear hb hbox hg; have hnb55 := NB377_368.out; have hnc55 := NB368_377.out; have hcz56_0 : w54.cell? ⟨gb377, 0, none⟩ = some (.int .i64 0) := (blk_cell BK377.out 0).trans rfl; have hcz56_1 : w54.cell? ⟨gb377, 1, none⟩ = some (.int .i64 0) := (blk_cell BK377.out 1).trans rfl; have hcz56_2 : w54.cell? ⟨gb377, 2, none⟩ = some (.int .i64 0) := (blk_cell BK377.out 2).trans rfl; have hfz56_0 := blk_frozen BK377.out 0; have hfz56_1 := blk_frozen BK377.out 1; have hfz56_2 := blk_frozen BK377.out 2; have hcz57_0 : w54.cell? ⟨gb368, 0, none⟩ = some (.int .i64 t364) := (blk_cell BK368.out 0).trans rfl; have hcz57_1 : w54.cell? ⟨gb368, 1, none⟩ = some (.int .i64 t365) := (blk_cell BK368.out 1).trans rfl; have hcz57_2 : w54.cell? ⟨gb368, 2, none⟩ = some (.int .i64 t366) := (blk_cell BK368.out 2).trans rfl; have hfz57_0 := blk_frozen BK368.out 0; have hfz57_1 := blk_frozen BK368.out 1; have hfz57_2 := blk_frozen BK368.out 2) | ((with_reducible refine gate_callee (f := 34) rfl ?_); refine goesL_ (some 80) rfl rfl Try.func34 (by kernel_rfl) rfl #[.agg #[.int .i64 t364, .int .i64 t365, .int .i64 t366]] rfl (by (try simp only [List.map_toArray, List.map_cons, List.map_nil]); first | done | rfl | (simp only [List.length_drop, List.length_take]; rfl)) ?_; (with_reducible refine (chattelref09_Next.calls kj20 t364 t365 t366 t378 t379 t380 false _ A38.out).mono ?_); rintro e w58 ⟨rfl, hb⟩; refine ⟨_, rfl, ?_⟩; replace HO_21 := Aside0.mk (Kd.R_below (by (with_reducible repeat (first | apply Kd.R_alloc | apply Kd.R_drewN | apply Kd.R_drew)); exact (Kd.R_mono (Kd.R_far (p := ⟨gb377, 2, none⟩) (Kd.R_far (p := ⟨gb377, 1, none⟩) (Kd.R_far (p := ⟨gb377, 0, none⟩) (Kd.R_types HO_21.out BK377.out (by decide)) (fun _ hk => hk.2) (.int .i64 t373)) (fun _ hk => hk.2) (.int .i64 t374)) (fun _ hk => hk.2) (.int .i64 t375)) (fun _ h_ => h_.1))) hb); replace BK368 := Aside0.mk (blk_below (g := gb368) (o := .cells #[.int .i64 t364, .int .i64 t365, .int .i64 t366] 23 (0, 0)) (by (with_reducible repeat (first | refine blk_drewN ?_ _ | refine blk_drew ?_ | refine blk_alloc ?_ _)); refine blk_far ?_ NB368_377.out _; (with_reducible repeat (first | refine blk_drewN ?_ _ | refine blk_drew ?_ | refine blk_alloc ?_ _)); refine blk_far ?_ NB368_377.out _; (with_reducible repeat (first | refine blk_drewN ?_ _ | refine blk_drew ?_ | refine blk_alloc ?_ _)); refine blk_far ?_ NB368_377.out _; (with_reducible repeat (first | refine blk_drewN ?_ _ | refine blk_drew ?_ | refine blk_alloc ?_ _)); exact BK368.out) hb); replace BK377 := Aside0.mk (blk_below (g := gb377) (o := .cells #[.int .i64 t373, .int .i64 t374, .int .i64 t375] 23 (0, 0)) (by (with_reducible repeat (first | refine blk_drewN ?_ _ | refine blk_drew ?_ | refine blk_alloc ?_ _)); refine blk_put (cs := #[.int .i64 t373, .int .i64 t374, .int .i64 0]) ?_ 2 _ rfl; (with_reducible repeat (first | refine blk_drewN ?_ _ | refine blk_drew ?_ | refine blk_alloc ?_ _)); refine blk_put (cs := #[.int .i64 t373, .int .i64 0, .int .i64 0]) ?_ 1 _ rfl; (with_reducible repeat (first | refine blk_drewN ?_ _ | refine blk_drew ?_ | refine blk_alloc ?_ _)); refine blk_put (cs := #[.int .i64 0, .int .i64 0, .int .i64 0]) ?_ 0 _ rfl; (with_reducible repeat (first | refine blk_drewN ?_ _ | refine blk_drew ?_ | refine blk_alloc ?_ _)); exact BK377.out) hb); replace HB := Aside0.mk (below_step (by repeat (first | (with_reducible first | exact HB.out | apply below_alloc | apply pw_below_drewN | apply below_drew1 | refine below_set ?_ GE368.out | refine below_set ?_ GE377.out) | exact HB.out)) hb); (try clear hb); (try clear hb2); (try clear hk); (try clear hi)) | ((with_reducible refine gate_dst (N := 11) rfl ?_); refine box_event ?hg (N := 11) ?hd (cs := #[.int .i64 0, .int .i64 0, .int .i64 0]) (t := 23) ?hr ?_; (case hd => rfl); (case hg => rfl); (case hr => first | (go_simp; done) | (go_simp; rfl)); intro gb382 hg w59 hbox hb; have n0_ := Aside0.mk (rb HO_21.out hb); have n1_ := Aside0.mk (bb BK368.out hb); have n2_ := Aside0.mk (bb BK377.out hb); have n3_ := Aside0.mk (bs HB.out hb); have n4_ := Aside0.mk (hbox); have n5_ := Aside0.mk ((by rw [hg]; exact (bz HB.out) : w.heap.size ≤ gb382)); have n6_ := Aside0.mk ((by rw [hg]; exact (bz HB.out) : w.heap.size ≤ gb382)); have n7_ := Aside0.mk ((by rw [hg]; exact Nat.ne_of_lt (blk_lt (g := gb368) (o := .cells #[.int .i64 t364, .int .i64 t365, .int .i64 t366] 23 (0, 0)) (by (with_reducible repeat (first | refine blk_drewN ?_ _ | refine blk_drew ?_ | refine blk_alloc ?_ _)); exact BK368.out)) : gb368 ≠ gb382)); have n8_ := Aside0.mk ((by rw [hg]; exact Nat.ne_of_gt (blk_lt (g := gb368) (o := .cells #[.int .i64 t364, .int .i64 t365, .int .i64 t366] 23 (0, 0)) (by (with_reducible repeat (first | refine blk_drewN ?_ _ | refine blk_drew ?_ | refine blk_alloc ?_ _)); exact BK368.out)) : gb382 ≠ gb368)); have n9_ := Aside0.mk ((by rw [hg]; exact Nat.ne_of_lt (blk_lt (g := gb377) (o := .cells #[.int .i64 t373, .int .i64 t374, .int .i64 t375] 23 (0, 0)) (by (with_reducible repeat (first | refine blk_drewN ?_ _ | refine blk_drew ?_ | refine blk_alloc ?_ _)); exact BK377.out)) : gb377 ≠ gb382)); have n10_ := Aside0.mk ((by rw [hg]; exact Nat.ne_of_gt (blk_lt (g := gb377) (o := .cells #[.int .i64 t373, .int .i64 t374, .int .i64 t375] 23 (0, 0)) (by (with_reducible repeat (first | refine blk_drewN ?_ _ | refine blk_drew ?_ | refine blk_alloc ?_ _)); exact BK377.out)) : gb382 ≠ gb377)); clear HO_21; clear BK368; clear BK377; clear HB; have HO_21 := n0_; have BK368 := n1_; have BK377 := n2_; have HB := n3_; have BK382 := n4_; have GW382 := n5_; have GE382 := n6_; have NB368_382 := n7_; have NB382_368 := n8_; have NB377_382 := n9_; have NB382_377 := n10_; clear n0_ n1_ n2_ n3_ n4_ n5_ n6_ n7_ n8_ n9_ n10_; clear hb hbox hg; have hnb60 := NB382_368.out; have hnc60 := NB368_382.out; have hnb61 := NB382_377.out; have hnc61 := NB377_382.out; have hcz62_0 : w59.cell? ⟨gb382, 0, none⟩ = some (.int .i64 0) := (blk_cell BK382.out 0).trans rfl; have hcz62_1 : w59.cell? ⟨gb382, 1, none⟩ = some (.int .i64 0) := (blk_cell BK382.out 1).trans rfl; have hcz62_2 : w59.cell? ⟨gb382, 2, none⟩ = some (.int .i64 0) := (blk_cell BK382.out 2).trans rfl; have hfz62_0 := blk_frozen BK382.out 0; have hfz62_1 := blk_frozen BK382.out 1; have hfz62_2 := blk_frozen BK382.out 2))
                        go_roundg kj20
                        case measure => have := HK1.out; have := HJ10.out; have := HJ20.out; omega
                        case rel => exact ⟨(wrap64 (x23_1 + 1)), (by first | rfl | (simp; done) | (simp [*]; done)), H', ⟨by have := HK1.out; have := HJ10.out; have := HJ20.out; omega⟩, ⟨by (with_reducible repeat (first | apply Kd.R_alloc | apply Kd.R_drewN | apply Kd.R_drew)); exact Kd.R_mono (Kd.R_far (p := ⟨gb382, 2, none⟩) (Kd.R_far (p := ⟨gb382, 1, none⟩) (Kd.R_far (p := ⟨gb382, 0, none⟩) (Kd.R_types HO_21.out BK382.out (by decide)) (fun _ hk => hk.2) (.int .i64 t378)) (fun _ hk => hk.2) (.int .i64 t379)) (fun _ hk => hk.2) (.int .i64 t380)) (fun _ hk => trivial)⟩, ⟨by repeat (first | (with_reducible first | exact HB.out | apply below_alloc | apply pw_below_drewN | apply below_drew1 | refine below_set ?_ GE368.out | refine below_set ?_ GE377.out | refine below_set ?_ GE382.out) | exact HB.out)⟩⟩
      · rw [if_neg c7] at H
        have c7b0 : decide (x23_1 < (y359.length : Int)) = false := decide_eq_false c7
        clear c7
        replace H := Option.bind_eq_some_iff.mp H
        obtain ⟨t362, A630, H⟩ := H
        replace H : (some t362) = some r := H
        have A63 := Aside0.mk A630
        clear A630
        obtain rfl := Option.some.inj H
        go_wp2_with (first | ((with_reducible refine gate_callee (f := 32) rfl ?_); refine goesL_ (some 96) rfl rfl Try.func32 (by kernel_rfl) rfl #[] rfl (by (try simp only [List.map_toArray, List.map_cons, List.map_nil]); first | done | rfl | (simp only [List.length_drop, List.length_take]; rfl)) ?_; (with_reducible refine (chattellaw09_wakes.calls k1  t362 _ A63.out).mono ?_); rintro e w64 ⟨rfl, hb⟩; refine ⟨_, rfl, ?_⟩; replace HO_21 := Aside0.mk (rb HO_21.out hb); replace HB := Aside0.mk (bs HB.out hb); (try clear hb); (try clear hb2); (try clear hk); (try clear hi)))
        go_ret
        exact ⟨by first | rfl | (simp [errW_none, errW_some] <;> rfl) | (simp only [← hji2]; first | rfl | (simp [errW_none, errW_some] <;> rfl)) | (simp [*, errW_none, errW_some] <;> rfl), by repeat (first | (with_reducible first | exact HB.out | apply below_alloc | apply pw_below_drewN | apply below_drew1) | exact HB.out)⟩

/-- THE ONE PURE STATEMENT of chattellaw09_DateBack: yours. -/
def chattellaw09_DateBack.Pure : Prop := ∀ (a0 : Int), (Lit.int .i64 a0).wf = true → ∃ k, chattellaw09_DateBack.f k a0 = some true
theorem chattellaw09_DateBack.walk (P : chattellaw09_DateBack.Pure) (a0 : Int) (w : World) (w0 : (Lit.int .i64 a0).wf = true) :
    Calls Try.prog 7 #[.int .i64 a0] w fun e w' => e = .returned (.bool true) ∧ Below w.heap.size w w' := by
  obtain ⟨k, h⟩ := P a0 w0
  refine (chattellaw09_DateBack.calls k a0 true w h rfl).mono ?_
  rintro e w' ⟨rfl, hd⟩
  exact ⟨rfl, hd⟩

end Go.Proofs.Ytfikfmediheioaa.F
