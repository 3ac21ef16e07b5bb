-- Written by this session's printer (wip/tools), out of the translation's own print. Lean checks it.
import Derived.Test.YtfikfmediheioaaF0
namespace Go.Proofs.Ytfikfmediheioaa.F
open Go.RowKit Go.Proofs.YtfikfmediheioaaW.PrintWords Go.Proofs.YtfikfmediheioaaW.PrintLast Go.Proofs.YtfikfmediheioaaW.PrintMore Go.Proofs.YtfikfmediheioaaX
attribute [local go_sem] max2_int cell_some
attribute [local go_sem] max2_int min2_int max_two min_two max_three min_three max_four min_four   -- for this text's walks alone
set_option linter.unusedVariables false
set_option linter.unusedSimpArgs false

/-! ### chattelref09_Cmp: function 39 -/
def chattelref09_Cmp.l0 : Nat → List Int → List Int → Int → Option (Int)
  | 0, _, _, _ => none
  | k + 1, x5, x6, x7 => if x7 < 3 then (if 0 ≤ x7 then (if x7 < (x5.length : Int) then (if x7 < (x6.length : Int) then (if (rd x5 x7) < (rd x6 x7) then (some (-1)) else (if (rd x5 x7) > (rd x6 x7) then (some 1) else (chattelref09_Cmp.l0 k x5 x6 (wrap64 (x7 + 1))))) else (none)) else (none)) else (none)) else (some 0)
def chattelref09_Cmp.f (k : Nat) (a0_0 : Int) (a0_1 : Int) (a0_2 : Int) (a1_0 : Int) (a1_1 : Int) (a1_2 : Int) : Option (Int) := chattelref09_Cmp.l0 k (([a0_0, a0_1, a0_2] : List Int)) (([a1_0, a1_1, a1_2] : List Int)) 0
theorem chattelref09_Cmp.mono_l : ∀ k, (∀ y0 y1 y2, LeO (chattelref09_Cmp.l0 k y0 y1 y2) (chattelref09_Cmp.l0 (k + 1) y0 y1 y2))
  | 0 => fun _ _ _ r h => by simp [chattelref09_Cmp.l0] at h
  | k + 1 => by
    have ih0 := chattelref09_Cmp.mono_l k
    · intro y0 y1 y2
      unfold chattelref09_Cmp.l0
      repeat' first
      | (with_reducible exact ih0 _ _ _)
      | (with_reducible exact LeO.refl _)
      | (with_reducible exact LeO.none _)
      | (with_reducible refine LeO.ite ?_ ?_)
      | (with_reducible refine LeO.bind ?_ (fun _ => ?_))
      | exact ih0 _ _ _
      | exact LeO.none _
      | refine LeO.ite ?_ ?_
      | refine LeO.bind ?_ (fun _ => ?_)
theorem chattelref09_Cmp.mono : ∀ a0 a1 a2 a3 a4 a5 k, LeO (chattelref09_Cmp.f k a0 a1 a2 a3 a4 a5) (chattelref09_Cmp.f (k + 1) a0 a1 a2 a3 a4 a5) := by
  intro a0 a1 a2 a3 a4 a5 k
  have ih0 := chattelref09_Cmp.mono_l k
  unfold chattelref09_Cmp.f
  repeat' first
      | (with_reducible exact ih0 _ _ _)
      | (with_reducible exact LeO.refl _)
      | (with_reducible exact LeO.none _)
      | (with_reducible refine LeO.ite ?_ ?_)
      | (with_reducible refine LeO.bind ?_ (fun _ => ?_))
      | exact ih0 _ _ _
      | exact LeO.none _
      | refine LeO.ite ?_ ?_
      | refine LeO.bind ?_ (fun _ => ?_)
set_option maxHeartbeats 8000000 in
set_option maxRecDepth 100000 in
theorem chattelref09_Cmp.calls (k : Nat) (a0_0 : Int) (a0_1 : Int) (a0_2 : Int) (a1_0 : Int) (a1_1 : Int) (a1_2 : Int) (r : Int) (w : World) (h : chattelref09_Cmp.f k a0_0 a0_1 a0_2 a1_0 a1_1 a1_2 = some r) :
    Calls Try.prog 39 #[.agg #[.int .i64 a0_0, .int .i64 a0_1, .int .i64 a0_2], .agg #[.int .i64 a1_0, .int .i64 a1_1, .int .i64 a1_2]] w fun e w' => e = .returned (.int .i64 r) ∧ Below w.heap.size w w' := by
  have hu23 := Try.underlying23
  have HB := Aside0.mk (Below.refl w.heap.size w)
  have H : (chattelref09_Cmp.l0 k (([a0_0, a0_1, a0_2] : List Int)) (([a1_0, a1_1, a1_2] : List Int)) 0) = some r := h
  clear h
  obtain ⟨y492, hy492⟩ : ∃ y_ : List Int, y_ = (([a0_0, a0_1, a0_2] : List Int)) := ⟨_, rfl⟩
  replace H : (chattelref09_Cmp.l0 k y492 (([a1_0, a1_1, a1_2] : List Int)) 0) = some r := by first | (rw [hy492]; with_reducible exact H) | (have H2_ := (Option.bind_some _ _).symm.trans H; rw [hy492]; with_reducible exact H2_) | (have H2_ := (Option.bind_some _ _).symm.trans H; with_reducible exact H2_) | with_reducible exact H | (rw [hy492]; exact H) | exact H
  have Ny492 := Aside0.mk hy492
  clear hy492
  obtain ⟨y495, hy495⟩ : ∃ y_ : List Int, y_ = (([a1_0, a1_1, a1_2] : List Int)) := ⟨_, rfl⟩
  replace H : (chattelref09_Cmp.l0 k y492 y495 0) = some r := by first | (rw [hy495]; with_reducible exact H) | (have H2_ := (Option.bind_some _ _).symm.trans H; rw [hy495]; with_reducible exact H2_) | (have H2_ := (Option.bind_some _ _).symm.trans H; with_reducible exact H2_) | with_reducible exact H | (rw [hy495]; exact H) | exact H
  have Ny495 := Aside0.mk hy495
  clear hy495
  have H' := Aside0.mk H
  clear H
  go_enter Try.func39, Try.ntmps39
  go_wp2_with (first | ((with_reducible refine gate_dst (N := 2) rfl ?_); refine box_event ?hg (N := 2) ?hd (cs := #[.int .i64 a0_0, .int .i64 a0_1, .int .i64 a0_2]) (t := 23) ?hr ?_; (case hd => rfl); (case hg => rfl); (case hr => first | (go_simp; done) | (go_simp; rfl)); intro gb490 hg w3 hbox hb; have n0_ := Aside0.mk (below_step (by repeat (first | (with_reducible first | exact HB.out | apply below_alloc | apply pw_below_drewN | apply below_drew1) | exact HB.out)) hb); have n1_ := Aside0.mk (hbox); have n2_ := Aside0.mk ((by rw [hg]; exact (below_size (by repeat (first | (with_reducible first | exact HB.out | apply below_alloc | apply pw_below_drewN | apply below_drew1) | exact HB.out))) : w.heap.size ≤ gb490)); have n3_ := Aside0.mk ((by rw [hg]; exact (below_size (by repeat (first | (with_reducible first | exact HB.out | apply below_alloc | apply pw_below_drewN | apply below_drew1) | exact HB.out))) : w.heap.size ≤ gb490)); clear HB; have HB := n0_; have BK490 := n1_; have GW490 := n2_; have GE490 := n3_; clear n0_ n1_ n2_ n3_; clear hb hbox hg) | ((with_reducible refine gate_dst (N := 3) rfl ?_); refine box_event ?hg (N := 3) ?hd (cs := #[.int .i64 a1_0, .int .i64 a1_1, .int .i64 a1_2]) (t := 23) ?hr ?_; (case hd => rfl); (case hg => rfl); (case hr => first | (go_simp; done) | (go_simp; rfl)); intro gb491 hg w4 hbox hb; have n0_ := Aside0.mk (bb BK490.out hb); have n1_ := Aside0.mk (bs HB.out hb); have n2_ := Aside0.mk (hbox); have n3_ := Aside0.mk ((by rw [hg]; exact (bz HB.out) : w.heap.size ≤ gb491)); have n4_ := Aside0.mk ((by rw [hg]; exact (bz HB.out) : w.heap.size ≤ gb491)); have n5_ := Aside0.mk ((by rw [hg]; exact Nat.ne_of_lt (blk_lt (g := gb490) (o := .cells #[.int .i64 a0_0, .int .i64 a0_1, .int .i64 a0_2] 23 (0, 0)) (by (with_reducible repeat (first | refine blk_drewN ?_ _ | refine blk_drew ?_ | refine blk_alloc ?_ _)); exact BK490.out)) : gb490 ≠ gb491)); have n6_ := Aside0.mk ((by rw [hg]; exact Nat.ne_of_gt (blk_lt (g := gb490) (o := .cells #[.int .i64 a0_0, .int .i64 a0_1, .int .i64 a0_2] 23 (0, 0)) (by (with_reducible repeat (first | refine blk_drewN ?_ _ | refine blk_drew ?_ | refine blk_alloc ?_ _)); exact BK490.out)) : gb491 ≠ gb490)); clear BK490; clear HB; have BK490 := n0_; have HB := n1_; have BK491 := n2_; have GW491 := n3_; have GE491 := n4_; have NB490_491 := n5_; have NB491_490 := n6_; clear n0_ n1_ n2_ n3_ n4_ n5_ n6_; clear hb hbox hg; have hnb5 := NB490_491.out; have hnc5 := NB491_490.out; have hcz6_0 : w4.cell? ⟨gb490, 0, none⟩ = some (.int .i64 a0_0) := (blk_cell BK490.out 0).trans rfl; have hcz6_1 : w4.cell? ⟨gb490, 1, none⟩ = some (.int .i64 a0_1) := (blk_cell BK490.out 1).trans rfl; have hcz6_2 : w4.cell? ⟨gb490, 2, none⟩ = some (.int .i64 a0_2) := (blk_cell BK490.out 2).trans rfl; have hfz6_0 := blk_frozen BK490.out 0; have hfz6_1 := blk_frozen BK490.out 1; have hfz6_2 := blk_frozen BK490.out 2) | ((with_reducible refine gate_dst (N := 14) rfl ?_); refine Kd.R_lit (Kd.int .i64) _ 3 ?hg (N := 14) ?hd (xs := ([a0_0, a0_1, a0_2] : List Int)) (inner := [.int .i64 a0_0, .int .i64 a0_1, .int .i64 a0_2]) (ok := fun _ => True) (okp := fun _ => True) ?hr ?hp (fun _ hk => hk) trivial (Below.refl _ _) (Nat.le_refl _) (by simp) ?_; (case hd => rfl); (case hg => rfl); (case hr => first | (go_simp; done) | (go_simp; rfl)); (case hp => exact (Reps.one (show Kd.M (Kd.int .i64) _ _ _ a0_0 [.int .i64 a0_0] from rfl) (Reps.one (show Kd.M (Kd.int .i64) _ _ _ a0_1 [.int .i64 a0_1] from rfl) (Reps.one (show Kd.M (Kd.int .i64) _ _ _ a0_2 [.int .i64 a0_2] from rfl) (Reps.none _ _))))); intro v493 w7 ho8 hb hg_ hnew_; clear hg_ hnew_; (first | rw [← Ny492.out] at ho8 | (simp only [Int.reduceToNat] at ho8; rw [← Ny492.out] at ho8)); have HO494 := Aside0.mk (Kd.R_lower ho8 (bz HB.out)); replace BK490 := Aside0.mk (bb BK490.out hb); replace BK491 := Aside0.mk (bb BK491.out hb); replace HB := Aside0.mk (bs HB.out hb); clear hb ho8; have hcz9_0 : w7.cell? ⟨gb491, 0, none⟩ = some (.int .i64 a1_0) := (blk_cell BK491.out 0).trans rfl; have hcz9_1 : w7.cell? ⟨gb491, 1, none⟩ = some (.int .i64 a1_1) := (blk_cell BK491.out 1).trans rfl; have hcz9_2 : w7.cell? ⟨gb491, 2, none⟩ = some (.int .i64 a1_2) := (blk_cell BK491.out 2).trans rfl; have hfz9_0 := blk_frozen BK491.out 0; have hfz9_1 := blk_frozen BK491.out 1; have hfz9_2 := blk_frozen BK491.out 2) | ((with_reducible refine gate_dst (N := 21) rfl ?_); refine Kd.R_lit (Kd.int .i64) _ 3 ?hg (N := 21) ?hd (xs := ([a1_0, a1_1, a1_2] : List Int)) (inner := [.int .i64 a1_0, .int .i64 a1_1, .int .i64 a1_2]) (ok := fun _ => True) (okp := fun _ => True) ?hr ?hp (fun _ hk => hk) trivial (Below.refl _ _) (Nat.le_refl _) (by simp) ?_; (case hd => rfl); (case hg => rfl); (case hr => first | (go_simp; done) | (go_simp; rfl)); (case hp => exact (Reps.one (show Kd.M (Kd.int .i64) _ _ _ a1_0 [.int .i64 a1_0] from rfl) (Reps.one (show Kd.M (Kd.int .i64) _ _ _ a1_1 [.int .i64 a1_1] from rfl) (Reps.one (show Kd.M (Kd.int .i64) _ _ _ a1_2 [.int .i64 a1_2] from rfl) (Reps.none _ _))))); intro v496 w10 ho11 hb hg_ hnew_; clear hg_ hnew_; (first | rw [← Ny495.out] at ho11 | (simp only [Int.reduceToNat] at ho11; rw [← Ny495.out] at ho11)); have n0_ := Aside0.mk (Kd.R_elder' (by (with_reducible repeat (first | apply Kd.R_alloc | apply Kd.R_drewN | apply Kd.R_drew)); exact HO494.out) (Kd.R_base ho11) hb); have n1_ := Aside0.mk (Kd.R_lower (Kd.R_new' ho11 (Kd.R_lt (by (with_reducible repeat (first | apply Kd.R_alloc | apply Kd.R_drewN | apply Kd.R_drew)); exact HO494.out))) (bz HB.out)); have n2_ := Aside0.mk (bb BK490.out hb); have n3_ := Aside0.mk (bb BK491.out hb); have n4_ := Aside0.mk (bs HB.out hb); clear HO494; clear BK490; clear BK491; clear HB; have HO494 := n0_; have HO497 := n1_; have BK490 := n2_; have BK491 := n3_; have HB := n4_; clear n0_ n1_ n2_ n3_ n4_; clear hb ho11))
  repeat (go_quiet (first | ((with_reducible refine gate_dst (N := 2) rfl ?_); refine box_event ?hg (N := 2) ?hd (cs := #[.int .i64 a0_0, .int .i64 a0_1, .int .i64 a0_2]) (t := 23) ?hr ?_; (case hd => rfl); (case hg => rfl); (case hr => first | (go_simp; done) | (go_simp; rfl)); intro gb490 hg w3 hbox hb; have n0_ := Aside0.mk (below_step (by repeat (first | (with_reducible first | exact HB.out | apply below_alloc | apply pw_below_drewN | apply below_drew1) | exact HB.out)) hb); have n1_ := Aside0.mk (hbox); have n2_ := Aside0.mk ((by rw [hg]; exact (below_size (by repeat (first | (with_reducible first | exact HB.out | apply below_alloc | apply pw_below_drewN | apply below_drew1) | exact HB.out))) : w.heap.size ≤ gb490)); have n3_ := Aside0.mk ((by rw [hg]; exact (below_size (by repeat (first | (with_reducible first | exact HB.out | apply below_alloc | apply pw_below_drewN | apply below_drew1) | exact HB.out))) : w.heap.size ≤ gb490)); clear HB; have HB := n0_; have BK490 := n1_; have GW490 := n2_; have GE490 := n3_; clear n0_ n1_ n2_ n3_; clear hb hbox hg) | ((with_reducible refine gate_dst (N := 3) rfl ?_); refine box_event ?hg (N := 3) ?hd (cs := #[.int .i64 a1_0, .int .i64 a1_1, .int .i64 a1_2]) (t := 23) ?hr ?_; (case hd => rfl); (case hg => rfl); (case hr => first | (go_simp; done) | (go_simp; rfl)); intro gb491 hg w4 hbox hb; have n0_ := Aside0.mk (bb BK490.out hb); have n1_ := Aside0.mk (bs HB.out hb); have n2_ := Aside0.mk (hbox); have n3_ := Aside0.mk ((by rw [hg]; exact (bz HB.out) : w.heap.size ≤ gb491)); have n4_ := Aside0.mk ((by rw [hg]; exact (bz HB.out) : w.heap.size ≤ gb491)); have n5_ := Aside0.mk ((by rw [hg]; exact Nat.ne_of_lt (blk_lt (g := gb490) (o := .cells #[.int .i64 a0_0, .int .i64 a0_1, .int .i64 a0_2] 23 (0, 0)) (by (with_reducible repeat (first | refine blk_drewN ?_ _ | refine blk_drew ?_ | refine blk_alloc ?_ _)); exact BK490.out)) : gb490 ≠ gb491)); have n6_ := Aside0.mk ((by rw [hg]; exact Nat.ne_of_gt (blk_lt (g := gb490) (o := .cells #[.int .i64 a0_0, .int .i64 a0_1, .int .i64 a0_2] 23 (0, 0)) (by (with_reducible repeat (first | refine blk_drewN ?_ _ | refine blk_drew ?_ | refine blk_alloc ?_ _)); exact BK490.out)) : gb491 ≠ gb490)); clear BK490; clear HB; have BK490 := n0_; have HB := n1_; have BK491 := n2_; have GW491 := n3_; have GE491 := n4_; have NB490_491 := n5_; have NB491_490 := n6_; clear n0_ n1_ n2_ n3_ n4_ n5_ n6_; clear hb hbox hg; have hnb5 := NB490_491.out; have hnc5 := NB491_490.out; have hcz6_0 : w4.cell? ⟨gb490, 0, none⟩ = some (.int .i64 a0_0) := (blk_cell BK490.out 0).trans rfl; have hcz6_1 : w4.cell? ⟨gb490, 1, none⟩ = some (.int .i64 a0_1) := (blk_cell BK490.out 1).trans rfl; have hcz6_2 : w4.cell? ⟨gb490, 2, none⟩ = some (.int .i64 a0_2) := (blk_cell BK490.out 2).trans rfl; have hfz6_0 := blk_frozen BK490.out 0; have hfz6_1 := blk_frozen BK490.out 1; have hfz6_2 := blk_frozen BK490.out 2) | ((with_reducible refine gate_dst (N := 14) rfl ?_); refine Kd.R_lit (Kd.int .i64) _ 3 ?hg (N := 14) ?hd (xs := ([a0_0, a0_1, a0_2] : List Int)) (inner := [.int .i64 a0_0, .int .i64 a0_1, .int .i64 a0_2]) (ok := fun _ => True) (okp := fun _ => True) ?hr ?hp (fun _ hk => hk) trivial (Below.refl _ _) (Nat.le_refl _) (by simp) ?_; (case hd => rfl); (case hg => rfl); (case hr => first | (go_simp; done) | (go_simp; rfl)); (case hp => exact (Reps.one (show Kd.M (Kd.int .i64) _ _ _ a0_0 [.int .i64 a0_0] from rfl) (Reps.one (show Kd.M (Kd.int .i64) _ _ _ a0_1 [.int .i64 a0_1] from rfl) (Reps.one (show Kd.M (Kd.int .i64) _ _ _ a0_2 [.int .i64 a0_2] from rfl) (Reps.none _ _))))); intro v493 w7 ho8 hb hg_ hnew_; clear hg_ hnew_; (first | rw [← Ny492.out] at ho8 | (simp only [Int.reduceToNat] at ho8; rw [← Ny492.out] at ho8)); have HO494 := Aside0.mk (Kd.R_lower ho8 (bz HB.out)); replace BK490 := Aside0.mk (bb BK490.out hb); replace BK491 := Aside0.mk (bb BK491.out hb); replace HB := Aside0.mk (bs HB.out hb); clear hb ho8; have hcz9_0 : w7.cell? ⟨gb491, 0, none⟩ = some (.int .i64 a1_0) := (blk_cell BK491.out 0).trans rfl; have hcz9_1 : w7.cell? ⟨gb491, 1, none⟩ = some (.int .i64 a1_1) := (blk_cell BK491.out 1).trans rfl; have hcz9_2 : w7.cell? ⟨gb491, 2, none⟩ = some (.int .i64 a1_2) := (blk_cell BK491.out 2).trans rfl; have hfz9_0 := blk_frozen BK491.out 0; have hfz9_1 := blk_frozen BK491.out 1; have hfz9_2 := blk_frozen BK491.out 2) | ((with_reducible refine gate_dst (N := 21) rfl ?_); refine Kd.R_lit (Kd.int .i64) _ 3 ?hg (N := 21) ?hd (xs := ([a1_0, a1_1, a1_2] : List Int)) (inner := [.int .i64 a1_0, .int .i64 a1_1, .int .i64 a1_2]) (ok := fun _ => True) (okp := fun _ => True) ?hr ?hp (fun _ hk => hk) trivial (Below.refl _ _) (Nat.le_refl _) (by simp) ?_; (case hd => rfl); (case hg => rfl); (case hr => first | (go_simp; done) | (go_simp; rfl)); (case hp => exact (Reps.one (show Kd.M (Kd.int .i64) _ _ _ a1_0 [.int .i64 a1_0] from rfl) (Reps.one (show Kd.M (Kd.int .i64) _ _ _ a1_1 [.int .i64 a1_1] from rfl) (Reps.one (show Kd.M (Kd.int .i64) _ _ _ a1_2 [.int .i64 a1_2] from rfl) (Reps.none _ _))))); intro v496 w10 ho11 hb hg_ hnew_; clear hg_ hnew_; (first | rw [← Ny495.out] at ho11 | (simp only [Int.reduceToNat] at ho11; rw [← Ny495.out] at ho11)); have n0_ := Aside0.mk (Kd.R_elder' (by (with_reducible repeat (first | apply Kd.R_alloc | apply Kd.R_drewN | apply Kd.R_drew)); exact HO494.out) (Kd.R_base ho11) hb); have n1_ := Aside0.mk (Kd.R_lower (Kd.R_new' ho11 (Kd.R_lt (by (with_reducible repeat (first | apply Kd.R_alloc | apply Kd.R_drewN | apply Kd.R_drew)); exact HO494.out))) (bz HB.out)); have n2_ := Aside0.mk (bb BK490.out hb); have n3_ := Aside0.mk (bb BK491.out hb); have n4_ := Aside0.mk (bs HB.out hb); clear HO494; clear BK490; clear BK491; clear HB; have HO494 := n0_; have HO497 := n1_; have BK490 := n2_; have BK491 := n3_; have HB := n4_; clear n0_ n1_ n2_ n3_ n4_; clear hb ho11)); try go_wp2_with (first | ((with_reducible refine gate_dst (N := 2) rfl ?_); refine box_event ?hg (N := 2) ?hd (cs := #[.int .i64 a0_0, .int .i64 a0_1, .int .i64 a0_2]) (t := 23) ?hr ?_; (case hd => rfl); (case hg => rfl); (case hr => first | (go_simp; done) | (go_simp; rfl)); intro gb490 hg w3 hbox hb; have n0_ := Aside0.mk (below_step (by repeat (first | (with_reducible first | exact HB.out | apply below_alloc | apply pw_below_drewN | apply below_drew1) | exact HB.out)) hb); have n1_ := Aside0.mk (hbox); have n2_ := Aside0.mk ((by rw [hg]; exact (below_size (by repeat (first | (with_reducible first | exact HB.out | apply below_alloc | apply pw_below_drewN | apply below_drew1) | exact HB.out))) : w.heap.size ≤ gb490)); have n3_ := Aside0.mk ((by rw [hg]; exact (below_size (by repeat (first | (with_reducible first | exact HB.out | apply below_alloc | apply pw_below_drewN | apply below_drew1) | exact HB.out))) : w.heap.size ≤ gb490)); clear HB; have HB := n0_; have BK490 := n1_; have GW490 := n2_; have GE490 := n3_; clear n0_ n1_ n2_ n3_; clear hb hbox hg) | ((with_reducible refine gate_dst (N := 3) rfl ?_); refine box_event ?hg (N := 3) ?hd (cs := #[.int .i64 a1_0, .int .i64 a1_1, .int .i64 a1_2]) (t := 23) ?hr ?_; (case hd => rfl); (case hg => rfl); (case hr => first | (go_simp; done) | (go_simp; rfl)); intro gb491 hg w4 hbox hb; have n0_ := Aside0.mk (bb BK490.out hb); have n1_ := Aside0.mk (bs HB.out hb); have n2_ := Aside0.mk (hbox); have n3_ := Aside0.mk ((by rw [hg]; exact (bz HB.out) : w.heap.size ≤ gb491)); have n4_ := Aside0.mk ((by rw [hg]; exact (bz HB.out) : w.heap.size ≤ gb491)); have n5_ := Aside0.mk ((by rw [hg]; exact Nat.ne_of_lt (blk_lt (g := gb490) (o := .cells #[.int .i64 a0_0, .int .i64 a0_1, .int .i64 a0_2] 23 (0, 0)) (by (with_reducible repeat (first | refine blk_drewN ?_ _ | refine blk_drew ?_ | refine blk_alloc ?_ _)); exact BK490.out)) : gb490 ≠ gb491)); have n6_ := Aside0.mk ((by rw [hg]; exact Nat.ne_of_gt (blk_lt (g := gb490) (o := .cells #[.int .i64 a0_0, .int .i64 a0_1, .int .i64 a0_2] 23 (0, 0)) (by (with_reducible repeat (first | refine blk_drewN ?_ _ | refine blk_drew ?_ | refine blk_alloc ?_ _)); exact BK490.out)) : gb491 ≠ gb490)); clear BK490; clear HB; have BK490 := n0_; have HB := n1_; have BK491 := n2_; have GW491 := n3_; have GE491 := n4_; have NB490_491 := n5_; have NB491_490 := n6_; clear n0_ n1_ n2_ n3_ n4_ n5_ n6_; clear hb hbox hg; have hnb5 := NB490_491.out; have hnc5 := NB491_490.out; have hcz6_0 : w4.cell? ⟨gb490, 0, none⟩ = some (.int .i64 a0_0) := (blk_cell BK490.out 0).trans rfl; have hcz6_1 : w4.cell? ⟨gb490, 1, none⟩ = some (.int .i64 a0_1) := (blk_cell BK490.out 1).trans rfl; have hcz6_2 : w4.cell? ⟨gb490, 2, none⟩ = some (.int .i64 a0_2) := (blk_cell BK490.out 2).trans rfl; have hfz6_0 := blk_frozen BK490.out 0; have hfz6_1 := blk_frozen BK490.out 1; have hfz6_2 := blk_frozen BK490.out 2) | ((with_reducible refine gate_dst (N := 14) rfl ?_); refine Kd.R_lit (Kd.int .i64) _ 3 ?hg (N := 14) ?hd (xs := ([a0_0, a0_1, a0_2] : List Int)) (inner := [.int .i64 a0_0, .int .i64 a0_1, .int .i64 a0_2]) (ok := fun _ => True) (okp := fun _ => True) ?hr ?hp (fun _ hk => hk) trivial (Below.refl _ _) (Nat.le_refl _) (by simp) ?_; (case hd => rfl); (case hg => rfl); (case hr => first | (go_simp; done) | (go_simp; rfl)); (case hp => exact (Reps.one (show Kd.M (Kd.int .i64) _ _ _ a0_0 [.int .i64 a0_0] from rfl) (Reps.one (show Kd.M (Kd.int .i64) _ _ _ a0_1 [.int .i64 a0_1] from rfl) (Reps.one (show Kd.M (Kd.int .i64) _ _ _ a0_2 [.int .i64 a0_2] from rfl) (Reps.none _ _))))); intro v493 w7 ho8 hb hg_ hnew_; clear hg_ hnew_; (first | rw [← Ny492.out] at ho8 | (simp only [Int.reduceToNat] at ho8; rw [← Ny492.out] at ho8)); have HO494 := Aside0.mk (Kd.R_lower ho8 (bz HB.out)); replace BK490 := Aside0.mk (bb BK490.out hb); replace BK491 := Aside0.mk (bb BK491.out hb); replace HB := Aside0.mk (bs HB.out hb); clear hb ho8; have hcz9_0 : w7.cell? ⟨gb491, 0, none⟩ = some (.int .i64 a1_0) := (blk_cell BK491.out 0).trans rfl; have hcz9_1 : w7.cell? ⟨gb491, 1, none⟩ = some (.int .i64 a1_1) := (blk_cell BK491.out 1).trans rfl; have hcz9_2 : w7.cell? ⟨gb491, 2, none⟩ = some (.int .i64 a1_2) := (blk_cell BK491.out 2).trans rfl; have hfz9_0 := blk_frozen BK491.out 0; have hfz9_1 := blk_frozen BK491.out 1; have hfz9_2 := blk_frozen BK491.out 2) | ((with_reducible refine gate_dst (N := 21) rfl ?_); refine Kd.R_lit (Kd.int .i64) _ 3 ?hg (N := 21) ?hd (xs := ([a1_0, a1_1, a1_2] : List Int)) (inner := [.int .i64 a1_0, .int .i64 a1_1, .int .i64 a1_2]) (ok := fun _ => True) (okp := fun _ => True) ?hr ?hp (fun _ hk => hk) trivial (Below.refl _ _) (Nat.le_refl _) (by simp) ?_; (case hd => rfl); (case hg => rfl); (case hr => first | (go_simp; done) | (go_simp; rfl)); (case hp => exact (Reps.one (show Kd.M (Kd.int .i64) _ _ _ a1_0 [.int .i64 a1_0] from rfl) (Reps.one (show Kd.M (Kd.int .i64) _ _ _ a1_1 [.int .i64 a1_1] from rfl) (Reps.one (show Kd.M (Kd.int .i64) _ _ _ a1_2 [.int .i64 a1_2] from rfl) (Reps.none _ _))))); intro v496 w10 ho11 hb hg_ hnew_; clear hg_ hnew_; (first | rw [← Ny495.out] at ho11 | (simp only [Int.reduceToNat] at ho11; rw [← Ny495.out] at ho11)); have n0_ := Aside0.mk (Kd.R_elder' (by (with_reducible repeat (first | apply Kd.R_alloc | apply Kd.R_drewN | apply Kd.R_drew)); exact HO494.out) (Kd.R_base ho11) hb); have n1_ := Aside0.mk (Kd.R_lower (Kd.R_new' ho11 (Kd.R_lt (by (with_reducible repeat (first | apply Kd.R_alloc | apply Kd.R_drewN | apply Kd.R_drew)); exact HO494.out))) (bz HB.out)); have n2_ := Aside0.mk (bb BK490.out hb); have n3_ := Aside0.mk (bb BK491.out hb); have n4_ := Aside0.mk (bs HB.out hb); clear HO494; clear BK490; clear BK491; clear HB; have HO494 := n0_; have HO497 := n1_; have BK490 := n2_; have BK491 := n3_; have HB := n4_; clear n0_ n1_ n2_ n3_ n4_; clear hb ho11)))
  go_loopg [7] k (fun kq v7 w' => ∃ (x7_1 : Int), v7 = .int .i64 x7_1 ∧ Aside0 (chattelref09_Cmp.l0 kq y492 y495 x7_1 = some r) ∧ Aside0 (kq ≤ k) ∧ Aside0 (Kd.R (Kd.int .i64) 3 w' w.heap.size (fun k_ => some k_ ≠ (v496 : Value).ownBlock) v493 y492) ∧ Aside0 (Kd.R (Kd.int .i64) 3 w' w.heap.size (fun k_ => some k_ ≠ (v493 : Value).ownBlock) v496 y495) ∧ Aside0 (w'.heap[gb490]? = some (.cells #[.int .i64 a0_0, .int .i64 a0_1, .int .i64 a0_2] 23 (0, 0))) ∧ Aside0 (w'.heap[gb491]? = some (.cells #[.int .i64 a1_0, .int .i64 a1_1, .int .i64 a1_2] 23 (0, 0))) ∧ Aside0 (Below w.heap.size w w'))
  case atStart => exact ⟨(0), (by first | rfl | (simp; done) | (simp [*]; done)), H', ⟨Nat.le_refl _⟩, ⟨by (with_reducible repeat (first | apply Kd.R_alloc | apply Kd.R_drewN | apply Kd.R_drew)); exact Kd.R_mono HO494.out (fun _ hk => hk.2)⟩, ⟨by (with_reducible repeat (first | apply Kd.R_alloc | apply Kd.R_drewN | apply Kd.R_drew)); exact Kd.R_mono HO497.out (fun _ hk => hk.2)⟩, ⟨by (with_reducible repeat (first | refine blk_drewN ?_ _ | refine blk_drew ?_ | refine blk_alloc ?_ _)); exact BK490.out⟩, ⟨by (with_reducible repeat (first | refine blk_drewN ?_ _ | refine blk_drew ?_ | refine blk_alloc ?_ _)); exact BK491.out⟩, ⟨by repeat (first | (with_reducible first | exact HB.out | apply below_alloc | apply pw_below_drewN | apply below_drew1 | refine below_set ?_ GE490.out | refine below_set ?_ GE491.out) | exact HB.out)⟩⟩
  case round =>
    clear H'
    try clear p2
    try clear c3
    try clear c5
    try clear hcz6_0
    try clear hcz6_1
    try clear hcz6_2
    try clear hcz9_0
    try clear hcz9_1
    try clear hcz9_2
    try clear hfz6_0
    try clear hfz6_1
    try clear hfz6_2
    try clear hfz9_0
    try clear hfz9_1
    try clear hfz9_2
    obtain ⟨x7_1, rfl, HA, HK1, HO_5, HO_6, BK490, BK491, HB⟩ := hrel
    cases gk with
    | zero => exact absurd HA.out (by simp [chattelref09_Cmp.l0])
    | succ k1 =>
      have H := HA.out
      clear HA
      simp only [chattelref09_Cmp.l0] at H
      by_cases c12 : x7_1 < 3
      · rw [if_pos c12] at H
        have c12b0 : decide (x7_1 < 3) = true := decide_eq_true c12
        clear c12
        by_cases c13 : 0 ≤ x7_1
        rotate_left
        · rw [if_neg c13] at H
          exact absurd H (by simp)
        rw [if_pos c13] at H
        have c13b0 : decide (0 ≤ x7_1) = true := decide_eq_true c13
        clear c13
        by_cases c14 : x7_1 < (y492.length : Int)
        rotate_left
        · rw [if_neg c14] at H
          exact absurd H (by simp)
        rw [if_pos c14] at H
        have c14b0 : decide (x7_1 < (y492.length : Int)) = true := decide_eq_true c14
        clear c14
        by_cases c15 : x7_1 < (y495.length : Int)
        rotate_left
        · rw [if_neg c15] at H
          exact absurd H (by simp)
        rw [if_pos c15] at H
        have c15b0 : decide (x7_1 < (y495.length : Int)) = true := decide_eq_true c15
        clear c15
        by_cases c16 : (rd y492 x7_1) < (rd y495 x7_1)
        · rw [if_pos c16] at H
          have c16b0 : decide ((rd y492 x7_1) < (rd y495 x7_1)) = true := decide_eq_true c16
          clear c16
          obtain rfl := Option.some.inj H
          obtain ⟨Ao17, co17, eo17⟩ := Kd.R_slice HO_5.out
          subst eo17
          have p498 : 0 ≤ (x7_1 : Int) := of_decide_eq_true (by first | (with_reducible assumption) | assumption)
          have q498 : x7_1 < (y492.length : Int) := of_decide_eq_true (by first | (with_reducible assumption) | assumption)
          obtain ⟨ad498, e498, hx498_0⟩ := Kd.at_int (Kd.R_reads' HO_5.out).2.2 x7_1 p498 q498
          cases e498
          replace p498 := eq_true p498
          replace q498 := eq_true q498
          obtain ⟨Ao18, co18, eo18⟩ := Kd.R_slice HO_6.out
          subst eo18
          have p499 : 0 ≤ (x7_1 : Int) := of_decide_eq_true (by first | (with_reducible assumption) | assumption)
          have q499 : x7_1 < (y495.length : Int) := of_decide_eq_true (by first | (with_reducible assumption) | assumption)
          obtain ⟨ad499, e499, hx499_0⟩ := Kd.at_int (Kd.R_reads' HO_6.out).2.2 x7_1 p499 q499
          cases e499
          replace p499 := eq_true p499
          replace q499 := eq_true q499
          go_wp2
          repeat (go_quiet (fail); try go_wp2)
          go_ret
          exact ⟨by first | rfl | (simp [errW_none, errW_some] <;> rfl) | (simp [*, errW_none, errW_some] <;> rfl), by repeat (first | (with_reducible first | exact HB.out | apply below_alloc | apply pw_below_drewN | apply below_drew1 | refine below_set ?_ GE490.out | refine below_set ?_ GE491.out) | exact HB.out)⟩
        · rw [if_neg c16] at H
          have c16b0 : decide ((rd y492 x7_1) < (rd y495 x7_1)) = false := decide_eq_false c16
          clear c16
          by_cases c19 : (rd y492 x7_1) > (rd y495 x7_1)
          · rw [if_pos c19] at H
            have c19b0 : decide ((rd y495 x7_1) < (rd y492 x7_1)) = true := decide_eq_true c19
            clear c19
            obtain rfl := Option.some.inj H
            obtain ⟨Ao20, co20, eo20⟩ := Kd.R_slice HO_5.out
            subst eo20
            have p498 : 0 ≤ (x7_1 : Int) := of_decide_eq_true (by first | (with_reducible assumption) | assumption)
            have q498 : x7_1 < (y492.length : Int) := of_decide_eq_true (by first | (with_reducible assumption) | assumption)
            obtain ⟨ad498, e498, hx498_0⟩ := Kd.at_int (Kd.R_reads' HO_5.out).2.2 x7_1 p498 q498
            cases e498
            replace p498 := eq_true p498
            replace q498 := eq_true q498
            obtain ⟨Ao21, co21, eo21⟩ := Kd.R_slice HO_6.out
            subst eo21
            have p499 : 0 ≤ (x7_1 : Int) := of_decide_eq_true (by first | (with_reducible assumption) | assumption)
            have q499 : x7_1 < (y495.length : Int) := of_decide_eq_true (by first | (with_reducible assumption) | assumption)
            obtain ⟨ad499, e499, hx499_0⟩ := Kd.at_int (Kd.R_reads' HO_6.out).2.2 x7_1 p499 q499
            cases e499
            replace p499 := eq_true p499
            replace q499 := eq_true q499
            have p500 : 0 ≤ (x7_1 : Int) := of_decide_eq_true (by first | (with_reducible assumption) | assumption)
            have q500 : x7_1 < (y492.length : Int) := of_decide_eq_true (by first | (with_reducible assumption) | assumption)
            obtain ⟨ad500, e500, hx500_0⟩ := Kd.at_int (Kd.R_reads' HO_5.out).2.2 x7_1 p500 q500
            obtain rfl : ad498 = ad500 := (by injection e500)
            replace p500 := eq_true p500
            replace q500 := eq_true q500
            have p501 : 0 ≤ (x7_1 : Int) := of_decide_eq_true (by first | (with_reducible assumption) | assumption)
            have q501 : x7_1 < (y495.length : Int) := of_decide_eq_true (by first | (with_reducible assumption) | assumption)
            obtain ⟨ad501, e501, hx501_0⟩ := Kd.at_int (Kd.R_reads' HO_6.out).2.2 x7_1 p501 q501
            obtain rfl : ad499 = ad501 := (by injection e501)
            replace p501 := eq_true p501
            replace q501 := eq_true q501
            go_wp2
            repeat (go_quiet (fail); try go_wp2)
            go_ret
            exact ⟨by first | rfl | (simp [errW_none, errW_some] <;> rfl) | (simp [*, errW_none, errW_some] <;> rfl), by repeat (first | (with_reducible first | exact HB.out | apply below_alloc | apply pw_below_drewN | apply below_drew1 | refine below_set ?_ GE490.out | refine below_set ?_ GE491.out) | exact HB.out)⟩
          · rw [if_neg c19] at H
            have c19b0 : decide ((rd y495 x7_1) < (rd y492 x7_1)) = false := decide_eq_false c19
            clear c19
            have H' := Aside0.mk H
            clear H
            obtain ⟨Ao22, co22, eo22⟩ := Kd.R_slice HO_5.out
            subst eo22
            have p498 : 0 ≤ (x7_1 : Int) := of_decide_eq_true (by first | (with_reducible assumption) | assumption)
            have q498 : x7_1 < (y492.length : Int) := of_decide_eq_true (by first | (with_reducible assumption) | assumption)
            obtain ⟨ad498, e498, hx498_0⟩ := Kd.at_int (Kd.R_reads' HO_5.out).2.2 x7_1 p498 q498
            cases e498
            replace p498 := eq_true p498
            replace q498 := eq_true q498
            obtain ⟨Ao23, co23, eo23⟩ := Kd.R_slice HO_6.out
            subst eo23
            have p499 : 0 ≤ (x7_1 : Int) := of_decide_eq_true (by first | (with_reducible assumption) | assumption)
            have q499 : x7_1 < (y495.length : Int) := of_decide_eq_true (by first | (with_reducible assumption) | assumption)
            obtain ⟨ad499, e499, hx499_0⟩ := Kd.at_int (Kd.R_reads' HO_6.out).2.2 x7_1 p499 q499
            cases e499
            replace p499 := eq_true p499
            replace q499 := eq_true q499
            have p500 : 0 ≤ (x7_1 : Int) := of_decide_eq_true (by first | (with_reducible assumption) | assumption)
            have q500 : x7_1 < (y492.length : Int) := of_decide_eq_true (by first | (with_reducible assumption) | assumption)
            obtain ⟨ad500, e500, hx500_0⟩ := Kd.at_int (Kd.R_reads' HO_5.out).2.2 x7_1 p500 q500
            obtain rfl : ad498 = ad500 := (by injection e500)
            replace p500 := eq_true p500
            replace q500 := eq_true q500
            have p501 : 0 ≤ (x7_1 : Int) := of_decide_eq_true (by first | (with_reducible assumption) | assumption)
            have q501 : x7_1 < (y495.length : Int) := of_decide_eq_true (by first | (with_reducible assumption) | assumption)
            obtain ⟨ad501, e501, hx501_0⟩ := Kd.at_int (Kd.R_reads' HO_6.out).2.2 x7_1 p501 q501
            obtain rfl : ad499 = ad501 := (by injection e501)
            replace p501 := eq_true p501
            replace q501 := eq_true q501
            go_wp2
            repeat (go_quiet (fail); try go_wp2)
            go_roundg k1
            case measure => have := HK1.out; omega
            case rel => exact ⟨(wrap64 (x7_1 + 1)), (by first | rfl | (simp; done) | (simp [*]; done)), H', ⟨by have := HK1.out; omega⟩, ⟨by (with_reducible repeat (first | apply Kd.R_alloc | apply Kd.R_drewN | apply Kd.R_drew)); exact HO_5.out⟩, ⟨by (with_reducible repeat (first | apply Kd.R_alloc | apply Kd.R_drewN | apply Kd.R_drew)); exact HO_6.out⟩, ⟨by (with_reducible repeat (first | refine blk_drewN ?_ _ | refine blk_drew ?_ | refine blk_alloc ?_ _)); exact BK490.out⟩, ⟨by (with_reducible repeat (first | refine blk_drewN ?_ _ | refine blk_drew ?_ | refine blk_alloc ?_ _)); exact BK491.out⟩, ⟨by repeat (first | (with_reducible first | exact HB.out | apply below_alloc | apply pw_below_drewN | apply below_drew1 | refine below_set ?_ GE490.out | refine below_set ?_ GE491.out) | exact HB.out)⟩⟩
      · rw [if_neg c12] at H
        have c12b0 : decide (x7_1 < 3) = false := decide_eq_false c12
        clear c12
        obtain rfl := Option.some.inj H
        go_wp2
        repeat (go_quiet (fail); try go_wp2)
        go_ret
        exact ⟨by first | rfl | (simp [errW_none, errW_some] <;> rfl) | (simp [*, errW_none, errW_some] <;> rfl), by repeat (first | (with_reducible first | exact HB.out | apply below_alloc | apply pw_below_drewN | apply below_drew1 | refine below_set ?_ GE490.out | refine below_set ?_ GE491.out) | exact HB.out)⟩

end Go.Proofs.Ytfikfmediheioaa.F
