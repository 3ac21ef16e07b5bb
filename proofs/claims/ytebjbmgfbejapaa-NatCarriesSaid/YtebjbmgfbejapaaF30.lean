-- Written by this session's printer (wip/tools), out of the translation's own print. Lean checks it.
import Derived.Test.YtebjbmgfbejapaaF0
import Derived.Test.YtebjbmgfbejapaaF3
import Derived.Test.YtebjbmgfbejapaaF14
import Derived.Test.YtebjbmgfbejapaaF15
namespace Go.Proofs.Ytebjbmgfbejapaa.F
open Go.RowKit Go.Proofs.YtebjbmgfbejapaaW.PrintWords Go.Proofs.YtebjbmgfbejapaaW.PrintLast Go.Proofs.YtebjbmgfbejapaaW.PrintMore Go.Proofs.YtebjbmgfbejapaaX
attribute [local go_sem] max2_int cell_some xrun_add64 xrun_sub64
attribute [local go_sem] max2_int min2_int max_two min_two max_three min_three max_four min_four   -- for this text's walks alone
set_option linter.unusedVariables false
set_option linter.unusedSimpArgs false

/-! ### nat_Nat_Sub: function 26 -/
def nat_Nat_Sub.l0 : Nat → List Int → Int → Int → Int → List Int → List Int → Option (List Int × Bool)
  | 0, _, _, _, _, _, _ => none
  | k + 1, x6, x7, x19, x20, x376000, x377000 => if x20 < x19 then (if 0 ≤ x20 then (if x20 < (x376000.length : Int) then ((nat_Nat_limb.f x377000 x20).bind fun t383 => (if x7 ≤ 1 then (if x20 < (x6.length : Int) then (nat_Nat_Sub.l0 k (x6.set (x20 : Int).toNat (sub64d (rd x376000 x20) t383 x7)) (sub64b (rd x376000 x20) t383 x7) x19 (wrap64 (x20 + 1)) x376000 x377000) else (none)) else (none))) else (none)) else (none)) else ((nat_trimmed.f k x6).bind fun t385 => (some (t385, true)))
def nat_Nat_Sub.f (k : Nat) (l0_0 : List Int) (l1_0 : List Int) : Option (List Int × Bool) := (nat_Nat_Cmp.f k l0_0 l1_0).bind fun t378 => (if t378 < 0 then (some (([] : List Int), false)) else (if 0 ≤ (l0_0.length : Int) then (if ((l0_0.length : Int) : Int).toNat ≤ 35184372088832 then ((some (List.replicate ((l0_0.length : Int) : Int).toNat 0 : List Int)).bind fun y379 => (nat_Nat_Sub.l0 k y379 0 (y379.length : Int) 0 l0_0 l1_0)) else (none)) else (none)))
theorem nat_Nat_Sub.mono_l : ∀ k, (∀ y0 y1 y2 y3 y4 y5, LeO (nat_Nat_Sub.l0 k y0 y1 y2 y3 y4 y5) (nat_Nat_Sub.l0 (k + 1) y0 y1 y2 y3 y4 y5))
  | 0 => fun _ _ _ _ _ _ r h => by simp [nat_Nat_Sub.l0] at h
  | k + 1 => by
    have ih0 := nat_Nat_Sub.mono_l k
    · intro y0 y1 y2 y3 y4 y5
      unfold nat_Nat_Sub.l0
      repeat' first
      | (with_reducible exact ih0 _ _ _ _ _ _)
      | (with_reducible exact nat_Nat_Cmp.mono _ _ _)
      | (with_reducible exact nat_trimmed.mono _ _)
      | (with_reducible exact LeO.refl _)
      | (with_reducible exact LeO.none _)
      | (with_reducible refine LeO.ite ?_ ?_)
      | (with_reducible refine LeO.bind ?_ (fun _ => ?_))
      | exact ih0 _ _ _ _ _ _
      | exact nat_Nat_Cmp.mono _ _ _
      | exact nat_trimmed.mono _ _
      | exact LeO.none _
      | refine LeO.ite ?_ ?_
      | refine LeO.bind ?_ (fun _ => ?_)
theorem nat_Nat_Sub.mono : ∀ a0 a1 k, LeO (nat_Nat_Sub.f k a0 a1) (nat_Nat_Sub.f (k + 1) a0 a1) := by
  intro a0 a1 k
  have ih0 := nat_Nat_Sub.mono_l k
  unfold nat_Nat_Sub.f
  repeat' first
      | (with_reducible exact ih0 _ _ _ _ _ _)
      | (with_reducible exact nat_Nat_Cmp.mono _ _ _)
      | (with_reducible exact nat_trimmed.mono _ _)
      | (with_reducible exact LeO.refl _)
      | (with_reducible exact LeO.none _)
      | (with_reducible refine LeO.ite ?_ ?_)
      | (with_reducible refine LeO.bind ?_ (fun _ => ?_))
      | exact ih0 _ _ _ _ _ _
      | exact nat_Nat_Cmp.mono _ _ _
      | exact nat_trimmed.mono _ _
      | exact LeO.none _
      | refine LeO.ite ?_ ?_
      | refine LeO.bind ?_ (fun _ => ?_)
def nat_Nat_Sub.T8 : Bool × List (List Nat × List Nat) := (true, [([], []), ([], []), ([], []), ([2], [2]), ([], []), ([3, 4], [3, 4]), ([5], [5]), ([], []), ([], []), ([7, 8], [7, 8]), ([], []), ([6, 9, 10, 9], [6, 9, 10]), ([11], [11]), ([12], [12]), ([12], [12]), ([0, 1, 0, 1, 2, 3, 4, 5, 6, 7, 8, 9, 10, 11, 12, 13], [0, 1]), ([15, 13, 11, 0, 1, 2, 3, 4, 5, 6, 7, 8, 9, 10, 11, 12, 13], [13, 15]), ([14, 16, 0, 1, 2, 3, 4, 5, 6, 7, 8, 9, 10, 11, 12, 13, 14, 15, 16], [10, 14])])
def nat_Nat_Sub.B8 : List Nat := [0, 0, 0, 4, 0, 28, 60, 0, 0, 384, 0, 2044, 4092, 8188, 8188, 16383, 49151, 131071]
theorem nat_Nat_Sub.tab8 : rtab .any (opsOf Try.f26 8) = nat_Nat_Sub.T8 := by kernel_rfl
theorem nat_Nat_Sub.bits8 : waitsOk nat_Nat_Sub.T8.2 nat_Nat_Sub.B8 = true := by kernel_rfl
set_option maxHeartbeats 8000000 in
set_option maxRecDepth 100000 in
theorem nat_Nat_Sub.calls (k : Nat) (A0_0 : Option Addr) (c0_0 : Nat) (l0_0 : List Int) (A1_0 : Option Addr) (c1_0 : Nat) (l1_0 : List Int) (r1 : List Int) (r2 : Bool) (w : World) (hr0_0 : Kd.C (Kd.int .u64) w A0_0 l0_0.length l0_0) (hc0_0 : l0_0.length ≤ c0_0) (hr1_0 : Kd.C (Kd.int .u64) w A1_0 l1_0.length l1_0) (hc1_0 : l1_0.length ≤ c1_0) (h : nat_Nat_Sub.f k l0_0 l1_0 = some (r1, r2)) :
    Calls Try.prog 26 #[.agg #[.slice A0_0 l0_0.length c0_0], .agg #[.slice A1_0 l1_0.length c1_0]] w fun e w' => ∃ v0_ : Value, e = .returned (.tuple #[.agg #[v0_], .bool r2]) ∧ Kd.V (Kd.int .u64) 27 w' w.heap.size (fun k_ => (w.heap.size ≤ k_)) v0_ r1 ∧ Below w.heap.size w w' := by
  have hu25 := Try.underlying25
  have HR0_0 := Aside0.mk hr0_0
  have HC0_0 := Aside0.mk hc0_0
  clear hr0_0 hc0_0
  have HR1_0 := Aside0.mk hr1_0
  have HC1_0 := Aside0.mk hc1_0
  clear hr1_0 hc1_0
  have HB := Aside0.mk (Below.refl w.heap.size w)
  have H : ((nat_Nat_Cmp.f k l0_0 l1_0).bind fun t378 => (if t378 < 0 then (some (([] : List Int), false)) else (if 0 ≤ (l0_0.length : Int) then (if ((l0_0.length : Int) : Int).toNat ≤ 35184372088832 then ((some (List.replicate ((l0_0.length : Int) : Int).toNat 0 : List Int)).bind fun y379 => (nat_Nat_Sub.l0 k y379 0 (y379.length : Int) 0 l0_0 l1_0)) else (none)) else (none)))) = some (r1, r2) := h
  clear h
  replace H := Option.bind_eq_some_iff.mp H
  obtain ⟨t378, A30, H⟩ := H
  replace H : (if t378 < 0 then (some (([] : List Int), false)) else (if 0 ≤ (l0_0.length : Int) then (if ((l0_0.length : Int) : Int).toNat ≤ 35184372088832 then ((some (List.replicate ((l0_0.length : Int) : Int).toNat 0 : List Int)).bind fun y379 => (nat_Nat_Sub.l0 k y379 0 (y379.length : Int) 0 l0_0 l1_0)) else (none)) else (none))) = some (r1, r2) := H
  have A3 := Aside0.mk A30
  clear A30
  by_cases c4 : t378 < 0
  · rw [if_pos c4] at H
    have c4b0 : decide (t378 < 0) = true := decide_eq_true c4
    clear c4
    simp only [Option.some.injEq, Prod.mk.injEq] at H
    obtain ⟨rfl, rfl⟩ := H
    go_enter Try.func26, Try.ntmps26
    go_wp2_with (first | ((with_reducible refine gate_dst (N := 2) rfl ?_); refine box_event ?hg (N := 2) ?hd (cs := #[.slice A0_0 l0_0.length c0_0]) (t := 25) ?hr ?_; (case hd => rfl); (case hg => rfl); (case hr => first | (go_simp; done) | (go_simp; rfl)); intro gb375 hg w5 hbox hb; have n0_ := Aside0.mk (below_step (by repeat (first | (with_reducible first | exact HB.out | apply below_alloc | apply pw_below_drewN | apply below_drew1) | exact HB.out)) hb); have n1_ := Aside0.mk (hbox); have n2_ := Aside0.mk ((by rw [hg]; exact (below_size (by repeat (first | (with_reducible first | exact HB.out | apply below_alloc | apply pw_below_drewN | apply below_drew1) | exact HB.out))) : w.heap.size ≤ gb375)); have n3_ := Aside0.mk ((by rw [hg]; exact (below_size (by repeat (first | (with_reducible first | exact HB.out | apply below_alloc | apply pw_below_drewN | apply below_drew1) | exact HB.out))) : w.heap.size ≤ gb375)); clear HB; have HB := n0_; have BK375 := n1_; have GW375 := n2_; have GE375 := n3_; clear n0_ n1_ n2_ n3_; clear hb hbox hg) | ((with_reducible refine gate_dst (N := 3) rfl ?_); refine box_event ?hg (N := 3) ?hd (cs := #[.slice A1_0 l1_0.length c1_0]) (t := 25) ?hr ?_; (case hd => rfl); (case hg => rfl); (case hr => first | (go_simp; done) | (go_simp; rfl)); intro gb376 hg w6 hbox hb; have n0_ := Aside0.mk (bb BK375.out hb); have n1_ := Aside0.mk (bs HB.out hb); have n2_ := Aside0.mk (hbox); have n3_ := Aside0.mk ((by rw [hg]; exact (bz HB.out) : w.heap.size ≤ gb376)); have n4_ := Aside0.mk ((by rw [hg]; exact (bz HB.out) : w.heap.size ≤ gb376)); have n5_ := Aside0.mk ((by rw [hg]; exact Nat.ne_of_lt (blk_lt (g := gb375) (o := .cells #[.slice A0_0 l0_0.length c0_0] 25 (0, 0)) (by (with_reducible repeat (first | refine blk_drewN ?_ _ | refine blk_drew ?_ | refine blk_alloc ?_ _)); exact BK375.out)) : gb375 ≠ gb376)); have n6_ := Aside0.mk ((by rw [hg]; exact Nat.ne_of_gt (blk_lt (g := gb375) (o := .cells #[.slice A0_0 l0_0.length c0_0] 25 (0, 0)) (by (with_reducible repeat (first | refine blk_drewN ?_ _ | refine blk_drew ?_ | refine blk_alloc ?_ _)); exact BK375.out)) : gb376 ≠ gb375)); clear BK375; clear HB; have BK375 := n0_; have HB := n1_; have BK376 := n2_; have GW376 := n3_; have GE376 := n4_; have NB375_376 := n5_; have NB376_375 := n6_; clear n0_ n1_ n2_ n3_ n4_ n5_ n6_; clear hb hbox hg) | ((with_reducible refine gate_dst (N := 4) rfl ?_); refine box_event ?hg (N := 4) ?hd (cs := #[.slice none 0 0]) (t := 25) ?hr ?_; (case hd => rfl); (case hg => rfl); (case hr => first | (go_simp; done) | (go_simp; rfl)); intro gb377 hg w7 hbox hb; have n0_ := Aside0.mk (bb BK375.out hb); have n1_ := Aside0.mk (bb BK376.out hb); have n2_ := Aside0.mk (bs HB.out hb); have n3_ := Aside0.mk (hbox); have n4_ := Aside0.mk ((by rw [hg]; exact (bz HB.out) : w.heap.size ≤ gb377)); have n5_ := Aside0.mk ((by rw [hg]; exact (bz HB.out) : w.heap.size ≤ gb377)); have n6_ := Aside0.mk ((by rw [hg]; exact Nat.ne_of_lt (blk_lt (g := gb375) (o := .cells #[.slice A0_0 l0_0.length c0_0] 25 (0, 0)) (by (with_reducible repeat (first | refine blk_drewN ?_ _ | refine blk_drew ?_ | refine blk_alloc ?_ _)); exact BK375.out)) : gb375 ≠ gb377)); have n7_ := Aside0.mk ((by rw [hg]; exact Nat.ne_of_gt (blk_lt (g := gb375) (o := .cells #[.slice A0_0 l0_0.length c0_0] 25 (0, 0)) (by (with_reducible repeat (first | refine blk_drewN ?_ _ | refine blk_drew ?_ | refine blk_alloc ?_ _)); exact BK375.out)) : gb377 ≠ gb375)); have n8_ := Aside0.mk ((by rw [hg]; exact Nat.ne_of_lt (blk_lt (g := gb376) (o := .cells #[.slice A1_0 l1_0.length c1_0] 25 (0, 0)) (by (with_reducible repeat (first | refine blk_drewN ?_ _ | refine blk_drew ?_ | refine blk_alloc ?_ _)); exact BK376.out)) : gb376 ≠ gb377)); have n9_ := Aside0.mk ((by rw [hg]; exact Nat.ne_of_gt (blk_lt (g := gb376) (o := .cells #[.slice A1_0 l1_0.length c1_0] 25 (0, 0)) (by (with_reducible repeat (first | refine blk_drewN ?_ _ | refine blk_drew ?_ | refine blk_alloc ?_ _)); exact BK376.out)) : gb377 ≠ gb376)); clear BK375; clear BK376; clear HB; have BK375 := n0_; have BK376 := n1_; have HB := n2_; have BK377 := n3_; have GW377 := n4_; have GE377 := n5_; have NB375_377 := n6_; have NB377_375 := n7_; have NB376_377 := n8_; have NB377_376 := n9_; clear n0_ n1_ n2_ n3_ n4_ n5_ n6_ n7_ n8_ n9_; clear hb hbox hg; have hnb8 := NB375_376.out; have hnc8 := NB376_375.out; have hnb9 := NB375_377.out; have hnc9 := NB377_375.out; have hcz10_0 : w7.cell? ⟨gb375, 0, none⟩ = some (.slice A0_0 l0_0.length c0_0) := (blk_cell BK375.out 0).trans rfl; have hfz10_0 := blk_frozen BK375.out 0; have hnb11 := NB376_377.out; have hnc11 := NB377_376.out; have hcz12_0 : w7.cell? ⟨gb376, 0, none⟩ = some (.slice A1_0 l1_0.length c1_0) := (blk_cell BK376.out 0).trans rfl; have hfz12_0 := blk_frozen BK376.out 0) | ((with_reducible refine gate_callee (f := 21) rfl ?_); refine goesL_ (some 11) rfl rfl Try.func21 (by kernel_rfl) rfl #[.agg #[.slice A0_0 l0_0.length c0_0], .agg #[.slice A1_0 l1_0.length c1_0]] rfl (by (try simp only [List.map_toArray, List.map_cons, List.map_nil]); first | done | rfl | (simp only [List.length_drop, List.length_take]; rfl)) ?_; (with_reducible refine (nat_Nat_Cmp.calls k _ _ l0_0 _ _ l1_0 t378 _ ?side1 ?side2 ?side3 ?side4 A3.out).mono ?_); (case side1 => repeat (first | exact (Kd.C_below HR0_0.out HB.out) | (with_reducible refine Kd.C_alloc ?_ _) | (with_reducible refine Kd.C_drewN ?_ _) | (with_reducible refine Kd.C_drew ?_))); (case side2 => exact HC0_0.out); (case side3 => repeat (first | exact (Kd.C_below HR1_0.out HB.out) | (with_reducible refine Kd.C_alloc ?_ _) | (with_reducible refine Kd.C_drewN ?_ _) | (with_reducible refine Kd.C_drew ?_))); (case side4 => exact HC1_0.out); rintro e w13 ⟨rfl, hb⟩; refine ⟨_, rfl, ?_⟩; replace BK375 := Aside0.mk (bb BK375.out hb); replace BK376 := Aside0.mk (bb BK376.out hb); replace BK377 := Aside0.mk (bb BK377.out hb); replace HB := Aside0.mk (bs HB.out hb); (try clear hb); (try clear hb2); (try clear hk); (try clear hi); have hcz14_0 : w13.cell? ⟨gb377, 0, none⟩ = some (.slice none 0 0) := (blk_cell BK377.out 0).trans rfl; have hfz14_0 := blk_frozen BK377.out 0))
    refine bodyPost_ret (results_ct rfl _ _ gb377 25 #[.slice none 0 0] (0, 0) _ rfl (by (with_reducible repeat (first | refine blk_drewN ?_ _ | refine blk_drew ?_ | refine blk_alloc ?_ _)); refine blk_put (cs := #[.slice none 0 0]) ?_ 0 _ rfl; (with_reducible repeat (first | refine blk_drewN ?_ _ | refine blk_drew ?_ | refine blk_alloc ?_ _)); exact BK377.out) Try.underlying25 rfl (by kernel_rfl)) rfl ?_
    exact ⟨_, by first | rfl | (simp [errW_none, errW_some] <;> rfl) | (simp [*, errW_none, errW_some] <;> rfl), Kd.V_nil _ _ _ _ _, by repeat (first | (with_reducible first | exact HB.out | apply below_alloc | apply pw_below_drewN | apply below_drew1 | refine below_set ?_ GE375.out | refine below_set ?_ GE376.out | refine below_set ?_ GE377.out) | exact HB.out)⟩
  · rw [if_neg c4] at H
    have c4b0 : decide (t378 < 0) = false := decide_eq_false c4
    clear c4
    by_cases c15 : 0 ≤ (l0_0.length : Int)
    rotate_left
    · rw [if_neg c15] at H
      exact absurd H (by simp)

    rw [if_pos c15] at H
    have c15b0 := eq_true c15
    have c15b1 : decide (0 ≤ (l0_0.length : Int)) = true := decide_eq_true c15
    clear c15
    by_cases c16 : ((l0_0.length : Int) : Int).toNat ≤ 35184372088832
    rotate_left
    · rw [if_neg c16] at H
      exact absurd H (by simp)
    rw [if_pos c16] at H
    have c16b0 := eq_true c16
    have c16b1 : decide (((l0_0.length : Int) : Int).toNat ≤ 35184372088832) = true := decide_eq_true c16
    clear c16
    obtain ⟨y379, hy379⟩ : ∃ y_ : List Int, y_ = (List.replicate ((l0_0.length : Int) : Int).toNat 0) := ⟨_, rfl⟩
    replace H : (nat_Nat_Sub.l0 k y379 0 (y379.length : Int) 0 l0_0 l1_0) = some (r1, r2) := by first | (rw [hy379]; with_reducible exact H) | (have H2_ := (Option.bind_some _ _).symm.trans H; rw [hy379]; with_reducible exact H2_) | (have H2_ := (Option.bind_some _ _).symm.trans H; with_reducible exact H2_) | with_reducible exact H | (rw [hy379]; exact H) | exact H
    have Ny379 := Aside0.mk hy379
    clear hy379
    have H' := Aside0.mk H
    clear H
    go_enter Try.func26, Try.ntmps26
    go_wp2_with (first | ((with_reducible refine gate_dst (N := 2) rfl ?_); refine box_event ?hg (N := 2) ?hd (cs := #[.slice A0_0 l0_0.length c0_0]) (t := 25) ?hr ?_; (case hd => rfl); (case hg => rfl); (case hr => first | (go_simp; done) | (go_simp; rfl)); intro gb375 hg w17 hbox hb; have n0_ := Aside0.mk (below_step (by repeat (first | (with_reducible first | exact HB.out | apply below_alloc | apply pw_below_drewN | apply below_drew1) | exact HB.out)) hb); have n1_ := Aside0.mk (hbox); have n2_ := Aside0.mk ((by rw [hg]; exact (below_size (by repeat (first | (with_reducible first | exact HB.out | apply below_alloc | apply pw_below_drewN | apply below_drew1) | exact HB.out))) : w.heap.size ≤ gb375)); have n3_ := Aside0.mk ((by rw [hg]; exact (below_size (by repeat (first | (with_reducible first | exact HB.out | apply below_alloc | apply pw_below_drewN | apply below_drew1) | exact HB.out))) : w.heap.size ≤ gb375)); clear HB; have HB := n0_; have BK375 := n1_; have GW375 := n2_; have GE375 := n3_; clear n0_ n1_ n2_ n3_; clear hb hbox hg) | ((with_reducible refine gate_dst (N := 3) rfl ?_); refine box_event ?hg (N := 3) ?hd (cs := #[.slice A1_0 l1_0.length c1_0]) (t := 25) ?hr ?_; (case hd => rfl); (case hg => rfl); (case hr => first | (go_simp; done) | (go_simp; rfl)); intro gb376 hg w18 hbox hb; have n0_ := Aside0.mk (bb BK375.out hb); have n1_ := Aside0.mk (bs HB.out hb); have n2_ := Aside0.mk (hbox); have n3_ := Aside0.mk ((by rw [hg]; exact (bz HB.out) : w.heap.size ≤ gb376)); have n4_ := Aside0.mk ((by rw [hg]; exact (bz HB.out) : w.heap.size ≤ gb376)); have n5_ := Aside0.mk ((by rw [hg]; exact Nat.ne_of_lt (blk_lt (g := gb375) (o := .cells #[.slice A0_0 l0_0.length c0_0] 25 (0, 0)) (by (with_reducible repeat (first | refine blk_drewN ?_ _ | refine blk_drew ?_ | refine blk_alloc ?_ _)); exact BK375.out)) : gb375 ≠ gb376)); have n6_ := Aside0.mk ((by rw [hg]; exact Nat.ne_of_gt (blk_lt (g := gb375) (o := .cells #[.slice A0_0 l0_0.length c0_0] 25 (0, 0)) (by (with_reducible repeat (first | refine blk_drewN ?_ _ | refine blk_drew ?_ | refine blk_alloc ?_ _)); exact BK375.out)) : gb376 ≠ gb375)); clear BK375; clear HB; have BK375 := n0_; have HB := n1_; have BK376 := n2_; have GW376 := n3_; have GE376 := n4_; have NB375_376 := n5_; have NB376_375 := n6_; clear n0_ n1_ n2_ n3_ n4_ n5_ n6_; clear hb hbox hg) | ((with_reducible refine gate_dst (N := 4) rfl ?_); refine box_event ?hg (N := 4) ?hd (cs := #[.slice none 0 0]) (t := 25) ?hr ?_; (case hd => rfl); (case hg => rfl); (case hr => first | (go_simp; done) | (go_simp; rfl)); intro gb377 hg w19 hbox hb; have n0_ := Aside0.mk (bb BK375.out hb); have n1_ := Aside0.mk (bb BK376.out hb); have n2_ := Aside0.mk (bs HB.out hb); have n3_ := Aside0.mk (hbox); have n4_ := Aside0.mk ((by rw [hg]; exact (bz HB.out) : w.heap.size ≤ gb377)); have n5_ := Aside0.mk ((by rw [hg]; exact (bz HB.out) : w.heap.size ≤ gb377)); have n6_ := Aside0.mk ((by rw [hg]; exact Nat.ne_of_lt (blk_lt (g := gb375) (o := .cells #[.slice A0_0 l0_0.length c0_0] 25 (0, 0)) (by (with_reducible repeat (first | refine blk_drewN ?_ _ | refine blk_drew ?_ | refine blk_alloc ?_ _)); exact BK375.out)) : gb375 ≠ gb377)); have n7_ := Aside0.mk ((by rw [hg]; exact Nat.ne_of_gt (blk_lt (g := gb375) (o := .cells #[.slice A0_0 l0_0.length c0_0] 25 (0, 0)) (by (with_reducible repeat (first | refine blk_drewN ?_ _ | refine blk_drew ?_ | refine blk_alloc ?_ _)); exact BK375.out)) : gb377 ≠ gb375)); have n8_ := Aside0.mk ((by rw [hg]; exact Nat.ne_of_lt (blk_lt (g := gb376) (o := .cells #[.slice A1_0 l1_0.length c1_0] 25 (0, 0)) (by (with_reducible repeat (first | refine blk_drewN ?_ _ | refine blk_drew ?_ | refine blk_alloc ?_ _)); exact BK376.out)) : gb376 ≠ gb377)); have n9_ := Aside0.mk ((by rw [hg]; exact Nat.ne_of_gt (blk_lt (g := gb376) (o := .cells #[.slice A1_0 l1_0.length c1_0] 25 (0, 0)) (by (with_reducible repeat (first | refine blk_drewN ?_ _ | refine blk_drew ?_ | refine blk_alloc ?_ _)); exact BK376.out)) : gb377 ≠ gb376)); clear BK375; clear BK376; clear HB; have BK375 := n0_; have BK376 := n1_; have HB := n2_; have BK377 := n3_; have GW377 := n4_; have GE377 := n5_; have NB375_377 := n6_; have NB377_375 := n7_; have NB376_377 := n8_; have NB377_376 := n9_; clear n0_ n1_ n2_ n3_ n4_ n5_ n6_ n7_ n8_ n9_; clear hb hbox hg; have hnb20 := NB375_376.out; have hnc20 := NB376_375.out; have hnb21 := NB375_377.out; have hnc21 := NB377_375.out; have hcz22_0 : w19.cell? ⟨gb375, 0, none⟩ = some (.slice A0_0 l0_0.length c0_0) := (blk_cell BK375.out 0).trans rfl; have hfz22_0 := blk_frozen BK375.out 0; have hnb23 := NB376_377.out; have hnc23 := NB377_376.out; have hcz24_0 : w19.cell? ⟨gb376, 0, none⟩ = some (.slice A1_0 l1_0.length c1_0) := (blk_cell BK376.out 0).trans rfl; have hfz24_0 := blk_frozen BK376.out 0) | ((with_reducible refine gate_callee (f := 21) rfl ?_); refine goesL_ (some 11) rfl rfl Try.func21 (by kernel_rfl) rfl #[.agg #[.slice A0_0 l0_0.length c0_0], .agg #[.slice A1_0 l1_0.length c1_0]] rfl (by (try simp only [List.map_toArray, List.map_cons, List.map_nil]); first | done | rfl | (simp only [List.length_drop, List.length_take]; rfl)) ?_; (with_reducible refine (nat_Nat_Cmp.calls k _ _ l0_0 _ _ l1_0 t378 _ ?side1 ?side2 ?side3 ?side4 A3.out).mono ?_); (case side1 => repeat (first | exact (Kd.C_below HR0_0.out HB.out) | (with_reducible refine Kd.C_alloc ?_ _) | (with_reducible refine Kd.C_drewN ?_ _) | (with_reducible refine Kd.C_drew ?_))); (case side2 => exact HC0_0.out); (case side3 => repeat (first | exact (Kd.C_below HR1_0.out HB.out) | (with_reducible refine Kd.C_alloc ?_ _) | (with_reducible refine Kd.C_drewN ?_ _) | (with_reducible refine Kd.C_drew ?_))); (case side4 => exact HC1_0.out); rintro e w25 ⟨rfl, hb⟩; refine ⟨_, rfl, ?_⟩; replace BK375 := Aside0.mk (bb BK375.out hb); replace BK376 := Aside0.mk (bb BK376.out hb); replace BK377 := Aside0.mk (bb BK377.out hb); replace HB := Aside0.mk (bs HB.out hb); (try clear hb); (try clear hb2); (try clear hk); (try clear hi); have hcz26_0 : w25.cell? ⟨gb375, 0, none⟩ = some (.slice A0_0 l0_0.length c0_0) := (blk_cell BK375.out 0).trans rfl; have hfz26_0 := blk_frozen BK375.out 0) | ((with_reducible refine gate_dst (N := 17) rfl ?_); refine Kd.R_make (Kd.int .u64) _ 27 rfl (N := 17) rfl 22 _ _ rfl (l0_0.length : Int) rfl rfl Try.underlying22 (.int .u64 0) 8 info27 rfl (by decide) (by omega) 0 (ok := fun _ => True) (okp := fun _ => True) rfl (fun _ hk => hk) trivial (of_decide_eq_true (by first | (with_reducible assumption) | assumption)) (Nat.le_trans (Nat.mul_le_mul_right _ (of_decide_eq_true (by first | (with_reducible assumption) | assumption) : (l0_0.length : Int).toNat ≤ 35184372088832)) (by omega)) (Below.refl _ _) (Nat.le_refl _) ?_; intro v380 w27 ho28 hb hg_ hnew_; clear hg_ hnew_; (first | rw [← Ny379.out] at ho28 | (simp only [Int.reduceToNat] at ho28; rw [← Ny379.out] at ho28)); have HO381 := Aside0.mk (Kd.R_lower (Kd.R_newM (M := fun k_ => (w.heap.size ≤ k_)) ho28 (bz HB.out) (fun k_ h_ => h_)) (bz HB.out)); replace BK375 := Aside0.mk (bb BK375.out hb); replace BK376 := Aside0.mk (bb BK376.out hb); replace BK377 := Aside0.mk (bb BK377.out hb); replace HB := Aside0.mk (bs HB.out hb); clear hb ho28; obtain ⟨Ao29, co29, eo29⟩ := Kd.R_slice HO381.out; subst eo29))
    go_loopg [7, 20] k (fun kq v7 v20 w' => ∃ (x6_1 : List Int) (x7_1 : Int) (x20_1 : Int), v7 = .int .u64 x7_1 ∧ v20 = .int .i64 x20_1 ∧ Aside0 (nat_Nat_Sub.l0 kq x6_1 x7_1 (y379.length : Int) x20_1 l0_0 l1_0 = some (r1, r2)) ∧ Aside0 (kq ≤ k) ∧ Aside0 (Kd.R (Kd.int .u64) 27 w' w.heap.size (fun k_ => (w.heap.size ≤ k_)) (.slice Ao29 y379.length co29) x6_1) ∧ Aside0 (w'.heap[gb375]? = some (.cells #[(.slice A0_0 l0_0.length c0_0)] 25 (0, 0))) ∧ Aside0 (w'.heap[gb376]? = some (.cells #[(.slice A1_0 l1_0.length c1_0)] 25 (0, 0))) ∧ Aside0 (w'.heap[gb377]? = some (.cells #[(.slice none 0 0)] 25 (0, 0))) ∧ Aside0 (Below w.heap.size w w'))
    case atStart => exact ⟨(y379), (0), (0), (by first | rfl | (simp; done) | (simp [*]; done)), (by first | rfl | (simp; done) | (simp [*]; done)), H', ⟨Nat.le_refl _⟩, ⟨by (with_reducible repeat (first | apply Kd.R_alloc | apply Kd.R_drewN | apply Kd.R_drew)); exact Kd.R_mono HO381.out (fun _ hk => hk.1)⟩, ⟨by (with_reducible repeat (first | refine blk_drewN ?_ _ | refine blk_drew ?_ | refine blk_alloc ?_ _)); exact BK375.out⟩, ⟨by (with_reducible repeat (first | refine blk_drewN ?_ _ | refine blk_drew ?_ | refine blk_alloc ?_ _)); exact BK376.out⟩, ⟨by (with_reducible repeat (first | refine blk_drewN ?_ _ | refine blk_drew ?_ | refine blk_alloc ?_ _)); exact BK377.out⟩, ⟨by repeat (first | (with_reducible first | exact HB.out | apply below_alloc | apply pw_below_drewN | apply below_drew1 | refine below_set ?_ GE375.out | refine below_set ?_ GE376.out | refine below_set ?_ GE377.out) | exact HB.out)⟩⟩
    case round =>
      clear H'
      try clear c1
      try clear c2
      try clear p2
      try clear c4
      try clear c4b0
      try clear c8
      try clear c9
      try clear c11
      try clear c15
      try clear c15b0
      try clear c15b1
      try clear c16
      try clear c16b0
      try clear c16b1
      try clear c20
      try clear c21
      try clear c23
      try clear c26
      try clear hcz10_0
      try clear hcz12_0
      try clear hcz14_0
      try clear hcz22_0
      try clear hcz24_0
      try clear hcz26_0
      try clear hfz10_0
      try clear hfz12_0
      try clear hfz14_0
      try clear hfz22_0
      try clear hfz24_0
      try clear hfz26_0
      obtain ⟨x6_1, x7_1, x20_1, rfl, rfl, HA, HK1, HO_6, BK375, BK376, BK377, HB⟩ := hrel
      have hl6_1 := (Kd.R_reads' HO_6.out).1
      rw [hl6_1] at HO_6
      (try simp only [hl6_1])
      (try simp only [hl6_1] at BK375)
      (try simp only [hl6_1] at BK376)
      (try simp only [hl6_1] at BK377)
      cases gk with
      | zero => exact absurd HA.out (by simp [nat_Nat_Sub.l0])
      | succ k1 =>
        have H := HA.out
        clear HA
        simp only [nat_Nat_Sub.l0] at H
        by_cases c30 : x20_1 < (y379.length : Int)
        · rw [if_pos c30] at H
          have c30b0 : decide (x20_1 < (y379.length : Int)) = true := decide_eq_true c30
          have c30b0x := c30b0
          (try simp only [hl6_1] at c30b0x)
          clear c30
          by_cases c31 : 0 ≤ x20_1
          rotate_left
          · rw [if_neg c31] at H
            exact absurd H (by simp)
          rw [if_pos c31] at H
          have c31b0 : decide (0 ≤ x20_1) = true := decide_eq_true c31
          clear c31
          by_cases c32 : x20_1 < (l0_0.length : Int)
          rotate_left
          · rw [if_neg c32] at H
            exact absurd H (by simp)
          rw [if_pos c32] at H
          have c32b0 : decide (x20_1 < (l0_0.length : Int)) = true := decide_eq_true c32
          have c32b0x := c32b0
          (try simp only [hl6_1] at c32b0x)
          clear c32
          replace H := Option.bind_eq_some_iff.mp H
          obtain ⟨t383, A330, H⟩ := H
          replace H : (if x7_1 ≤ 1 then (if x20_1 < (x6_1.length : Int) then (nat_Nat_Sub.l0 k1 (x6_1.set (x20_1 : Int).toNat (sub64d (rd l0_0 x20_1) t383 x7_1)) (sub64b (rd l0_0 x20_1) t383 x7_1) (y379.length : Int) (wrap64 (x20_1 + 1)) l0_0 l1_0) else (none)) else (none)) = some (r1, r2) := H
          have A33 := Aside0.mk A330
          clear A330
          by_cases c34 : x7_1 ≤ 1
          rotate_left
          · rw [if_neg c34] at H
            exact absurd H (by simp)
          rw [if_pos c34] at H
          have c34b0 := eq_true c34
          have c34b1 : decide (x7_1 ≤ 1) = true := decide_eq_true c34
          clear c34
          by_cases c35 : x20_1 < (x6_1.length : Int)
          rotate_left
          · rw [if_neg c35] at H
            exact absurd H (by simp)
          rw [if_pos c35] at H
          have c35b0 : decide (x20_1 < (x6_1.length : Int)) = true := decide_eq_true c35
          have c35b0x := c35b0
          (try simp only [hl6_1] at c35b0x)
          clear c35
          obtain ⟨y384, hy384⟩ : ∃ y_ : List Int, y_ = (x6_1.set (x20_1 : Int).toNat (sub64d (rd l0_0 x20_1) t383 x7_1)) := ⟨_, rfl⟩
          replace H : (nat_Nat_Sub.l0 k1 y384 (sub64b (rd l0_0 x20_1) t383 x7_1) (y379.length : Int) (wrap64 (x20_1 + 1)) l0_0 l1_0) = some (r1, r2) := by first | (rw [hy384]; with_reducible exact H) | (have H2_ := (Option.bind_some _ _).symm.trans H; rw [hy384]; with_reducible exact H2_) | (have H2_ := (Option.bind_some _ _).symm.trans H; with_reducible exact H2_) | with_reducible exact H | (rw [hy384]; exact H) | exact H
          have Ny384 := Aside0.mk hy384
          clear hy384
          have H' := Aside0.mk H
          clear H
          try go_wp2
          replace HO_6 := Aside0.mk (Kd.R_drew HO_6.out)
          replace BK375 := Aside0.mk (blk_drew BK375.out)
          replace BK376 := Aside0.mk (blk_drew BK376.out)
          replace BK377 := Aside0.mk (blk_drew BK377.out)
          replace HB := Aside0.mk (below_drew1 HB.out)
          have p382 : 0 ≤ (x20_1 : Int) := of_decide_eq_true (by first | (with_reducible assumption) | assumption)
          have q382 : x20_1 < (l0_0.length : Int) := of_decide_eq_true (by first | (with_reducible assumption) | assumption)
          obtain ⟨ad382, e382, hx382_0⟩ := Kd.at_int HR0_0.out x20_1 p382 q382
          have hw382_0 := hx382_0
          cases e382
          replace hx382_0 := (HB.out.cell (World.block_lt_of_cell? w _ hx382_0)).trans hx382_0
          replace p382 := eq_true p382
          replace q382 := eq_true q382
          refine start_ (n := 18) (S := fun w' => w'.cell? ⟨gb375, 0, none⟩ = some (.slice (some ad382) l0_0.length c0_0) ∧ w'.cell? ⟨gb376, 0, none⟩ = some (.slice A1_0 l1_0.length c1_0) ∧ w'.cell? (ad382.add (x20_1).toNat) = some (.int .u64 (rd l0_0 x20_1))) (ds := [16]) (fl 0 18 []) (by kernel_rfl) rfl rfl ⟨(blk_cell BK375.out 0).trans rfl, (blk_cell BK376.out 0).trans rfl, ((HB.out.cell (World.block_lt_of_cell? w _ hw382_0)).trans hw382_0)⟩ (fun hHeld => ?_); refine with_tabW nat_Nat_Sub.tab8 nat_Nat_Sub.bits8 (fun HT_ HW_ => ?_)
          generalize wr.drew = w37 at HO_6 BK375 BK376 BK377 HB hx382_0 hHeld ⊢
          refine pure_ (i := 0) (N := some 24) (v := ?_) (a' := ?_) (fl 1 18 []) rfl rfl (any_of HT_.out (by kernel_rfl)) (fun _ _ _ h => h) (Or.inl ⟨by rfl, ?_⟩) ?_ ?_
          rotate_left
          · intro w'
            go_simp
            with_reducible rfl
          rotate_left
          · simp only [Act.put, List.setIfInBounds_toArray, List.set_cons_zero, List.set_cons_succ, i64_w, i32_w]
            rfl
          refine pure_ (i := 1) (N := some 25) (v := ?_) (a' := ?_) (fl 2 18 []) rfl rfl (any_of HT_.out (by kernel_rfl)) (fun _ _ _ h => h) (Or.inl ⟨by rfl, ?_⟩) ?_ ?_
          rotate_left
          · intro w'
            go_simp
            with_reducible rfl
          rotate_left
          · simp only [Act.put, List.setIfInBounds_toArray, List.set_cons_zero, List.set_cons_succ, i64_w, i32_w]
            rfl
          refine pure_ (i := 2) (N := some 26) (v := ?_) (a' := ?_) (fl 3 18 []) rfl rfl (any_of HT_.out (by kernel_rfl)) (fun _ _ _ h => h) (Or.inl ⟨by rfl, ?_⟩) ?_ ?_
          rotate_left
          · intro w'
            go_simp
            with_reducible rfl
          rotate_left
          · simp only [Act.put, List.setIfInBounds_toArray, List.set_cons_zero, List.set_cons_succ, i64_w, i32_w]
            rfl
          refine pure_ (i := 4) (N := some 28) (v := ?_) (a' := ?_) (fl 3 18 [4]) rfl rfl (any_of HT_.out (by kernel_rfl)) (fun _ _ _ h => h) (Or.inl ⟨by rfl, ?_⟩) ?_ ?_
          rotate_left
          · intro w'
            go_simp
            with_reducible rfl
          rotate_left
          · simp only [Act.put, List.setIfInBounds_toArray, List.set_cons_zero, List.set_cons_succ, i64_w, i32_w]
            rfl
          refine pure_ (i := 8) (N := some 32) (v := ?_) (a' := ?_) (fl 3 18 [4, 8]) rfl rfl (any_of HT_.out (by kernel_rfl)) (fun _ _ _ h => h) (Or.inl ⟨by rfl, ?_⟩) ?_ ?_
          rotate_left
          · intro w'
            go_simp
            with_reducible rfl
          rotate_left
          · simp only [Act.put, List.setIfInBounds_toArray, List.set_cons_zero, List.set_cons_succ, i64_w, i32_w]
            rfl
          refine pure_ (i := 10) (N := some 34) (v := ?_) (a' := ?_) (fl 3 18 [4, 8, 10]) rfl rfl (any_of HT_.out (by kernel_rfl)) (fun _ _ _ h => h) (Or.inl ⟨by rfl, ?_⟩) ?_ ?_
          rotate_left
          · intro w'
            go_simp
            with_reducible rfl
          rotate_left
          · simp only [Act.put, List.setIfInBounds_toArray, List.set_cons_zero, List.set_cons_succ, i64_w, i32_w]
            rfl
          refine take_ (i := 3) (N := some 27) (v := ?_) (a' := ?_) (fl 5 18 [8, 10]) rfl rfl (take_ofW HT_.out HW_.out (by kernel_rfl)) (fun _ _ _ h => h) (Or.inl ⟨by rfl, ?_⟩) hHeld ?_ ?_
          rotate_left
          · rintro w' ⟨s0, s1, s2⟩
            go_simp
            with_reducible rfl
          rotate_left
          · simp only [Act.put, List.setIfInBounds_toArray, List.set_cons_zero, List.set_cons_succ, i64_w, i32_w]
            rfl
          refine pure_ (i := 5) (N := some 29) (v := ?_) (a' := ?_) (fl 6 18 [8, 10]) rfl rfl (any_of HT_.out (by kernel_rfl)) (fun _ _ _ h => h) (Or.inl ⟨by rfl, ?_⟩) ?_ ?_
          rotate_left
          · intro w'
            go_simp
            with_reducible rfl
          rotate_left
          · simp only [Act.put, List.setIfInBounds_toArray, List.set_cons_zero, List.set_cons_succ, i64_w, i32_w]
            rfl
          refine take_ (i := 6) (N := some 30) (v := ?_) (a' := ?_) (fl 7 18 [8, 10]) rfl rfl (take_ofW HT_.out HW_.out (by kernel_rfl)) (fun _ _ _ h => h) (Or.inl ⟨by rfl, ?_⟩) hHeld ?_ ?_
          rotate_left
          · rintro w' ⟨s0, s1, s2⟩
            go_simp
            with_reducible rfl
          rotate_left
          · simp only [Act.put, List.setIfInBounds_toArray, List.set_cons_zero, List.set_cons_succ, i64_w, i32_w]
            rfl
          refine take_ (i := 7) (N := some 31) (v := ?_) (a' := ?_) (fl 9 18 [10]) rfl rfl (take_ofW HT_.out HW_.out (by kernel_rfl)) (fun _ _ _ h => h) (Or.inl ⟨by rfl, ?_⟩) hHeld ?_ ?_
          rotate_left
          · rintro w' ⟨s0, s1, s2⟩
            go_simp
            with_reducible rfl
          rotate_left
          · simp only [Act.put, List.setIfInBounds_toArray, List.set_cons_zero, List.set_cons_succ, i64_w, i32_w]
            rfl
          refine one_ (i := 9) (N := some 33) (fl 11 18 []) rfl rfl (one_of HT_.out (by kernel_rfl)) (by decide) (fun K hK => ?_)
          refine goes_ Try.func49 (by kernel_rfl) rfl #[.agg #[.slice A1_0 l1_0.length c1_0], .int .i64 x20_1] (by rfl) rfl rfl (by (try simp only [List.map_toArray, List.map_cons, List.map_nil]); first | done | rfl | (simp only [List.length_drop, List.length_take]; rfl)) ?_
          with_reducible refine (nat_Nat_limb.calls _ _ l1_0 x20_1 t383 _ ?side1 ?side2 A33.out).mono ?_
          (case side1 => repeat (first | exact (Kd.C_below HR1_0.out HB.out) | (with_reducible refine Kd.C_alloc ?_ _) | (with_reducible refine Kd.C_drewN ?_ _) | (with_reducible refine Kd.C_drew ?_)))
          (case side2 => exact HC1_0.out)
          rintro e w38 ⟨rfl, hb⟩
          refine ⟨_, rfl, ?_⟩
          replace HO_6 := Aside0.mk (rb HO_6.out hb)
          replace BK375 := Aside0.mk (bb BK375.out hb)
          replace BK376 := Aside0.mk (bb BK376.out hb)
          replace BK377 := Aside0.mk (bb BK377.out hb)
          replace HB := Aside0.mk (bs HB.out hb)
          (try clear hb)
          (try clear hb2)
          (try clear hk)
          (try clear hi)
          have p36 : 0 ≤ (x20_1 : Int) := of_decide_eq_true (by first | (with_reducible assumption) | assumption)
          have q36 : (x20_1 : Int) < ((x6_1.length : Int) : Int) := of_decide_eq_true (by first | (with_reducible assumption) | assumption)
          obtain ⟨go36, co36, eo36, gb36, gl36, cl36, HG36⟩ := Kd.R_form HO_6.out (by omega)
          (first | cases eo36 | (injection eo36 with ea_ en_ ec_; (first | subst ea_ | (injection ea_ with ea_; subst ea_)); subst ec_; clear en_))
          have GB36 := Aside0.mk gb36
          have GG36 := Aside0.mk HG36
          clear gb36 gl36 HG36
          obtain ⟨hx36_0, hf36_0⟩ := Kd.R_celln 0 HO_6.out (x20_1 : Int) p36 q36
          replace p36 := eq_true p36
          replace q36 := eq_true q36
          have HP39 := Kd.R_putn HO_6.out (x20_1 : Int) (sub64d (rd l0_0 x20_1) t383 x7_1)
          rw [← Ny384.out] at HP39
          have HQ39 := Aside0.mk HP39
          clear HP39
          refine hK.out _ _ ⟨(blk_cell BK375.out 0).trans rfl, (blk_cell BK376.out 0).trans rfl, ((HB.out.cell (World.block_lt_of_cell? w _ hw382_0)).trans hw382_0)⟩ (fun hHeld => ?_)
          clear hK K
          refine norm_ (a' := ?_) ?_ ?_
          rotate_left
          · show Act.put _ (some 33) _ = _
            simp only [Act.put, List.setIfInBounds_toArray, List.set_cons_zero, List.set_cons_succ, i64_w, i32_w]
            rfl
          refine pure_ (i := 11) (N := some 35) (v := ?_) (a' := ?_) (fl 12 18 []) rfl rfl (any_of HT_.out (by kernel_rfl)) (fun _ _ _ h => h) (Or.inl ⟨by rfl, ?_⟩) ?_ ?_
          rotate_left
          · intro w'
            go_simp
            with_reducible rfl
          rotate_left
          · simp only [Act.put, List.setIfInBounds_toArray, List.set_cons_zero, List.set_cons_succ, i64_w, i32_w]
            rfl
          refine pure_ (i := 12) (N := some 23) (v := ?_) (a' := ?_) (fl 13 18 []) rfl rfl (any_of HT_.out (by kernel_rfl)) (fun _ _ _ h => h) (Or.inl ⟨by rfl, ?_⟩) ?_ ?_
          rotate_left
          · intro w'
            go_simp
            with_reducible rfl
          rotate_left
          · simp only [Act.put, List.setIfInBounds_toArray, List.set_cons_zero, List.set_cons_succ, i64_w, i32_w]
            rfl
          refine pure_ (i := 13) (N := some 36) (v := ?_) (a' := ?_) (fl 14 18 []) rfl rfl (any_of HT_.out (by kernel_rfl)) (fun _ _ _ h => h) (Or.inl ⟨by rfl, ?_⟩) ?_ ?_
          rotate_left
          · intro w'
            go_simp
            with_reducible rfl
          rotate_left
          · simp only [Act.put, List.setIfInBounds_toArray, List.set_cons_zero, List.set_cons_succ, i64_w, i32_w]
            rfl
          refine pure_ (i := 14) (N := some 37) (v := ?_) (a' := ?_) (fl 15 18 []) rfl rfl (any_of HT_.out (by kernel_rfl)) (fun _ _ _ h => h) (Or.inl ⟨by rfl, ?_⟩) ?_ ?_
          rotate_left
          · intro w'
            go_simp
            with_reducible rfl
          rotate_left
          · simp only [Act.put, List.setIfInBounds_toArray, List.set_cons_zero, List.set_cons_succ, i64_w, i32_w]
            rfl
          refine pure_ (i := 15) (N := some 38) (v := ?_) (a' := ?_) (fl 16 18 []) rfl rfl (any_of HT_.out (by kernel_rfl)) (fun _ _ _ h => h) (Or.inl ⟨by rfl, ?_⟩) ?_ ?_
          rotate_left
          · intro w'
            go_simp
            with_reducible rfl
          rotate_left
          · simp only [Act.put, List.setIfInBounds_toArray, List.set_cons_zero, List.set_cons_succ, i64_w, i32_w]
            rfl
          refine last_ (i := 16) (N := none) (fl 17 18 []) rfl rfl (one_of HT_.out (by kernel_rfl)) (by decide) (fun K hK => ?_)
          refine skip_ (w1 := ?_) (by rfl) rfl ?_ ?_
          rotate_left
          · go_simp
            rfl
          refine hK.out _ _ ?_
          clear hK K
          refine pure_ (i := 17) (N := some 7) (v := ?_) (a' := ?_) (fl 18 18 []) rfl rfl (any_of HT_.out (by kernel_rfl)) (fun _ _ _ h => h) (Or.inl ⟨by rfl, ?_⟩) ?_ ?_
          rotate_left
          · intro w'
            go_simp
            with_reducible rfl
          rotate_left
          · simp only [Act.put, List.setIfInBounds_toArray, List.set_cons_zero, List.set_cons_succ, i64_w, i32_w]
            rfl
          refine done_ (done_of HT_.out (by kernel_rfl)) ?_
          try go_wp2
          (try simp only [← hl6_1])
          go_roundg k1
          case measure => have := HK1.out; omega
          case rel => exact ⟨(y384), (sub64b (rd l0_0 x20_1) t383 x7_1), (wrap64 (x20_1 + 1)), (by first | rfl | (simp; done) | (simp [*]; done)), (by first | rfl | (simp; done) | (simp [*]; done)), H', ⟨by have := HK1.out; omega⟩, ⟨by (try simp only [hl6_1]); (with_reducible repeat (first | apply Kd.R_alloc | apply Kd.R_drewN | apply Kd.R_drew)); exact HQ39.out⟩, ⟨by (try simp only [hl6_1]); (with_reducible repeat (first | refine blk_drewN ?_ _ | refine blk_drew ?_ | refine blk_alloc ?_ _)); refine blk_far ?_ (by have h_ := Kd.R_ne HO_6.out BK375.out (by decide); intro e_; exact h_ (by rw [e_]; rfl)) _; (with_reducible repeat (first | refine blk_drewN ?_ _ | refine blk_drew ?_ | refine blk_alloc ?_ _)); exact BK375.out⟩, ⟨by (try simp only [hl6_1]); (with_reducible repeat (first | refine blk_drewN ?_ _ | refine blk_drew ?_ | refine blk_alloc ?_ _)); refine blk_far ?_ (by have h_ := Kd.R_ne HO_6.out BK376.out (by decide); intro e_; exact h_ (by rw [e_]; rfl)) _; (with_reducible repeat (first | refine blk_drewN ?_ _ | refine blk_drew ?_ | refine blk_alloc ?_ _)); exact BK376.out⟩, ⟨by (try simp only [hl6_1]); (with_reducible repeat (first | refine blk_drewN ?_ _ | refine blk_drew ?_ | refine blk_alloc ?_ _)); refine blk_far ?_ (by have h_ := Kd.R_ne HO_6.out BK377.out (by decide); intro e_; exact h_ (by rw [e_]; rfl)) _; (with_reducible repeat (first | refine blk_drewN ?_ _ | refine blk_drew ?_ | refine blk_alloc ?_ _)); exact BK377.out⟩, ⟨by repeat (first | (with_reducible first | exact HB.out | apply below_alloc | apply pw_below_drewN | apply below_drew1 | refine below_set ?_ GB36.out | refine below_set ?_ GE375.out | refine below_set ?_ GE376.out | refine below_set ?_ GE377.out) | exact HB.out)⟩⟩
        · rw [if_neg c30] at H
          have c30b0 : decide (x20_1 < (y379.length : Int)) = false := decide_eq_false c30
          have c30b0x := c30b0
          (try simp only [hl6_1] at c30b0x)
          clear c30
          replace H := Option.bind_eq_some_iff.mp H
          obtain ⟨t385, A400, H⟩ := H
          replace H : (some (t385, true)) = some (r1, r2) := H
          have A40 := Aside0.mk A400
          clear A400
          simp only [Option.some.injEq, Prod.mk.injEq] at H
          obtain ⟨rfl, rfl⟩ := H
          go_wp2_with (first | ((with_reducible refine gate_callee (f := 42) rfl ?_); refine goesL_ (some 41) rfl rfl Try.func42 (by kernel_rfl) rfl #[.slice Ao29 x6_1.length co29] rfl (by (try simp only [List.map_toArray, List.map_cons, List.map_nil]); first | done | rfl | (simp only [List.length_drop, List.length_take]; rfl)) ?_; (with_reducible refine (nat_trimmed.calls k1 (fun k_ => some k_ = (.slice Ao29 x6_1.length co29 : Value).ownBlock) _ _ x6_1 t385 _ ?side1 A40.out).mono ?_); (case side1 => exact Kd.R_V (Kd.R_tight rfl (Kd.R_types (Kd.R_types (Kd.R_types (HO_6.out) BK375.out (by decide)) BK376.out (by decide)) BK377.out (by decide)))); rintro e w41 ⟨v386, rfl, ho0, hb⟩; refine ⟨_, rfl, ?_⟩; have n0_ := Aside0.mk (rb HO_6.out hb); have n1_ := Aside0.mk (Kd.V_lower (Kd.V_mono (ok' := fun k_ => (w.heap.size ≤ k_) ∧ k_ ≠ gb375 ∧ k_ ≠ gb376 ∧ k_ ≠ gb377) ho0 (fun k_ hk_ => ⟨Or.elim hk_ (fun hs_ => ((Kd.R_types (Kd.R_types (Kd.R_types (HO_6.out) BK375.out (by decide)) BK376.out (by decide)) BK377.out (by decide)).1 k_ hs_.symm).1.1.1) (fun hn_ => (Nat.le_trans (bz HB.out) hn_)), Or.elim hk_ (fun hs_ => ((Kd.R_types (Kd.R_types (Kd.R_types (HO_6.out) BK375.out (by decide)) BK376.out (by decide)) BK377.out (by decide)).1 k_ hs_.symm).1.1.2) (fun hn_ => (fb BK375.out k_ hn_)), Or.elim hk_ (fun hs_ => ((Kd.R_types (Kd.R_types (Kd.R_types (HO_6.out) BK375.out (by decide)) BK376.out (by decide)) BK377.out (by decide)).1 k_ hs_.symm).1.2) (fun hn_ => (fb BK376.out k_ hn_)), Or.elim hk_ (fun hs_ => ((Kd.R_types (Kd.R_types (Kd.R_types (HO_6.out) BK375.out (by decide)) BK376.out (by decide)) BK377.out (by decide)).1 k_ hs_.symm).2) (fun hn_ => (fb BK377.out k_ hn_))⟩)) (bz HB.out)); have n2_ := Aside0.mk (bb BK375.out hb); have n3_ := Aside0.mk (bb BK376.out hb); have n4_ := Aside0.mk (bb BK377.out hb); have n5_ := Aside0.mk (bs HB.out hb); clear HO_6; clear BK375; clear BK376; clear BK377; clear HB; have HO_6 := n0_; have HO387 := n1_; have BK375 := n2_; have BK376 := n3_; have BK377 := n4_; have HB := n5_; clear n0_ n1_ n2_ n3_ n4_ n5_; (try clear hb); (try clear hb2); (try clear hk); (try clear hi); (try clear ho0); obtain ⟨Ao42, co42, eo42⟩ := Kd.V_slice HO387.out; subst eo42; have hnb43 := NB377_375.out; have hnc43 := NB375_377.out; have hnb44 := NB377_376.out; have hnc44 := NB376_377.out; have hcz45_0 : w41.cell? ⟨gb377, 0, none⟩ = some (.slice none 0 0) := (blk_cell BK377.out 0).trans rfl; have hfz45_0 := blk_frozen BK377.out 0))
          refine bodyPost_ret (results_ct rfl _ _ gb377 25 #[.slice Ao42 t385.length co42] (0, 0) _ rfl (by (with_reducible repeat (first | refine blk_drewN ?_ _ | refine blk_drew ?_ | refine blk_alloc ?_ _)); refine blk_put (cs := #[.slice none 0 0]) ?_ 0 _ rfl; (with_reducible repeat (first | refine blk_drewN ?_ _ | refine blk_drew ?_ | refine blk_alloc ?_ _)); exact BK377.out) Try.underlying25 rfl (by kernel_rfl)) rfl ?_
          exact ⟨_, by first | rfl | (simp [errW_none, errW_some] <;> rfl) | (simp [*, errW_none, errW_some] <;> rfl), by (with_reducible repeat (first | apply Kd.V_alloc | apply Kd.V_drewN | apply Kd.V_drew)); exact Kd.V_mono (Kd.V_far (p := ⟨gb377, 0, none⟩) (Kd.V_mono HO387.out (fun k_ hk => (⟨hk, hk.2.2.2⟩ : _ ∧ k_ ≠ gb377))) (fun _ hk => hk.2) (.slice Ao42 t385.length co42)) (fun _ hk => hk.1.1), by repeat (first | (with_reducible first | exact HB.out | apply below_alloc | apply pw_below_drewN | apply below_drew1 | refine below_set ?_ GE375.out | refine below_set ?_ GE376.out | refine below_set ?_ GE377.out) | exact HB.out)⟩
end Go.Proofs.Ytebjbmgfbejapaa.F
