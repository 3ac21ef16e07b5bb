-- Joined of: F50 F51 F9 F52 F53
import Derived.Test.YtebjbmgfbejapaaC2637JF12637
import Derived.Test.YtebjbmgfbejapaaC2637JF02637
import Derived.Test.YtebjbmgfbejapaaC2637S
section
namespace Go.Proofs.Ytebjbmgfbejapaa.F
open Go.RowKit Go.Proofs.YtebjbmgfbejapaaW.PrintWords Go.Proofs.YtebjbmgfbejapaaW.PrintLast Go.Proofs.YtebjbmgfbejapaaW.PrintMore Go.Proofs.YtebjbmgfbejapaaX
attribute [local go_sem] max2_int cell_some xrun_add64 xrun_sub64
attribute [local go_sem] max2_int min2_int max_two min_two max_three min_three max_four min_four
set_option linter.unusedVariables false
set_option linter.unusedSimpArgs false
def quot_Div.f (k : Nat) (l0_0 : List Int) (l1_0 : List Int) : Option (List Int × List Int × Int) := (nat_Nat_Zero.f l1_0).bind fun t719 => (if t719 = true then (some (([] : List Int), ([] : List Int), 8)) else ((nat_Nat_Cmp.f k l0_0 l1_0).bind fun t720 => (if t720 < 0 then (some (([] : List Int), l0_0, 0)) else ((nat_Nat_Limbs.f l0_0).bind fun t721 => ((nat_Nat_Limbs.f l1_0).bind fun t724 => (if (t724.length : Int) = 1 then (if 0 < (t724.length : Int) then ((quot_by.f k t721 (rd t724 0)).bind fun bt728 => ((nat_Of.f k bt728.1).bind fun t732 => ((nat_Of.f k (([bt728.2] : List Int))).bind fun t738 => (some (t732, t738, 0))))) else (none)) else ((quot_long.f k t721 t724).bind fun bt741 => ((nat_Of.f k bt741.1).bind fun t747 => ((nat_Of.f k bt741.2).bind fun t750 => (some (t747, t750, 0)))))))))))
theorem quot_Div.mono : ∀ a0 a1 k, LeO (quot_Div.f k a0 a1) (quot_Div.f (k + 1) a0 a1) := by
 intro a0 a1 k
 unfold quot_Div.f
 repeat' first
   | (with_reducible exact nat_Nat_Cmp.mono _ _ _)
   | (with_reducible exact nat_Of.mono _ _)
   | (with_reducible exact quot_by.mono _ _ _)
   | (with_reducible exact quot_long.mono _ _ _)
   | (with_reducible exact LeO.refl _)
   | (with_reducible exact LeO.none _)
   | (with_reducible refine LeO.ite ?_ ?_)
   | (with_reducible refine LeO.bind ?_ (fun _ => ?_))
   | exact nat_Nat_Cmp.mono _ _ _
   | exact nat_Of.mono _ _
   | exact quot_by.mono _ _ _
   | exact quot_long.mono _ _ _
   | exact LeO.none _
   | refine LeO.ite ?_ ?_
   | refine LeO.bind ?_ (fun _ => ?_)
set_option maxHeartbeats 8000000 in
set_option maxRecDepth 100000 in
theorem quot_Div.calls (k : Nat) (P0_0_ : Nat → Prop) (A0_0 : Option Addr) (c0_0 : Nat) (l0_0 : List Int) (A1_0 : Option Addr) (c1_0 : Nat) (l1_0 : List Int) (r1 : List Int) (r2 : List Int) (r3 : Int) (w : World) (hs0_0 : Kd.V (Kd.int .u64) 27 w w.heap.size (fun k_ => P0_0_ k_) (.slice A0_0 l0_0.length c0_0) l0_0) (hr1_0 : Kd.C (Kd.int .u64) w A1_0 l1_0.length l1_0) (hc1_0 : l1_0.length ≤ c1_0) (h : quot_Div.f k l0_0 l1_0 = some (r1, r2, r3)) :
  Calls Try.prog 32 #[.agg #[.slice A0_0 l0_0.length c0_0], .agg #[.slice A1_0 l1_0.length c1_0]] w fun e w' => ∃ v0_ v1_ : Value, e = .returned (.tuple #[.agg #[v0_], .agg #[v1_], .int .i64 r3]) ∧ Kd.V (Kd.int .u64) 27 w' w.heap.size (fun k_ => (P0_0_ k_ ∨ w.heap.size ≤ k_)) v0_ r1 ∧ Kd.V (Kd.int .u64) 27 w' w.heap.size (fun k_ => (P0_0_ k_ ∨ w.heap.size ≤ k_)) v1_ r2 ∧ Below w.heap.size w w' := by
 have hu25 := Try.underlying25
 have HO0_0 := Aside0.mk (show Kd.V (Kd.int .u64) 27 w w.heap.size (fun k_ => (P0_0_ k_ ∨ w.heap.size ≤ k_)) (.slice A0_0 l0_0.length c0_0) l0_0 from Kd.V_mono hs0_0 (fun k_ hk => .inl hk))
 have HR1_0 := Aside0.mk hr1_0
 have HC1_0 := Aside0.mk hc1_0
 clear hr1_0 hc1_0
 have HB := Aside0.mk (Below.refl w.heap.size w)
 have H : ((nat_Nat_Zero.f l1_0).bind fun t719 => (if t719 = true then (some (([] : List Int), ([] : List Int), 8)) else ((nat_Nat_Cmp.f k l0_0 l1_0).bind fun t720 => (if t720 < 0 then (some (([] : List Int), l0_0, 0)) else ((nat_Nat_Limbs.f l0_0).bind fun t721 => ((nat_Nat_Limbs.f l1_0).bind fun t724 => (if (t724.length : Int) = 1 then (if 0 < (t724.length : Int) then ((quot_by.f k t721 (rd t724 0)).bind fun bt728 => ((nat_Of.f k bt728.1).bind fun t732 => ((nat_Of.f k (([bt728.2] : List Int))).bind fun t738 => (some (t732, t738, 0))))) else (none)) else ((quot_long.f k t721 t724).bind fun bt741 => ((nat_Of.f k bt741.1).bind fun t747 => ((nat_Of.f k bt741.2).bind fun t750 => (some (t747, t750, 0)))))))))))) = some (r1, r2, r3) := h
 clear h
 replace H := Option.bind_eq_some_iff.mp H
 obtain ⟨t719, A30, H⟩ := H
 (try dsimp only at H)
 have A3 := Aside0.mk A30
 clear A30
 by_cases c4 : t719 = true
 ·subst c4
  have H1 : (some (([] : List Int), ([] : List Int), 8)) = some (r1, r2, r3) := by rw [if_pos rfl] at H; exact H
  clear H
  have H := H1
  clear H1
  simp only [Option.some.injEq, Prod.mk.injEq] at H
  obtain ⟨rfl, rfl, rfl⟩ := H
  go_enter Try.func32, Try.ntmps32
  go_wp2_with (first | ((with_reducible refine gate_dst (N := 2) rfl ?_); refine box_event ?hg (N := 2) ?hd (cs := #[.slice A0_0 l0_0.length c0_0]) (t := 25) ?hr ?_; (case hd => rfl); (case hg => rfl); (case hr => first | (go_simp; done) | (go_simp; rfl)); intro gb715 hg w5 hbox hb; have n0_ := Aside0.mk (Kd.V_below (Kd.V_elderB HO0_0.out gb715 (Nat.le_of_eq hg.symm)) hb); have n1_ := Aside0.mk (below_step (by repeat (first | (with_reducible first | exact HB.out | apply below_alloc | apply pw_below_drewN | apply below_drew1) | exact HB.out)) hb); have n2_ := Aside0.mk (hbox); have n3_ := Aside0.mk ((by rw [hg]; exact (below_size (by repeat (first | (with_reducible first | exact HB.out | apply below_alloc | apply pw_below_drewN | apply below_drew1) | exact HB.out))) : w.heap.size ≤ gb715)); have n4_ := Aside0.mk ((by rw [hg]; exact (below_size (by repeat (first | (with_reducible first | exact HB.out | apply below_alloc | apply pw_below_drewN | apply below_drew1) | exact HB.out))) : w.heap.size ≤ gb715)); clear HO0_0; clear HB; have HO0_0 := n0_; have HB := n1_; have BK715 := n2_; have GW715 := n3_; have GE715 := n4_; clear n0_ n1_ n2_ n3_ n4_; clear hb hbox hg) | ((with_reducible refine gate_dst (N := 3) rfl ?_); refine box_event ?hg (N := 3) ?hd (cs := #[.slice A1_0 l1_0.length c1_0]) (t := 25) ?hr ?_; (case hd => rfl); (case hg => rfl); (case hr => first | (go_simp; done) | (go_simp; rfl)); intro gb716 hg w6 hbox hb; have n0_ := Aside0.mk (Kd.V_below (Kd.V_elderB HO0_0.out gb716 (Nat.le_of_eq hg.symm)) hb); have n1_ := Aside0.mk (bb BK715.out hb); have n2_ := Aside0.mk (bs HB.out hb); have n3_ := Aside0.mk (hbox); have n4_ := Aside0.mk ((by rw [hg]; exact (bz HB.out) : w.heap.size ≤ gb716)); have n5_ := Aside0.mk ((by rw [hg]; exact (bz HB.out) : w.heap.size ≤ gb716)); have n6_ := Aside0.mk ((by rw [hg]; exact Nat.ne_of_lt (blk_lt (g := gb715) (o := .cells #[.slice A0_0 l0_0.length c0_0] 25 (0, 0)) BK715.out) : gb715 ≠ gb716)); have n7_ := Aside0.mk ((by rw [hg]; exact Nat.ne_of_gt (blk_lt (g := gb715) (o := .cells #[.slice A0_0 l0_0.length c0_0] 25 (0, 0)) BK715.out) : gb716 ≠ gb715)); clear HO0_0; clear BK715; clear HB; have HO0_0 := n0_; have BK715 := n1_; have HB := n2_; have BK716 := n3_; have GW716 := n4_; have GE716 := n5_; have NB715_716 := n6_; have NB716_715 := n7_; clear n0_ n1_ n2_ n3_ n4_ n5_ n6_ n7_; clear hb hbox hg) | ((with_reducible refine gate_dst (N := 4) rfl ?_); refine box_event ?hg (N := 4) ?hd (cs := #[.slice none 0 0]) (t := 25) ?hr ?_; (case hd => rfl); (case hg => rfl); (case hr => first | (go_simp; done) | (go_simp; rfl)); intro gb717 hg w7 hbox hb; have n0_ := Aside0.mk (Kd.V_below (Kd.V_elderB HO0_0.out gb717 (Nat.le_of_eq hg.symm)) hb); have n1_ := Aside0.mk (bb BK715.out hb); have n2_ := Aside0.mk (bb BK716.out hb); have n3_ := Aside0.mk (bs HB.out hb); have n4_ := Aside0.mk (hbox); have n5_ := Aside0.mk ((by rw [hg]; exact (bz HB.out) : w.heap.size ≤ gb717)); have n6_ := Aside0.mk ((by rw [hg]; exact (bz HB.out) : w.heap.size ≤ gb717)); have n7_ := Aside0.mk ((by rw [hg]; exact Nat.ne_of_lt (blk_lt (g := gb715) (o := .cells #[.slice A0_0 l0_0.length c0_0] 25 (0, 0)) BK715.out) : gb715 ≠ gb717)); have n8_ := Aside0.mk ((by rw [hg]; exact Nat.ne_of_gt (blk_lt (g := gb715) (o := .cells #[.slice A0_0 l0_0.length c0_0] 25 (0, 0)) BK715.out) : gb717 ≠ gb715)); have n9_ := Aside0.mk ((by rw [hg]; exact Nat.ne_of_lt (blk_lt (g := gb716) (o := .cells #[.slice A1_0 l1_0.length c1_0] 25 (0, 0)) BK716.out) : gb716 ≠ gb717)); have n10_ := Aside0.mk ((by rw [hg]; exact Nat.ne_of_gt (blk_lt (g := gb716) (o := .cells #[.slice A1_0 l1_0.length c1_0] 25 (0, 0)) BK716.out) : gb717 ≠ gb716)); clear HO0_0; clear BK715; clear BK716; clear HB; have HO0_0 := n0_; have BK715 := n1_; have BK716 := n2_; have HB := n3_; have BK717 := n4_; have GW717 := n5_; have GE717 := n6_; have NB715_717 := n7_; have NB717_715 := n8_; have NB716_717 := n9_; have NB717_716 := n10_; clear n0_ n1_ n2_ n3_ n4_ n5_ n6_ n7_ n8_ n9_ n10_; clear hb hbox hg) | ((with_reducible refine gate_dst (N := 5) rfl ?_); refine box_event ?hg (N := 5) ?hd (cs := #[.slice none 0 0]) (t := 25) ?hr ?_; (case hd => rfl); (case hg => rfl); (case hr => first | (go_simp; done) | (go_simp; rfl)); intro gb718 hg w8 hbox hb; have n0_ := Aside0.mk (Kd.V_below (Kd.V_elderB HO0_0.out gb718 (Nat.le_of_eq hg.symm)) hb); have n1_ := Aside0.mk (bb BK715.out hb); have n2_ := Aside0.mk (bb BK716.out hb); have n3_ := Aside0.mk (bb BK717.out hb); have n4_ := Aside0.mk (bs HB.out hb); have n5_ := Aside0.mk (hbox); have n6_ := Aside0.mk ((by rw [hg]; exact (bz HB.out) : w.heap.size ≤ gb718)); have n7_ := Aside0.mk ((by rw [hg]; exact (bz HB.out) : w.heap.size ≤ gb718)); have n8_ := Aside0.mk ((by rw [hg]; exact Nat.ne_of_lt (blk_lt (g := gb715) (o := .cells #[.slice A0_0 l0_0.length c0_0] 25 (0, 0)) BK715.out) : gb715 ≠ gb718)); have n9_ := Aside0.mk ((by rw [hg]; exact Nat.ne_of_gt (blk_lt (g := gb715) (o := .cells #[.slice A0_0 l0_0.length c0_0] 25 (0, 0)) BK715.out) : gb718 ≠ gb715)); have n10_ := Aside0.mk ((by rw [hg]; exact Nat.ne_of_lt (blk_lt (g := gb716) (o := .cells #[.slice A1_0 l1_0.length c1_0] 25 (0, 0)) BK716.out) : gb716 ≠ gb718)); have n11_ := Aside0.mk ((by rw [hg]; exact Nat.ne_of_gt (blk_lt (g := gb716) (o := .cells #[.slice A1_0 l1_0.length c1_0] 25 (0, 0)) BK716.out) : gb718 ≠ gb716)); have n12_ := Aside0.mk ((by rw [hg]; exact Nat.ne_of_lt (blk_lt (g := gb717) (o := .cells #[.slice none 0 0] 25 (0, 0)) BK717.out) : gb717 ≠ gb718)); have n13_ := Aside0.mk ((by rw [hg]; exact Nat.ne_of_gt (blk_lt (g := gb717) (o := .cells #[.slice none 0 0] 25 (0, 0)) BK717.out) : gb718 ≠ gb717)); clear HO0_0; clear BK715; clear BK716; clear BK717; clear HB; have HO0_0 := n0_; have BK715 := n1_; have BK716 := n2_; have BK717 := n3_; have HB := n4_; have BK718 := n5_; have GW718 := n6_; have GE718 := n7_; have NB715_718 := n8_; have NB718_715 := n9_; have NB716_718 := n10_; have NB718_716 := n11_; have NB717_718 := n12_; have NB718_717 := n13_; clear n0_ n1_ n2_ n3_ n4_ n5_ n6_ n7_ n8_ n9_ n10_ n11_ n12_ n13_; clear hb hbox hg; have hnb9 := NB716_715.out; have hnc9 := NB715_716.out; have hnb10 := NB716_717.out; have hnc10 := NB717_716.out; have hnb11 := NB716_718.out; have hnc11 := NB718_716.out; have hcz12_0 : w8.cell? ⟨gb716, 0, none⟩ = some (.slice A1_0 l1_0.length c1_0) := (blk_cell BK716.out 0).trans rfl; have hfz12_0 := blk_frozen BK716.out 0) | ((with_reducible refine gate_callee (f := 18) rfl ?_); refine goesL_ (some 14) rfl rfl Try.func18 (by kernel_rfl) rfl #[.agg #[.slice A1_0 l1_0.length c1_0]] rfl (by (try simp only [List.map_toArray, List.map_cons, List.map_nil]); first | done | rfl | (simp only [List.length_drop, List.length_take]; rfl)) ?_; (with_reducible refine (nat_Nat_Zero.calls _ _ l1_0 true _ ?side1 ?side2 A3.out).mono ?_); (case side1 => repeat (first | exact (Kd.C_below HR1_0.out HB.out) | (with_reducible refine Kd.C_alloc ?_ _) | (with_reducible refine Kd.C_drewN ?_ _) | (with_reducible refine Kd.C_drew ?_))); (case side2 => exact HC1_0.out); rintro e w13 ⟨rfl, hb⟩; refine ⟨_, rfl, ?_⟩; replace HO0_0 := Aside0.mk (vb HO0_0.out hb); replace BK715 := Aside0.mk (bb BK715.out hb); replace BK716 := Aside0.mk (bb BK716.out hb); replace BK717 := Aside0.mk (bb BK717.out hb); replace BK718 := Aside0.mk (bb BK718.out hb); replace HB := Aside0.mk (bs HB.out hb); (try clear hb); (try clear hb2); (try clear hk); (try clear hi); have hnb14 := NB717_715.out; have hnc14 := NB715_717.out; have hnb15 := NB717_718.out; have hnc15 := NB718_717.out; have hcz16_0 : w13.cell? ⟨gb717, 0, none⟩ = some (.slice none 0 0) := (blk_cell BK717.out 0).trans rfl; have hfz16_0 := blk_frozen BK717.out 0; have hnb17 := NB718_715.out; have hnc17 := NB715_718.out; have hcz18_0 : w13.cell? ⟨gb718, 0, none⟩ = some (.slice none 0 0) := (blk_cell BK718.out 0).trans rfl; have hfz18_0 := blk_frozen BK718.out 0))
  refine bodyPost_ret (results_list (rs := [.cell 4 25, .cell 5 25, .tmp 6]) rfl (by simp) (.cell gb717 25 #[.slice none 0 0] (0, 0) _ rfl (by (with_reducible repeat (first | refine blk_drewN ?_ _ | refine blk_drew ?_ | refine blk_alloc ?_ _)); refine blk_far ?_ NB717_718.out _; (with_reducible repeat (first | refine blk_drewN ?_ _ | refine blk_drew ?_ | refine blk_alloc ?_ _)); refine blk_put (cs := #[.slice none 0 0]) ?_ 0 _ rfl; (with_reducible repeat (first | refine blk_drewN ?_ _ | refine blk_drew ?_ | refine blk_alloc ?_ _)); exact BK717.out) Try.underlying25 rfl (by kernel_rfl) (.cell gb718 25 #[.slice none 0 0] (0, 0) _ rfl (by (with_reducible repeat (first | refine blk_drewN ?_ _ | refine blk_drew ?_ | refine blk_alloc ?_ _)); refine blk_put (cs := #[.slice none 0 0]) ?_ 0 _ rfl; (with_reducible repeat (first | refine blk_drewN ?_ _ | refine blk_drew ?_ | refine blk_alloc ?_ _)); refine blk_far ?_ NB718_717.out _; (with_reducible repeat (first | refine blk_drewN ?_ _ | refine blk_drew ?_ | refine blk_alloc ?_ _)); exact BK718.out) Try.underlying25 rfl (by kernel_rfl) (.tmp .nil)))) rfl ?_
  exact ⟨_, _, by first | rfl | (simp [errW_none, errW_some] <;> rfl) | (simp [*, errW_none, errW_some] <;> rfl), Kd.V_mono (Kd.V_nil _ _ _ _ _) (fun k_ hk => by first | exact ⟨(.inr (hk.1)), hk.2⟩ | exact (.inr (hk))), Kd.V_mono (Kd.V_nil _ _ _ _ _) (fun k_ hk => by first | exact ⟨(.inr (hk.1)), hk.2⟩ | exact (.inr (hk))), by repeat (first | (with_reducible first | exact HB.out | apply below_alloc | apply pw_below_drewN | apply below_drew1 | refine below_set ?_ GE715.out | refine below_set ?_ GE716.out | refine below_set ?_ GE717.out | refine below_set ?_ GE718.out) | exact HB.out)⟩
 ·replace c4 := Bool.eq_false_iff.mpr c4
  subst c4
  have H1 : ((nat_Nat_Cmp.f k l0_0 l1_0).bind fun t720 => (if t720 < 0 then (some (([] : List Int), l0_0, 0)) else ((nat_Nat_Limbs.f l0_0).bind fun t721 => ((nat_Nat_Limbs.f l1_0).bind fun t724 => (if (t724.length : Int) = 1 then (if 0 < (t724.length : Int) then ((quot_by.f k t721 (rd t724 0)).bind fun bt728 => ((nat_Of.f k bt728.1).bind fun t732 => ((nat_Of.f k (([bt728.2] : List Int))).bind fun t738 => (some (t732, t738, 0))))) else (none)) else ((quot_long.f k t721 t724).bind fun bt741 => ((nat_Of.f k bt741.1).bind fun t747 => ((nat_Of.f k bt741.2).bind fun t750 => (some (t747, t750, 0)))))))))) = some (r1, r2, r3) := by rw [if_neg (show ¬ (false = true) by decide)] at H; exact H
  clear H
  have H := H1
  clear H1
  replace H := Option.bind_eq_some_iff.mp H
  obtain ⟨t720, A190, H⟩ := H
  (try dsimp only at H)
  have A19 := Aside0.mk A190
  clear A190
  by_cases c20 : t720 < 0
  ·rw [if_pos c20] at H
   have c20b0 : decide (t720 < 0) = true := decide_eq_true c20
   clear c20
   simp only [Option.some.injEq, Prod.mk.injEq] at H
   obtain ⟨rfl, rfl, rfl⟩ := H
   go_enter Try.func32, Try.ntmps32
   try go_wp2_with (first | ((with_reducible refine gate_dst (N := 2) rfl ?_); refine box_event ?hg (N := 2) ?hd (cs := #[.slice A0_0 l0_0.length c0_0]) (t := 25) ?hr ?_; (case hd => rfl); (case hg => rfl); (case hr => first | (go_simp; done) | (go_simp; rfl)); intro gb715 hg w21 hbox hb; have n0_ := Aside0.mk (Kd.V_below (Kd.V_elderB HO0_0.out gb715 (Nat.le_of_eq hg.symm)) hb); have n1_ := Aside0.mk (below_step (by repeat (first | (with_reducible first | exact HB.out | apply below_alloc | apply pw_below_drewN | apply below_drew1) | exact HB.out)) hb); have n2_ := Aside0.mk (hbox); have n3_ := Aside0.mk ((by rw [hg]; exact (below_size (by repeat (first | (with_reducible first | exact HB.out | apply below_alloc | apply pw_below_drewN | apply below_drew1) | exact HB.out))) : w.heap.size ≤ gb715)); have n4_ := Aside0.mk ((by rw [hg]; exact (below_size (by repeat (first | (with_reducible first | exact HB.out | apply below_alloc | apply pw_below_drewN | apply below_drew1) | exact HB.out))) : w.heap.size ≤ gb715)); clear HO0_0; clear HB; have HO0_0 := n0_; have HB := n1_; have BK715 := n2_; have GW715 := n3_; have GE715 := n4_; clear n0_ n1_ n2_ n3_ n4_; clear hb hbox hg) | ((with_reducible refine gate_dst (N := 3) rfl ?_); refine box_event ?hg (N := 3) ?hd (cs := #[.slice A1_0 l1_0.length c1_0]) (t := 25) ?hr ?_; (case hd => rfl); (case hg => rfl); (case hr => first | (go_simp; done) | (go_simp; rfl)); intro gb716 hg w22 hbox hb; have n0_ := Aside0.mk (Kd.V_below (Kd.V_elderB HO0_0.out gb716 (Nat.le_of_eq hg.symm)) hb); have n1_ := Aside0.mk (bb BK715.out hb); have n2_ := Aside0.mk (bs HB.out hb); have n3_ := Aside0.mk (hbox); have n4_ := Aside0.mk ((by rw [hg]; exact (bz HB.out) : w.heap.size ≤ gb716)); have n5_ := Aside0.mk ((by rw [hg]; exact (bz HB.out) : w.heap.size ≤ gb716)); have n6_ := Aside0.mk ((by rw [hg]; exact Nat.ne_of_lt (blk_lt (g := gb715) (o := .cells #[.slice A0_0 l0_0.length c0_0] 25 (0, 0)) BK715.out) : gb715 ≠ gb716)); have n7_ := Aside0.mk ((by rw [hg]; exact Nat.ne_of_gt (blk_lt (g := gb715) (o := .cells #[.slice A0_0 l0_0.length c0_0] 25 (0, 0)) BK715.out) : gb716 ≠ gb715)); clear HO0_0; clear BK715; clear HB; have HO0_0 := n0_; have BK715 := n1_; have HB := n2_; have BK716 := n3_; have GW716 := n4_; have GE716 := n5_; have NB715_716 := n6_; have NB716_715 := n7_; clear n0_ n1_ n2_ n3_ n4_ n5_ n6_ n7_; clear hb hbox hg) | ((with_reducible refine gate_dst (N := 4) rfl ?_); refine box_event ?hg (N := 4) ?hd (cs := #[.slice none 0 0]) (t := 25) ?hr ?_; (case hd => rfl); (case hg => rfl); (case hr => first | (go_simp; done) | (go_simp; rfl)); intro gb717 hg w23 hbox hb; have n0_ := Aside0.mk (Kd.V_below (Kd.V_elderB HO0_0.out gb717 (Nat.le_of_eq hg.symm)) hb); have n1_ := Aside0.mk (bb BK715.out hb); have n2_ := Aside0.mk (bb BK716.out hb); have n3_ := Aside0.mk (bs HB.out hb); have n4_ := Aside0.mk (hbox); have n5_ := Aside0.mk ((by rw [hg]; exact (bz HB.out) : w.heap.size ≤ gb717)); have n6_ := Aside0.mk ((by rw [hg]; exact (bz HB.out) : w.heap.size ≤ gb717)); have n7_ := Aside0.mk ((by rw [hg]; exact Nat.ne_of_lt (blk_lt (g := gb715) (o := .cells #[.slice A0_0 l0_0.length c0_0] 25 (0, 0)) BK715.out) : gb715 ≠ gb717)); have n8_ := Aside0.mk ((by rw [hg]; exact Nat.ne_of_gt (blk_lt (g := gb715) (o := .cells #[.slice A0_0 l0_0.length c0_0] 25 (0, 0)) BK715.out) : gb717 ≠ gb715)); have n9_ := Aside0.mk ((by rw [hg]; exact Nat.ne_of_lt (blk_lt (g := gb716) (o := .cells #[.slice A1_0 l1_0.length c1_0] 25 (0, 0)) BK716.out) : gb716 ≠ gb717)); have n10_ := Aside0.mk ((by rw [hg]; exact Nat.ne_of_gt (blk_lt (g := gb716) (o := .cells #[.slice A1_0 l1_0.length c1_0] 25 (0, 0)) BK716.out) : gb717 ≠ gb716)); clear HO0_0; clear BK715; clear BK716; clear HB; have HO0_0 := n0_; have BK715 := n1_; have BK716 := n2_; have HB := n3_; have BK717 := n4_; have GW717 := n5_; have GE717 := n6_; have NB715_717 := n7_; have NB717_715 := n8_; have NB716_717 := n9_; have NB717_716 := n10_; clear n0_ n1_ n2_ n3_ n4_ n5_ n6_ n7_ n8_ n9_ n10_; clear hb hbox hg) | ((with_reducible refine gate_dst (N := 5) rfl ?_); refine box_event ?hg (N := 5) ?hd (cs := #[.slice none 0 0]) (t := 25) ?hr ?_; (case hd => rfl); (case hg => rfl); (case hr => first | (go_simp; done) | (go_simp; rfl)); intro gb718 hg w24 hbox hb; have n0_ := Aside0.mk (Kd.V_below (Kd.V_elderB HO0_0.out gb718 (Nat.le_of_eq hg.symm)) hb); have n1_ := Aside0.mk (bb BK715.out hb); have n2_ := Aside0.mk (bb BK716.out hb); have n3_ := Aside0.mk (bb BK717.out hb); have n4_ := Aside0.mk (bs HB.out hb); have n5_ := Aside0.mk (hbox); have n6_ := Aside0.mk ((by rw [hg]; exact (bz HB.out) : w.heap.size ≤ gb718)); have n7_ := Aside0.mk ((by rw [hg]; exact (bz HB.out) : w.heap.size ≤ gb718)); have n8_ := Aside0.mk ((by rw [hg]; exact Nat.ne_of_lt (blk_lt (g := gb715) (o := .cells #[.slice A0_0 l0_0.length c0_0] 25 (0, 0)) BK715.out) : gb715 ≠ gb718)); have n9_ := Aside0.mk ((by rw [hg]; exact Nat.ne_of_gt (blk_lt (g := gb715) (o := .cells #[.slice A0_0 l0_0.length c0_0] 25 (0, 0)) BK715.out) : gb718 ≠ gb715)); have n10_ := Aside0.mk ((by rw [hg]; exact Nat.ne_of_lt (blk_lt (g := gb716) (o := .cells #[.slice A1_0 l1_0.length c1_0] 25 (0, 0)) BK716.out) : gb716 ≠ gb718)); have n11_ := Aside0.mk ((by rw [hg]; exact Nat.ne_of_gt (blk_lt (g := gb716) (o := .cells #[.slice A1_0 l1_0.length c1_0] 25 (0, 0)) BK716.out) : gb718 ≠ gb716)); have n12_ := Aside0.mk ((by rw [hg]; exact Nat.ne_of_lt (blk_lt (g := gb717) (o := .cells #[.slice none 0 0] 25 (0, 0)) BK717.out) : gb717 ≠ gb718)); have n13_ := Aside0.mk ((by rw [hg]; exact Nat.ne_of_gt (blk_lt (g := gb717) (o := .cells #[.slice none 0 0] 25 (0, 0)) BK717.out) : gb718 ≠ gb717)); clear HO0_0; clear BK715; clear BK716; clear BK717; clear HB; have HO0_0 := n0_; have BK715 := n1_; have BK716 := n2_; have BK717 := n3_; have HB := n4_; have BK718 := n5_; have GW718 := n6_; have GE718 := n7_; have NB715_718 := n8_; have NB718_715 := n9_; have NB716_718 := n10_; have NB718_716 := n11_; have NB717_718 := n12_; have NB718_717 := n13_; clear n0_ n1_ n2_ n3_ n4_ n5_ n6_ n7_ n8_ n9_ n10_ n11_ n12_ n13_; clear hb hbox hg; have hnb25 := NB716_715.out; have hnc25 := NB715_716.out; have hnb26 := NB716_717.out; have hnc26 := NB717_716.out; have hnb27 := NB716_718.out; have hnc27 := NB718_716.out; have hcz28_0 : w24.cell? ⟨gb716, 0, none⟩ = some (.slice A1_0 l1_0.length c1_0) := (blk_cell BK716.out 0).trans rfl; have hfz28_0 := blk_frozen BK716.out 0) | ((with_reducible refine gate_callee (f := 18) rfl ?_); refine goesL_ (some 14) rfl rfl Try.func18 (by kernel_rfl) rfl #[.agg #[.slice A1_0 l1_0.length c1_0]] rfl (by (try simp only [List.map_toArray, List.map_cons, List.map_nil]); first | done | rfl | (simp only [List.length_drop, List.length_take]; rfl)) ?_; (with_reducible refine (nat_Nat_Zero.calls _ _ l1_0 false _ ?side1 ?side2 A3.out).mono ?_); (case side1 => repeat (first | exact (Kd.C_below HR1_0.out HB.out) | (with_reducible refine Kd.C_alloc ?_ _) | (with_reducible refine Kd.C_drewN ?_ _) | (with_reducible refine Kd.C_drew ?_))); (case side2 => exact HC1_0.out); rintro e w29 ⟨rfl, hb⟩; refine ⟨_, rfl, ?_⟩; replace HO0_0 := Aside0.mk (vb HO0_0.out hb); replace BK715 := Aside0.mk (bb BK715.out hb); replace BK716 := Aside0.mk (bb BK716.out hb); replace BK717 := Aside0.mk (bb BK717.out hb); replace BK718 := Aside0.mk (bb BK718.out hb); replace HB := Aside0.mk (bs HB.out hb); (try clear hb); (try clear hb2); (try clear hk); (try clear hi); have hnb30 := NB715_717.out; have hnc30 := NB717_715.out; have hnb31 := NB715_718.out; have hnc31 := NB718_715.out; have hcz32_0 : w29.cell? ⟨gb715, 0, none⟩ = some (.slice A0_0 l0_0.length c0_0) := (blk_cell BK715.out 0).trans rfl; have hfz32_0 := blk_frozen BK715.out 0; have hcz33_0 : w29.cell? ⟨gb716, 0, none⟩ = some (.slice A1_0 l1_0.length c1_0) := (blk_cell BK716.out 0).trans rfl; have hfz33_0 := blk_frozen BK716.out 0) | ((with_reducible refine gate_callee (f := 21) rfl ?_); refine goesL_ (some 19) rfl rfl Try.func21 (by kernel_rfl) rfl #[.agg #[.slice A0_0 l0_0.length c0_0], .agg #[.slice A1_0 l1_0.length c1_0]] rfl (by (try simp only [List.map_toArray, List.map_cons, List.map_nil]); first | done | rfl | (simp only [List.length_drop, List.length_take]; rfl)) ?_; (with_reducible refine (nat_Nat_Cmp.calls k _ _ l0_0 _ _ l1_0 t720 _ ?side1 ?side2 ?side3 ?side4 A19.out).mono ?_); (case side1 => exact cv HO0_0.out); (case side2 => exact (Kd.V_reads' HO0_0.out).2.1); (case side3 => repeat (first | exact (Kd.C_below HR1_0.out HB.out) | (with_reducible refine Kd.C_alloc ?_ _) | (with_reducible refine Kd.C_drewN ?_ _) | (with_reducible refine Kd.C_drew ?_))); (case side4 => exact HC1_0.out); rintro e w34 ⟨rfl, hb⟩; refine ⟨_, rfl, ?_⟩; replace HO0_0 := Aside0.mk (vb HO0_0.out hb); replace BK715 := Aside0.mk (bb BK715.out hb); replace BK716 := Aside0.mk (bb BK716.out hb); replace BK717 := Aside0.mk (bb BK717.out hb); replace BK718 := Aside0.mk (bb BK718.out hb); replace HB := Aside0.mk (bs HB.out hb); (try clear hb); (try clear hb2); (try clear hk); (try clear hi)))
   replace HO0_0 := Aside0.mk (Kd.V_drew HO0_0.out)
   replace BK715 := Aside0.mk (blk_drew BK715.out)
   replace BK716 := Aside0.mk (blk_drew BK716.out)
   replace BK717 := Aside0.mk (blk_drew BK717.out)
   replace BK718 := Aside0.mk (blk_drew BK718.out)
   replace HB := Aside0.mk (below_drew1 HB.out)
   refine start_ (n := 5) (S := fun w' => w'.cell? ⟨gb715, 0, none⟩ = some (.slice A0_0 l0_0.length c0_0)) (ds := []) #[false, false, false, false, false] (by kernel_rfl) rfl rfl ((blk_cell BK715.out 0).trans rfl) (fun hHeld => ?_)
   generalize w34.drew = w35 at HO0_0 BK715 BK716 BK717 BK718 HB hHeld ⊢
   refine pure_ (i := 0) (N := some 21) (v := ?_) (a' := ?_) #[true, false, false, false, false] rfl rfl (by kernel_rfl) (fun _ _ _ h => h) (Or.inl ⟨by rfl, ?_⟩) ?_ ?_
   rotate_left
   ·intro w'
    go_simp
    with_reducible rfl
   rotate_left
   ·simp only [Act.put, List.setIfInBounds_toArray, List.set_cons_zero, List.set_cons_succ, i64_w, i32_w]
    rfl
   refine take_ (i := 1) (N := some 22) (v := ?_) (a' := ?_) #[true, true, false, false, false] rfl rfl (by kernel_rfl) (fun _ _ _ h => h) (Or.inl ⟨by rfl, ?_⟩) hHeld ?_ ?_
   rotate_left
   ·intro w' s0
    go_simp
    with_reducible rfl
   rotate_left
   ·simp only [Act.put, List.setIfInBounds_toArray, List.set_cons_zero, List.set_cons_succ, i64_w, i32_w]
    rfl
   refine one_ (i := 2) (N := none) #[true, true, true, false, false] rfl rfl (by kernel_rfl) (by decide) (fun K hK => ?_)
   have hs36 : w35.cell? ⟨gb717, 0, none⟩ = some (.slice none 0 0) := (blk_cell BK717.out 0).trans rfl
   have hfs36 := blk_frozen BK717.out 0
   have hns36_0 := NB715_717.out
   have hns36_1 := NB716_717.out
   have hns36_3 := NB718_717.out
   have hms36_0 := NB717_715.out
   have hms36_1 := NB717_716.out
   have hms36_3 := NB717_718.out
   refine skip_ (w1 := ?_) (by rfl) rfl ?_ ?_
   rotate_left
   ·go_simp
    rfl
   refine hK.out _ _ (((cell_far (p := ⟨gb717, _, none⟩) NB715_717.out _).trans (hHeld))) (fun hHeld => ?_)
   clear hK K
   refine one_ (i := 3) (N := none) #[true, true, true, true, false] rfl rfl (by kernel_rfl) (by decide) (fun K hK => ?_)
   have hs37 : w35.cell? ⟨gb718, 0, none⟩ = some (.slice none 0 0) := (blk_cell BK718.out 0).trans rfl
   have hfs37 := blk_frozen BK718.out 0
   have hns37_0 := NB715_718.out
   have hns37_1 := NB716_718.out
   have hns37_2 := NB717_718.out
   have hms37_0 := NB718_715.out
   have hms37_1 := NB718_716.out
   have hms37_2 := NB718_717.out
   refine skip_ (w1 := ?_) (by rfl) rfl ?_ ?_
   rotate_left
   ·go_simp
    rfl
   refine hK.out _ _ (((cell_far (p := ⟨gb718, _, none⟩) NB715_718.out _).trans (hHeld))) (fun hHeld => ?_)
   clear hK K
   refine pure_ (i := 4) (N := some 6) (v := ?_) (a' := ?_) #[true, true, true, true, true] rfl rfl (by kernel_rfl) (fun _ _ _ h => h) (Or.inl ⟨by rfl, ?_⟩) ?_ ?_
   rotate_left
   ·intro w'
    go_simp
    with_reducible rfl
   rotate_left
   ·simp only [Act.put, List.setIfInBounds_toArray, List.set_cons_zero, List.set_cons_succ, i64_w, i32_w]
    rfl
   refine done_ (by kernel_rfl) ?_
   try go_wp2
   refine bodyPost_ret (results_list (rs := [.cell 4 25, .cell 5 25, .tmp 6]) rfl (by simp) (.cell gb717 25 #[.slice none 0 0] (0, 0) _ rfl (by (with_reducible repeat (first | refine blk_drewN ?_ _ | refine blk_drew ?_ | refine blk_alloc ?_ _)); refine blk_far ?_ NB717_718.out _; (with_reducible repeat (first | refine blk_drewN ?_ _ | refine blk_drew ?_ | refine blk_alloc ?_ _)); refine blk_put (cs := #[.slice none 0 0]) ?_ 0 _ rfl; (with_reducible repeat (first | refine blk_drewN ?_ _ | refine blk_drew ?_ | refine blk_alloc ?_ _)); exact BK717.out) Try.underlying25 rfl (by kernel_rfl) (.cell gb718 25 #[.slice A0_0 l0_0.length c0_0] (0, 0) _ rfl (by (with_reducible repeat (first | refine blk_drewN ?_ _ | refine blk_drew ?_ | refine blk_alloc ?_ _)); refine blk_put (cs := #[.slice none 0 0]) ?_ 0 _ rfl; (with_reducible repeat (first | refine blk_drewN ?_ _ | refine blk_drew ?_ | refine blk_alloc ?_ _)); refine blk_far ?_ NB718_717.out _; (with_reducible repeat (first | refine blk_drewN ?_ _ | refine blk_drew ?_ | refine blk_alloc ?_ _)); exact BK718.out) Try.underlying25 rfl (by kernel_rfl) (.tmp .nil)))) rfl ?_
   exact ⟨_, _, by first | rfl | (simp [errW_none, errW_some] <;> rfl) | (simp [*, errW_none, errW_some] <;> rfl), Kd.V_mono (Kd.V_nil _ _ _ _ _) (fun k_ hk => by first | exact ⟨(.inr (hk.1)), hk.2⟩ | exact (.inr (hk))), by (with_reducible repeat (first | apply Kd.V_alloc | apply Kd.V_drewN | apply Kd.V_drew)); exact Kd.V_mono (Kd.V_far (p := ⟨gb718, 0, none⟩) (Kd.V_far (p := ⟨gb717, 0, none⟩) (Kd.V_mono (Kd.V_mono HO0_0.out (fun k_ hk => (⟨hk, hk.1.2⟩ : _ ∧ k_ ≠ gb717))) (fun k_ hk => (⟨hk, hk.1.2⟩ : _ ∧ k_ ≠ gb718))) (fun _ hk => hk.1.2) (.slice none 0 0)) (fun _ hk => hk.2) (.slice A0_0 l0_0.length c0_0)) (fun _ hk => hk.1.1.1.1.1.1), by repeat (first | (with_reducible first | exact HB.out | apply below_alloc | apply pw_below_drewN | apply below_drew1 | refine below_set ?_ GE715.out | refine below_set ?_ GE716.out | refine below_set ?_ GE717.out | refine below_set ?_ GE718.out) | exact HB.out)⟩
  ·rw [if_neg c20] at H
   have c20b0 : decide (t720 < 0) = false := decide_eq_false c20
   clear c20
   replace H := Option.bind_eq_some_iff.mp H
   obtain ⟨t721, A380, H⟩ := H
   (try dsimp only at H)
   have A38 := Aside0.mk A380
   clear A380
   replace H := Option.bind_eq_some_iff.mp H
   obtain ⟨t724, A390, H⟩ := H
   (try dsimp only at H)
   have A39 := Aside0.mk A390
   clear A390
   by_cases c40 : (t724.length : Int) = 1
   ·rw [if_pos c40] at H
    have c40b0 : ((t724.length : Int) == 1) = true := beq_iff_eq.mpr c40
    have c40b1 : ((t724.length : Int) != 1) = false := bne_eq_false_iff_eq.mpr c40
    clear c40
    by_cases c41 : 0 < (t724.length : Int)
    rotate_left
    ·rw [if_neg c41] at H
     exact absurd H (by simp)
    rw [if_pos c41] at H
    have c41b0 : decide (0 < (t724.length : Int)) = true := decide_eq_true c41
    have c41b1 : decide (0 < t724.length) = true := decide_eq_true (by omega)
    clear c41
    replace H := Option.bind_eq_some_iff.mp H
    obtain ⟨⟨t728, t729⟩, A420, H⟩ := H
    (try dsimp only at H)
    have A42 := Aside0.mk A420
    clear A420
    replace H := Option.bind_eq_some_iff.mp H
    obtain ⟨t732, A430, H⟩ := H
    (try dsimp only at H)
    have A43 := Aside0.mk A430
    clear A430
    obtain ⟨y735, hy735⟩ : ∃ y_ : List Int, y_ = (([t729] : List Int)) := ⟨_, rfl⟩
    replace H : ((nat_Of.f k y735).bind fun t738 => (some (t732, t738, 0))) = some (r1, r2, r3) := by first | (rw [hy735]; with_reducible exact H) | (have H2_ := (Option.bind_some _ _).symm.trans H; rw [hy735]; with_reducible exact H2_) | (have H2_ := (Option.bind_some _ _).symm.trans H; with_reducible exact H2_) | with_reducible exact H | (rw [hy735]; exact H) | exact H
    have Ny735 := Aside0.mk hy735
    clear hy735
    replace H := Option.bind_eq_some_iff.mp H
    obtain ⟨t738, A440, H⟩ := H
    (try dsimp only at H)
    have A44 := Aside0.mk A440
    clear A440
    simp only [Option.some.injEq, Prod.mk.injEq] at H
    obtain ⟨rfl, rfl, rfl⟩ := H
    go_enter Try.func32, Try.ntmps32
    try go_wp2_with (first | ((with_reducible refine gate_dst (N := 2) rfl ?_); refine box_event ?hg (N := 2) ?hd (cs := #[.slice A0_0 l0_0.length c0_0]) (t := 25) ?hr ?_; (case hd => rfl); (case hg => rfl); (case hr => first | (go_simp; done) | (go_simp; rfl)); intro gb715 hg w45 hbox hb; have n0_ := Aside0.mk (Kd.V_below (Kd.V_elderB HO0_0.out gb715 (Nat.le_of_eq hg.symm)) hb); have n1_ := Aside0.mk (below_step (by repeat (first | (with_reducible first | exact HB.out | apply below_alloc | apply pw_below_drewN | apply below_drew1) | exact HB.out)) hb); have n2_ := Aside0.mk (hbox); have n3_ := Aside0.mk ((by rw [hg]; exact (below_size (by repeat (first | (with_reducible first | exact HB.out | apply below_alloc | apply pw_below_drewN | apply below_drew1) | exact HB.out))) : w.heap.size ≤ gb715)); have n4_ := Aside0.mk ((by rw [hg]; exact (below_size (by repeat (first | (with_reducible first | exact HB.out | apply below_alloc | apply pw_below_drewN | apply below_drew1) | exact HB.out))) : w.heap.size ≤ gb715)); clear HO0_0; clear HB; have HO0_0 := n0_; have HB := n1_; have BK715 := n2_; have GW715 := n3_; have GE715 := n4_; clear n0_ n1_ n2_ n3_ n4_; clear hb hbox hg) | ((with_reducible refine gate_dst (N := 3) rfl ?_); refine box_event ?hg (N := 3) ?hd (cs := #[.slice A1_0 l1_0.length c1_0]) (t := 25) ?hr ?_; (case hd => rfl); (case hg => rfl); (case hr => first | (go_simp; done) | (go_simp; rfl)); intro gb716 hg w46 hbox hb; have n0_ := Aside0.mk (Kd.V_below (Kd.V_elderB HO0_0.out gb716 (Nat.le_of_eq hg.symm)) hb); have n1_ := Aside0.mk (bb BK715.out hb); have n2_ := Aside0.mk (bs HB.out hb); have n3_ := Aside0.mk (hbox); have n4_ := Aside0.mk ((by rw [hg]; exact (bz HB.out) : w.heap.size ≤ gb716)); have n5_ := Aside0.mk ((by rw [hg]; exact (bz HB.out) : w.heap.size ≤ gb716)); have n6_ := Aside0.mk ((by rw [hg]; exact Nat.ne_of_lt (blk_lt (g := gb715) (o := .cells #[.slice A0_0 l0_0.length c0_0] 25 (0, 0)) BK715.out) : gb715 ≠ gb716)); have n7_ := Aside0.mk ((by rw [hg]; exact Nat.ne_of_gt (blk_lt (g := gb715) (o := .cells #[.slice A0_0 l0_0.length c0_0] 25 (0, 0)) BK715.out) : gb716 ≠ gb715)); clear HO0_0; clear BK715; clear HB; have HO0_0 := n0_; have BK715 := n1_; have HB := n2_; have BK716 := n3_; have GW716 := n4_; have GE716 := n5_; have NB715_716 := n6_; have NB716_715 := n7_; clear n0_ n1_ n2_ n3_ n4_ n5_ n6_ n7_; clear hb hbox hg) | ((with_reducible refine gate_dst (N := 4) rfl ?_); refine box_event ?hg (N := 4) ?hd (cs := #[.slice none 0 0]) (t := 25) ?hr ?_; (case hd => rfl); (case hg => rfl); (case hr => first | (go_simp; done) | (go_simp; rfl)); intro gb717 hg w47 hbox hb; have n0_ := Aside0.mk (Kd.V_below (Kd.V_elderB HO0_0.out gb717 (Nat.le_of_eq hg.symm)) hb); have n1_ := Aside0.mk (bb BK715.out hb); have n2_ := Aside0.mk (bb BK716.out hb); have n3_ := Aside0.mk (bs HB.out hb); have n4_ := Aside0.mk (hbox); have n5_ := Aside0.mk ((by rw [hg]; exact (bz HB.out) : w.heap.size ≤ gb717)); have n6_ := Aside0.mk ((by rw [hg]; exact (bz HB.out) : w.heap.size ≤ gb717)); have n7_ := Aside0.mk ((by rw [hg]; exact Nat.ne_of_lt (blk_lt (g := gb715) (o := .cells #[.slice A0_0 l0_0.length c0_0] 25 (0, 0)) BK715.out) : gb715 ≠ gb717)); have n8_ := Aside0.mk ((by rw [hg]; exact Nat.ne_of_gt (blk_lt (g := gb715) (o := .cells #[.slice A0_0 l0_0.length c0_0] 25 (0, 0)) BK715.out) : gb717 ≠ gb715)); have n9_ := Aside0.mk ((by rw [hg]; exact Nat.ne_of_lt (blk_lt (g := gb716) (o := .cells #[.slice A1_0 l1_0.length c1_0] 25 (0, 0)) BK716.out) : gb716 ≠ gb717)); have n10_ := Aside0.mk ((by rw [hg]; exact Nat.ne_of_gt (blk_lt (g := gb716) (o := .cells #[.slice A1_0 l1_0.length c1_0] 25 (0, 0)) BK716.out) : gb717 ≠ gb716)); clear HO0_0; clear BK715; clear BK716; clear HB; have HO0_0 := n0_; have BK715 := n1_; have BK716 := n2_; have HB := n3_; have BK717 := n4_; have GW717 := n5_; have GE717 := n6_; have NB715_717 := n7_; have NB717_715 := n8_; have NB716_717 := n9_; have NB717_716 := n10_; clear n0_ n1_ n2_ n3_ n4_ n5_ n6_ n7_ n8_ n9_ n10_; clear hb hbox hg) | ((with_reducible refine gate_dst (N := 5) rfl ?_); refine box_event ?hg (N := 5) ?hd (cs := #[.slice none 0 0]) (t := 25) ?hr ?_; (case hd => rfl); (case hg => rfl); (case hr => first | (go_simp; done) | (go_simp; rfl)); intro gb718 hg w48 hbox hb; have n0_ := Aside0.mk (Kd.V_below (Kd.V_elderB HO0_0.out gb718 (Nat.le_of_eq hg.symm)) hb); have n1_ := Aside0.mk (bb BK715.out hb); have n2_ := Aside0.mk (bb BK716.out hb); have n3_ := Aside0.mk (bb BK717.out hb); have n4_ := Aside0.mk (bs HB.out hb); have n5_ := Aside0.mk (hbox); have n6_ := Aside0.mk ((by rw [hg]; exact (bz HB.out) : w.heap.size ≤ gb718)); have n7_ := Aside0.mk ((by rw [hg]; exact (bz HB.out) : w.heap.size ≤ gb718)); have n8_ := Aside0.mk ((by rw [hg]; exact Nat.ne_of_lt (blk_lt (g := gb715) (o := .cells #[.slice A0_0 l0_0.length c0_0] 25 (0, 0)) BK715.out) : gb715 ≠ gb718)); have n9_ := Aside0.mk ((by rw [hg]; exact Nat.ne_of_gt (blk_lt (g := gb715) (o := .cells #[.slice A0_0 l0_0.length c0_0] 25 (0, 0)) BK715.out) : gb718 ≠ gb715)); have n10_ := Aside0.mk ((by rw [hg]; exact Nat.ne_of_lt (blk_lt (g := gb716) (o := .cells #[.slice A1_0 l1_0.length c1_0] 25 (0, 0)) BK716.out) : gb716 ≠ gb718)); have n11_ := Aside0.mk ((by rw [hg]; exact Nat.ne_of_gt (blk_lt (g := gb716) (o := .cells #[.slice A1_0 l1_0.length c1_0] 25 (0, 0)) BK716.out) : gb718 ≠ gb716)); have n12_ := Aside0.mk ((by rw [hg]; exact Nat.ne_of_lt (blk_lt (g := gb717) (o := .cells #[.slice none 0 0] 25 (0, 0)) BK717.out) : gb717 ≠ gb718)); have n13_ := Aside0.mk ((by rw [hg]; exact Nat.ne_of_gt (blk_lt (g := gb717) (o := .cells #[.slice none 0 0] 25 (0, 0)) BK717.out) : gb718 ≠ gb717)); clear HO0_0; clear BK715; clear BK716; clear BK717; clear HB; have HO0_0 := n0_; have BK715 := n1_; have BK716 := n2_; have BK717 := n3_; have HB := n4_; have BK718 := n5_; have GW718 := n6_; have GE718 := n7_; have NB715_718 := n8_; have NB718_715 := n9_; have NB716_718 := n10_; have NB718_716 := n11_; have NB717_718 := n12_; have NB718_717 := n13_; clear n0_ n1_ n2_ n3_ n4_ n5_ n6_ n7_ n8_ n9_ n10_ n11_ n12_ n13_; clear hb hbox hg; have hnb49 := NB716_715.out; have hnc49 := NB715_716.out; have hnb50 := NB716_717.out; have hnc50 := NB717_716.out; have hnb51 := NB716_718.out; have hnc51 := NB718_716.out; have hcz52_0 : w48.cell? ⟨gb716, 0, none⟩ = some (.slice A1_0 l1_0.length c1_0) := (blk_cell BK716.out 0).trans rfl; have hfz52_0 := blk_frozen BK716.out 0) | ((with_reducible refine gate_callee (f := 18) rfl ?_); refine goesL_ (some 14) rfl rfl Try.func18 (by kernel_rfl) rfl #[.agg #[.slice A1_0 l1_0.length c1_0]] rfl (by (try simp only [List.map_toArray, List.map_cons, List.map_nil]); first | done | rfl | (simp only [List.length_drop, List.length_take]; rfl)) ?_; (with_reducible refine (nat_Nat_Zero.calls _ _ l1_0 false _ ?side1 ?side2 A3.out).mono ?_); (case side1 => repeat (first | exact (Kd.C_below HR1_0.out HB.out) | (with_reducible refine Kd.C_alloc ?_ _) | (with_reducible refine Kd.C_drewN ?_ _) | (with_reducible refine Kd.C_drew ?_))); (case side2 => exact HC1_0.out); rintro e w53 ⟨rfl, hb⟩; refine ⟨_, rfl, ?_⟩; replace HO0_0 := Aside0.mk (vb HO0_0.out hb); replace BK715 := Aside0.mk (bb BK715.out hb); replace BK716 := Aside0.mk (bb BK716.out hb); replace BK717 := Aside0.mk (bb BK717.out hb); replace BK718 := Aside0.mk (bb BK718.out hb); replace HB := Aside0.mk (bs HB.out hb); (try clear hb); (try clear hb2); (try clear hk); (try clear hi); have hnb54 := NB715_717.out; have hnc54 := NB717_715.out; have hnb55 := NB715_718.out; have hnc55 := NB718_715.out; have hcz56_0 : w53.cell? ⟨gb715, 0, none⟩ = some (.slice A0_0 l0_0.length c0_0) := (blk_cell BK715.out 0).trans rfl; have hfz56_0 := blk_frozen BK715.out 0; have hcz57_0 : w53.cell? ⟨gb716, 0, none⟩ = some (.slice A1_0 l1_0.length c1_0) := (blk_cell BK716.out 0).trans rfl; have hfz57_0 := blk_frozen BK716.out 0) | ((with_reducible refine gate_callee (f := 21) rfl ?_); refine goesL_ (some 19) rfl rfl Try.func21 (by kernel_rfl) rfl #[.agg #[.slice A0_0 l0_0.length c0_0], .agg #[.slice A1_0 l1_0.length c1_0]] rfl (by (try simp only [List.map_toArray, List.map_cons, List.map_nil]); first | done | rfl | (simp only [List.length_drop, List.length_take]; rfl)) ?_; (with_reducible refine (nat_Nat_Cmp.calls k _ _ l0_0 _ _ l1_0 t720 _ ?side1 ?side2 ?side3 ?side4 A19.out).mono ?_); (case side1 => exact cv HO0_0.out); (case side2 => exact (Kd.V_reads' HO0_0.out).2.1); (case side3 => repeat (first | exact (Kd.C_below HR1_0.out HB.out) | (with_reducible refine Kd.C_alloc ?_ _) | (with_reducible refine Kd.C_drewN ?_ _) | (with_reducible refine Kd.C_drew ?_))); (case side4 => exact HC1_0.out); rintro e w58 ⟨rfl, hb⟩; refine ⟨_, rfl, ?_⟩; replace HO0_0 := Aside0.mk (vb HO0_0.out hb); replace BK715 := Aside0.mk (bb BK715.out hb); replace BK716 := Aside0.mk (bb BK716.out hb); replace BK717 := Aside0.mk (bb BK717.out hb); replace BK718 := Aside0.mk (bb BK718.out hb); replace HB := Aside0.mk (bs HB.out hb); (try clear hb); (try clear hb2); (try clear hk); (try clear hi)))
    replace HO0_0 := Aside0.mk (Kd.V_drew HO0_0.out)
    replace BK715 := Aside0.mk (blk_drew BK715.out)
    replace BK716 := Aside0.mk (blk_drew BK716.out)
    replace BK717 := Aside0.mk (blk_drew BK717.out)
    replace BK718 := Aside0.mk (blk_drew BK718.out)
    replace HB := Aside0.mk (below_drew1 HB.out)
    refine start_ (n := 6) (S := fun w' => w'.cell? ⟨gb715, 0, none⟩ = some (.slice A0_0 l0_0.length c0_0) ∧ w'.cell? ⟨gb716, 0, none⟩ = some (.slice A1_0 l1_0.length c1_0)) (ds := []) #[false, false, false, false, false, false] (by kernel_rfl) rfl rfl ⟨(blk_cell BK715.out 0).trans rfl, (blk_cell BK716.out 0).trans rfl⟩ (fun hHeld => ?_)
    generalize w58.drew = w59 at HO0_0 BK715 BK716 BK717 BK718 HB hHeld ⊢
    refine take_ (i := 0) (N := some 23) (v := ?_) (a' := ?_) #[true, false, false, false, false, false] rfl rfl (by kernel_rfl) (fun _ _ _ h => h) (Or.inl ⟨by rfl, ?_⟩) hHeld ?_ ?_
    rotate_left
    ·rintro w' ⟨s0, s1⟩
     go_simp
     with_reducible rfl
    rotate_left
    ·simp only [Act.put, List.setIfInBounds_toArray, List.set_cons_zero, List.set_cons_succ, i64_w, i32_w]
     rfl
    refine take_ (i := 2) (N := some 25) (v := ?_) (a' := ?_) #[true, false, true, false, false, false] rfl rfl (by kernel_rfl) (fun _ _ _ h => h) (Or.inl ⟨by rfl, ?_⟩) hHeld ?_ ?_
    rotate_left
    ·rintro w' ⟨s0, s1⟩
     go_simp
     with_reducible rfl
    rotate_left
    ·simp only [Act.put, List.setIfInBounds_toArray, List.set_cons_zero, List.set_cons_succ, i64_w, i32_w]
     rfl
    refine one_ (i := 1) (N := some 24) #[true, true, true, false, false, false] rfl rfl (by kernel_rfl) (by decide) (fun K hK => ?_)
    refine goes_ Try.func16 (by kernel_rfl) rfl #[.agg #[.slice A0_0 l0_0.length c0_0]] (by rfl) rfl rfl (by (try simp only [List.map_toArray, List.map_cons, List.map_nil]); first | done | rfl | (simp only [List.length_drop, List.length_take]; rfl)) ?_
    with_reducible refine (nat_Nat_Limbs.calls _ _ l0_0 t721 _ ?side1 ?side2 A38.out).mono ?_
    (case side1 => exact cv HO0_0.out)
    (case side2 => exact (Kd.V_reads' HO0_0.out).2.1)
    rintro e w60 ⟨v722, rfl, ho0, hb⟩
    refine ⟨_, rfl, ?_⟩
    replace HO0_0 := Aside0.mk (Kd.V_elder' HO0_0.out (Kd.R_base ho0) hb)
    have HO723 := Aside0.mk (Kd.R_lower (Kd.R_newM (M := fun k_ => (w.heap.size ≤ k_)) ho0 (bz HB.out) (fun k_ h_ => h_)) (bz HB.out))
    replace BK715 := Aside0.mk (bb BK715.out hb)
    replace BK716 := Aside0.mk (bb BK716.out hb)
    replace BK717 := Aside0.mk (bb BK717.out hb)
    replace BK718 := Aside0.mk (bb BK718.out hb)
    replace HB := Aside0.mk (bs HB.out hb)
    (try clear hb)
    (try clear hb2)
    (try clear hk)
    (try clear hi)
    (try clear ho0)
    refine hK.out _ _ ⟨(blk_cell BK715.out 0).trans rfl, (blk_cell BK716.out 0).trans rfl⟩ (fun hHeld => ?_)
    clear hK K
    refine norm_ (a' := ?_) ?_ ?_
    rotate_left
    ·show Act.put _ (some 24) _ = _
     simp only [Act.put, List.setIfInBounds_toArray, List.set_cons_zero, List.set_cons_succ, i64_w, i32_w]
     rfl
    refine one_ (i := 3) (N := some 26) #[true, true, true, true, false, false] rfl rfl (by kernel_rfl) (by decide) (fun K hK => ?_)
    refine goes_ Try.func16 (by kernel_rfl) rfl #[.agg #[.slice A1_0 l1_0.length c1_0]] (by rfl) rfl rfl (by (try simp only [List.map_toArray, List.map_cons, List.map_nil]); first | done | rfl | (simp only [List.length_drop, List.length_take]; rfl)) ?_
    with_reducible refine (nat_Nat_Limbs.calls _ _ l1_0 t724 _ ?side1 ?side2 A39.out).mono ?_
    (case side1 => repeat (first | exact (Kd.C_below HR1_0.out HB.out) | (with_reducible refine Kd.C_alloc ?_ _) | (with_reducible refine Kd.C_drewN ?_ _) | (with_reducible refine Kd.C_drew ?_)))
    (case side2 => exact HC1_0.out)
    rintro e w61 ⟨v725, rfl, ho0, hb⟩
    refine ⟨_, rfl, ?_⟩
    have n0_ := Aside0.mk (Kd.V_elder' HO0_0.out (Kd.R_base ho0) hb)
    have n1_ := Aside0.mk (Kd.R_elder' HO723.out (Kd.R_base ho0) hb)
    have n2_ := Aside0.mk (Kd.R_lower (Kd.R_new' (Kd.R_newM (M := fun k_ => (w.heap.size ≤ k_)) ho0 (bz HB.out) (fun k_ h_ => h_)) (Kd.R_lt HO723.out)) (bz HB.out))
    have n3_ := Aside0.mk (bb BK715.out hb)
    have n4_ := Aside0.mk (bb BK716.out hb)
    have n5_ := Aside0.mk (bb BK717.out hb)
    have n6_ := Aside0.mk (bb BK718.out hb)
    have n7_ := Aside0.mk (bs HB.out hb)
    clear HO0_0
    clear HO723
    clear BK715
    clear BK716
    clear BK717
    clear BK718
    clear HB
    have HO0_0 := n0_
    have HO723 := n1_
    have HO726 := n2_
    have BK715 := n3_
    have BK716 := n4_
    have BK717 := n5_
    have BK718 := n6_
    have HB := n7_
    clear n0_ n1_ n2_ n3_ n4_ n5_ n6_ n7_
    (try clear hb)
    (try clear hb2)
    (try clear hk)
    (try clear hi)
    (try clear ho0)
    refine hK.out _ _ ⟨(blk_cell BK715.out 0).trans rfl, (blk_cell BK716.out 0).trans rfl⟩ (fun hHeld => ?_)
    clear hK K
    refine norm_ (a' := ?_) ?_ ?_
    rotate_left
    ·show Act.put _ (some 26) _ = _
     simp only [Act.put, List.setIfInBounds_toArray, List.set_cons_zero, List.set_cons_succ, i64_w, i32_w]
     rfl
    refine pure_ (i := 4) (N := some 7) (v := ?_) (a' := ?_) #[true, true, true, true, true, false] rfl rfl (by kernel_rfl) (fun _ _ _ h => h) (Or.inl ⟨by rfl, ?_⟩) ?_ ?_
    rotate_left
    ·intro w'
     go_simp
     with_reducible rfl
    rotate_left
    ·simp only [Act.put, List.setIfInBounds_toArray, List.set_cons_zero, List.set_cons_succ, i64_w, i32_w]
     rfl
    refine pure_ (i := 5) (N := some 8) (v := ?_) (a' := ?_) #[true, true, true, true, true, true] rfl rfl (by kernel_rfl) (fun _ _ _ h => h) (Or.inl ⟨by rfl, ?_⟩) ?_ ?_
    rotate_left
    ·intro w'
     go_simp
     with_reducible rfl
    rotate_left
    ·simp only [Act.put, List.setIfInBounds_toArray, List.set_cons_zero, List.set_cons_succ, i64_w, i32_w]
     rfl
    refine done_ (by kernel_rfl) ?_
    obtain ⟨Ao62, co62, eo62⟩ := Kd.R_slice HO726.out
    subst eo62
    have p727 : 0 ≤ (0 : Int) := (by omega)
    have q727 : 0 < (t724.length : Int) := of_decide_eq_true (by first | (with_reducible assumption) | assumption)
    obtain ⟨ad727, e727, hx727_0⟩ := Kd.at_int (Kd.R_reads' HO726.out).2.2 0 p727 q727
    cases e727
    have qi727 : (0 < t724.length) = True := eq_true (by omega)
    (try rw [show ((0 : Int)).toNat = 0 from rfl] at hx727_0)
    (try rw [Addr.add_zero'] at hx727_0)
    replace p727 := eq_true p727
    replace q727 := eq_true q727
    obtain ⟨Ao63, co63, eo63⟩ := Kd.R_slice HO723.out
    subst eo63
    try go_wp2_with (first | ((with_reducible refine gate_callee (f := 55) rfl ?_); refine goesL_ (some 35) rfl rfl Try.func55 (by kernel_rfl) rfl #[.slice Ao63 t721.length co63, .int .u64 (rd t724 0)] rfl (by (try simp only [List.map_toArray, List.map_cons, List.map_nil]); first | done | rfl | (simp only [List.length_drop, List.length_take]; rfl)) ?_; (with_reducible refine (quot_by.calls k _ _ t721 (rd t724 0) t728 t729 _ ?side1 ?side2 A42.out).mono ?_); (case side1 => exact cr HO723.out); (case side2 => exact (Kd.R_reads' HO723.out).2.1); rintro e w64 ⟨v730, rfl, ho0, hb⟩; refine ⟨_, rfl, ?_⟩; have n0_ := Aside0.mk (Kd.V_elder' HO0_0.out (Kd.R_base ho0) hb); have n1_ := Aside0.mk (Kd.R_elder' HO723.out (Kd.R_base ho0) hb); have n2_ := Aside0.mk (Kd.R_elder' HO726.out (Kd.R_base ho0) hb); have n3_ := Aside0.mk (Kd.R_lower (Kd.R_new' (Kd.R_new' (Kd.R_newM (M := fun k_ => (w.heap.size ≤ k_)) ho0 (bz HB.out) (fun k_ h_ => h_)) (Kd.R_lt HO723.out)) (Kd.R_lt HO726.out)) (bz HB.out)); have n4_ := Aside0.mk (bb BK715.out hb); have n5_ := Aside0.mk (bb BK716.out hb); have n6_ := Aside0.mk (bb BK717.out hb); have n7_ := Aside0.mk (bb BK718.out hb); have n8_ := Aside0.mk (bs HB.out hb); clear HO0_0; clear HO723; clear HO726; clear BK715; clear BK716; clear BK717; clear BK718; clear HB; have HO0_0 := n0_; have HO723 := n1_; have HO726 := n2_; have HO731 := n3_; have BK715 := n4_; have BK716 := n5_; have BK717 := n6_; have BK718 := n7_; have HB := n8_; clear n0_ n1_ n2_ n3_ n4_ n5_ n6_ n7_ n8_; (try clear hb); (try clear hb2); (try clear hk); (try clear hi); (try clear ho0); obtain ⟨Ao65, co65, eo65⟩ := Kd.R_slice HO731.out; subst eo65) | ((with_reducible refine gate_callee (f := 14) rfl ?_); refine goesL_ (some 39) rfl rfl Try.func14 (by kernel_rfl) rfl #[.slice Ao65 t728.length co65] rfl (by (try simp only [List.map_toArray, List.map_cons, List.map_nil]); first | done | rfl | (simp only [List.length_drop, List.length_take]; rfl)) ?_; (with_reducible refine (nat_Of.calls k _ _ t728 t732 _ ?side1 ?side2 A43.out).mono ?_); (case side1 => exact cr HO731.out); (case side2 => exact (Kd.R_reads' HO731.out).2.1); rintro e w66 ⟨v733, rfl, ho0, hb⟩; refine ⟨_, rfl, ?_⟩; have n0_ := Aside0.mk (vb HO0_0.out hb); have n1_ := Aside0.mk (rb HO723.out hb); have n2_ := Aside0.mk (rb HO726.out hb); have n3_ := Aside0.mk (rb HO731.out hb); have n4_ := Aside0.mk (Kd.V_lower (Kd.V_mono (ok' := fun k_ => (P0_0_ k_ ∨ w.heap.size ≤ k_) ∧ OB Ao63 t721 co63 k_ ∧ some k_ ≠ (.slice (some ad727) t724.length co62 : Value).ownBlock ∧ OB Ao65 t728 co65 k_ ∧ k_ ≠ gb715 ∧ k_ ≠ gb716 ∧ k_ ≠ gb717 ∧ k_ ≠ gb718) ho0 (fun k_ hk_ => ⟨(.inr (Nat.le_trans (bz HB.out) hk_)), (Kd.fresh' (Kd.R_lt HO723.out) k_ hk_), (Kd.fresh' (Kd.R_lt HO726.out) k_ hk_), (Kd.fresh' (Kd.R_lt HO731.out) k_ hk_), (fb BK715.out k_ hk_), (fb BK716.out k_ hk_), (fb BK717.out k_ hk_), (fb BK718.out k_ hk_)⟩)) (bz HB.out)); have n5_ := Aside0.mk (bb BK715.out hb); have n6_ := Aside0.mk (bb BK716.out hb); have n7_ := Aside0.mk (bb BK717.out hb); have n8_ := Aside0.mk (bb BK718.out hb); have n9_ := Aside0.mk (bs HB.out hb); clear HO0_0; clear HO723; clear HO726; clear HO731; clear BK715; clear BK716; clear BK717; clear BK718; clear HB; have HO0_0 := n0_; have HO723 := n1_; have HO726 := n2_; have HO731 := n3_; have HO734 := n4_; have BK715 := n5_; have BK716 := n6_; have BK717 := n7_; have BK718 := n8_; have HB := n9_; clear n0_ n1_ n2_ n3_ n4_ n5_ n6_ n7_ n8_ n9_; (try clear hb); (try clear hb2); (try clear hk); (try clear hi); (try clear ho0)) | ((with_reducible refine gate_dst (N := 41) rfl ?_); refine Kd.R_lit (Kd.int .u64) _ 27 ?hg (N := 41) ?hd (xs := ([t729] : List Int)) (inner := [.int .u64 t729]) (ok := fun _ => True) (okp := fun _ => True) ?hr ?hp (fun _ hk => hk) trivial (Below.refl _ _) (Nat.le_refl _) (by simp) ?_; (case hd => rfl); (case hg => rfl); (case hr => first | (go_simp; done) | (go_simp; rfl)); (case hp => exact (Reps.one (show Kd.M (Kd.int .u64) _ _ _ t729 [.int .u64 t729] from rfl) (Reps.none _ _))); intro v736 w67 ho68 hb hg_ hnew_; clear hg_ hnew_; (first | rw [← Ny735.out] at ho68 | (simp only [Int.reduceToNat] at ho68; rw [← Ny735.out] at ho68)); have n0_ := Aside0.mk (Kd.V_elder' HO0_0.out (Kd.R_base ho68) hb); have n1_ := Aside0.mk (Kd.R_elder' HO723.out (Kd.R_base ho68) hb); have n2_ := Aside0.mk (Kd.R_elder' HO726.out (Kd.R_base ho68) hb); have n3_ := Aside0.mk (Kd.R_elder' HO731.out (Kd.R_base ho68) hb); have n4_ := Aside0.mk (Kd.V_elder' HO734.out (Kd.R_base ho68) hb); have n5_ := Aside0.mk (Kd.R_lower (Kd.R_new' (Kd.R_new' (Kd.R_new' (Kd.R_newM (M := fun k_ => (w.heap.size ≤ k_)) ho68 (bz HB.out) (fun k_ h_ => h_)) (Kd.R_lt HO723.out)) (Kd.R_lt HO726.out)) (Kd.R_lt HO731.out)) (bz HB.out)); have n6_ := Aside0.mk (bb BK715.out hb); have n7_ := Aside0.mk (bb BK716.out hb); have n8_ := Aside0.mk (bb BK717.out hb); have n9_ := Aside0.mk (bb BK718.out hb); have n10_ := Aside0.mk (bs HB.out hb); clear HO0_0; clear HO723; clear HO726; clear HO731; clear HO734; clear BK715; clear BK716; clear BK717; clear BK718; clear HB; have HO0_0 := n0_; have HO723 := n1_; have HO726 := n2_; have HO731 := n3_; have HO734 := n4_; have HO737 := n5_; have BK715 := n6_; have BK716 := n7_; have BK717 := n8_; have BK718 := n9_; have HB := n10_; clear n0_ n1_ n2_ n3_ n4_ n5_ n6_ n7_ n8_ n9_ n10_; clear hb ho68; obtain ⟨Ao69, co69, eo69⟩ := Kd.R_slice HO737.out; subst eo69) | ((with_reducible refine gate_callee (f := 14) rfl ?_); refine goesL_ (some 42) rfl rfl Try.func14 (by kernel_rfl) rfl #[.slice Ao69 y735.length co69] rfl (by (try simp only [List.map_toArray, List.map_cons, List.map_nil]); first | done | rfl | (simp only [List.length_drop, List.length_take]; rfl)) ?_; (with_reducible refine (nat_Of.calls k _ _ y735 t738 _ ?side1 ?side2 A44.out).mono ?_); (case side1 => exact cr HO737.out); (case side2 => exact (Kd.R_reads' HO737.out).2.1); rintro e w70 ⟨v739, rfl, ho0, hb⟩; refine ⟨_, rfl, ?_⟩; have n0_ := Aside0.mk (vb HO0_0.out hb); have n1_ := Aside0.mk (rb HO723.out hb); have n2_ := Aside0.mk (rb HO726.out hb); have n3_ := Aside0.mk (rb HO731.out hb); have n4_ := Aside0.mk (vb HO734.out hb); have n5_ := Aside0.mk (rb HO737.out hb); have n6_ := Aside0.mk (Kd.V_lower (Kd.V_mono (ok' := fun k_ => (P0_0_ k_ ∨ w.heap.size ≤ k_) ∧ OB Ao63 t721 co63 k_ ∧ some k_ ≠ (.slice (some ad727) t724.length co62 : Value).ownBlock ∧ OB Ao65 t728 co65 k_ ∧ OB Ao69 y735 co69 k_ ∧ k_ ≠ gb715 ∧ k_ ≠ gb716 ∧ k_ ≠ gb717 ∧ k_ ≠ gb718) ho0 (fun k_ hk_ => ⟨(.inr (Nat.le_trans (bz HB.out) hk_)), (Kd.fresh' (Kd.R_lt HO723.out) k_ hk_), (Kd.fresh' (Kd.R_lt HO726.out) k_ hk_), (Kd.fresh' (Kd.R_lt HO731.out) k_ hk_), (Kd.fresh' (Kd.R_lt HO737.out) k_ hk_), (fb BK715.out k_ hk_), (fb BK716.out k_ hk_), (fb BK717.out k_ hk_), (fb BK718.out k_ hk_)⟩)) (bz HB.out)); have n7_ := Aside0.mk (bb BK715.out hb); have n8_ := Aside0.mk (bb BK716.out hb); have n9_ := Aside0.mk (bb BK717.out hb); have n10_ := Aside0.mk (bb BK718.out hb); have n11_ := Aside0.mk (bs HB.out hb); clear HO0_0; clear HO723; clear HO726; clear HO731; clear HO734; clear HO737; clear BK715; clear BK716; clear BK717; clear BK718; clear HB; have HO0_0 := n0_; have HO723 := n1_; have HO726 := n2_; have HO731 := n3_; have HO734 := n4_; have HO737 := n5_; have HO740 := n6_; have BK715 := n7_; have BK716 := n8_; have BK717 := n9_; have BK718 := n10_; have HB := n11_; clear n0_ n1_ n2_ n3_ n4_ n5_ n6_ n7_ n8_ n9_ n10_ n11_; (try clear hb); (try clear hb2); (try clear hk); (try clear hi); (try clear ho0); obtain ⟨Ao71, co71, eo71⟩ := Kd.V_slice HO734.out; subst eo71; have hnb72 := NB717_718.out; have hnc72 := NB718_717.out; have hcz73_0 : w70.cell? ⟨gb717, 0, none⟩ = some (.slice none 0 0) := (blk_cell BK717.out 0).trans rfl; have hfz73_0 := blk_frozen BK717.out 0; obtain ⟨Ao74, co74, eo74⟩ := Kd.V_slice HO740.out; subst eo74; have hcz75_0 : w70.cell? ⟨gb718, 0, none⟩ = some (.slice none 0 0) := (blk_cell BK718.out 0).trans rfl; have hfz75_0 := blk_frozen BK718.out 0))
    refine bodyPost_ret (results_list (rs := [.cell 4 25, .cell 5 25, .tmp 6]) rfl (by simp) (.cell gb717 25 #[.slice Ao71 t732.length co71] (0, 0) _ rfl (by (with_reducible repeat (first | refine blk_drewN ?_ _ | refine blk_drew ?_ | refine blk_alloc ?_ _)); refine blk_far ?_ NB717_718.out _; (with_reducible repeat (first | refine blk_drewN ?_ _ | refine blk_drew ?_ | refine blk_alloc ?_ _)); refine blk_put (cs := #[.slice none 0 0]) ?_ 0 _ rfl; (with_reducible repeat (first | refine blk_drewN ?_ _ | refine blk_drew ?_ | refine blk_alloc ?_ _)); exact BK717.out) Try.underlying25 rfl (by kernel_rfl) (.cell gb718 25 #[.slice Ao74 t738.length co74] (0, 0) _ rfl (by (with_reducible repeat (first | refine blk_drewN ?_ _ | refine blk_drew ?_ | refine blk_alloc ?_ _)); refine blk_put (cs := #[.slice none 0 0]) ?_ 0 _ rfl; (with_reducible repeat (first | refine blk_drewN ?_ _ | refine blk_drew ?_ | refine blk_alloc ?_ _)); refine blk_far ?_ NB718_717.out _; (with_reducible repeat (first | refine blk_drewN ?_ _ | refine blk_drew ?_ | refine blk_alloc ?_ _)); exact BK718.out) Try.underlying25 rfl (by kernel_rfl) (.tmp .nil)))) rfl ?_
    exact ⟨_, _, by first | rfl | (simp [errW_none, errW_some] <;> rfl) | (simp [*, errW_none, errW_some] <;> rfl), by (with_reducible repeat (first | apply Kd.V_alloc | apply Kd.V_drewN | apply Kd.V_drew)); exact Kd.V_mono (Kd.V_far (p := ⟨gb718, 0, none⟩) (Kd.V_far (p := ⟨gb717, 0, none⟩) (Kd.V_mono (Kd.V_mono HO734.out (fun k_ hk => (⟨hk, hk.1.2.2.2.2.2.2.1⟩ : _ ∧ k_ ≠ gb717))) (fun k_ hk => (⟨hk, hk.1.1.2.2.2.2.2.2.2⟩ : _ ∧ k_ ≠ gb718))) (fun _ hk => hk.1.2) (.slice Ao71 t732.length co71)) (fun _ hk => hk.2) (.slice Ao74 t738.length co74)) (fun _ hk => hk.1.1.1.1), by (with_reducible repeat (first | apply Kd.V_alloc | apply Kd.V_drewN | apply Kd.V_drew)); exact Kd.V_mono (Kd.V_far (p := ⟨gb718, 0, none⟩) (Kd.V_far (p := ⟨gb717, 0, none⟩) (Kd.V_mono (Kd.V_mono HO740.out (fun k_ hk => (⟨hk, hk.2.2.2.2.2.2.2.1⟩ : _ ∧ k_ ≠ gb717))) (fun k_ hk => (⟨hk, hk.1.2.2.2.2.2.2.2.2⟩ : _ ∧ k_ ≠ gb718))) (fun _ hk => hk.1.2) (.slice Ao71 t732.length co71)) (fun _ hk => hk.2) (.slice Ao74 t738.length co74)) (fun _ hk => hk.1.1.1), by repeat (first | (with_reducible first | exact HB.out | apply below_alloc | apply pw_below_drewN | apply below_drew1 | refine below_set ?_ GE715.out | refine below_set ?_ GE716.out | refine below_set ?_ GE717.out | refine below_set ?_ GE718.out) | exact HB.out)⟩
   ·rw [if_neg c40] at H
    have c40b0 : ((t724.length : Int) == 1) = false := beq_eq_false_iff_ne.mpr c40
    have c40b1 : ((t724.length : Int) != 1) = true := bne_iff_ne.mpr c40
    replace H := Option.bind_eq_some_iff.mp H
    obtain ⟨⟨t741, t742⟩, A760, H⟩ := H
    (try dsimp only at H)
    have A76 := Aside0.mk A760
    clear A760
    replace H := Option.bind_eq_some_iff.mp H
    obtain ⟨t747, A770, H⟩ := H
    (try dsimp only at H)
    have A77 := Aside0.mk A770
    clear A770
    replace H := Option.bind_eq_some_iff.mp H
    obtain ⟨t750, A780, H⟩ := H
    (try dsimp only at H)
    have A78 := Aside0.mk A780
    clear A780
    simp only [Option.some.injEq, Prod.mk.injEq] at H
    obtain ⟨rfl, rfl, rfl⟩ := H
    go_enter Try.func32, Try.ntmps32
    try go_wp2_with (first | ((with_reducible refine gate_dst (N := 2) rfl ?_); refine box_event ?hg (N := 2) ?hd (cs := #[.slice A0_0 l0_0.length c0_0]) (t := 25) ?hr ?_; (case hd => rfl); (case hg => rfl); (case hr => first | (go_simp; done) | (go_simp; rfl)); intro gb715 hg w79 hbox hb; have n0_ := Aside0.mk (Kd.V_below (Kd.V_elderB HO0_0.out gb715 (Nat.le_of_eq hg.symm)) hb); have n1_ := Aside0.mk (below_step (by repeat (first | (with_reducible first | exact HB.out | apply below_alloc | apply pw_below_drewN | apply below_drew1) | exact HB.out)) hb); have n2_ := Aside0.mk (hbox); have n3_ := Aside0.mk ((by rw [hg]; exact (below_size (by repeat (first | (with_reducible first | exact HB.out | apply below_alloc | apply pw_below_drewN | apply below_drew1) | exact HB.out))) : w.heap.size ≤ gb715)); have n4_ := Aside0.mk ((by rw [hg]; exact (below_size (by repeat (first | (with_reducible first | exact HB.out | apply below_alloc | apply pw_below_drewN | apply below_drew1) | exact HB.out))) : w.heap.size ≤ gb715)); clear HO0_0; clear HB; have HO0_0 := n0_; have HB := n1_; have BK715 := n2_; have GW715 := n3_; have GE715 := n4_; clear n0_ n1_ n2_ n3_ n4_; clear hb hbox hg) | ((with_reducible refine gate_dst (N := 3) rfl ?_); refine box_event ?hg (N := 3) ?hd (cs := #[.slice A1_0 l1_0.length c1_0]) (t := 25) ?hr ?_; (case hd => rfl); (case hg => rfl); (case hr => first | (go_simp; done) | (go_simp; rfl)); intro gb716 hg w80 hbox hb; have n0_ := Aside0.mk (Kd.V_below (Kd.V_elderB HO0_0.out gb716 (Nat.le_of_eq hg.symm)) hb); have n1_ := Aside0.mk (bb BK715.out hb); have n2_ := Aside0.mk (bs HB.out hb); have n3_ := Aside0.mk (hbox); have n4_ := Aside0.mk ((by rw [hg]; exact (bz HB.out) : w.heap.size ≤ gb716)); have n5_ := Aside0.mk ((by rw [hg]; exact (bz HB.out) : w.heap.size ≤ gb716)); have n6_ := Aside0.mk ((by rw [hg]; exact Nat.ne_of_lt (blk_lt (g := gb715) (o := .cells #[.slice A0_0 l0_0.length c0_0] 25 (0, 0)) BK715.out) : gb715 ≠ gb716)); have n7_ := Aside0.mk ((by rw [hg]; exact Nat.ne_of_gt (blk_lt (g := gb715) (o := .cells #[.slice A0_0 l0_0.length c0_0] 25 (0, 0)) BK715.out) : gb716 ≠ gb715)); clear HO0_0; clear BK715; clear HB; have HO0_0 := n0_; have BK715 := n1_; have HB := n2_; have BK716 := n3_; have GW716 := n4_; have GE716 := n5_; have NB715_716 := n6_; have NB716_715 := n7_; clear n0_ n1_ n2_ n3_ n4_ n5_ n6_ n7_; clear hb hbox hg) | ((with_reducible refine gate_dst (N := 4) rfl ?_); refine box_event ?hg (N := 4) ?hd (cs := #[.slice none 0 0]) (t := 25) ?hr ?_; (case hd => rfl); (case hg => rfl); (case hr => first | (go_simp; done) | (go_simp; rfl)); intro gb717 hg w81 hbox hb; have n0_ := Aside0.mk (Kd.V_below (Kd.V_elderB HO0_0.out gb717 (Nat.le_of_eq hg.symm)) hb); have n1_ := Aside0.mk (bb BK715.out hb); have n2_ := Aside0.mk (bb BK716.out hb); have n3_ := Aside0.mk (bs HB.out hb); have n4_ := Aside0.mk (hbox); have n5_ := Aside0.mk ((by rw [hg]; exact (bz HB.out) : w.heap.size ≤ gb717)); have n6_ := Aside0.mk ((by rw [hg]; exact (bz HB.out) : w.heap.size ≤ gb717)); have n7_ := Aside0.mk ((by rw [hg]; exact Nat.ne_of_lt (blk_lt (g := gb715) (o := .cells #[.slice A0_0 l0_0.length c0_0] 25 (0, 0)) BK715.out) : gb715 ≠ gb717)); have n8_ := Aside0.mk ((by rw [hg]; exact Nat.ne_of_gt (blk_lt (g := gb715) (o := .cells #[.slice A0_0 l0_0.length c0_0] 25 (0, 0)) BK715.out) : gb717 ≠ gb715)); have n9_ := Aside0.mk ((by rw [hg]; exact Nat.ne_of_lt (blk_lt (g := gb716) (o := .cells #[.slice A1_0 l1_0.length c1_0] 25 (0, 0)) BK716.out) : gb716 ≠ gb717)); have n10_ := Aside0.mk ((by rw [hg]; exact Nat.ne_of_gt (blk_lt (g := gb716) (o := .cells #[.slice A1_0 l1_0.length c1_0] 25 (0, 0)) BK716.out) : gb717 ≠ gb716)); clear HO0_0; clear BK715; clear BK716; clear HB; have HO0_0 := n0_; have BK715 := n1_; have BK716 := n2_; have HB := n3_; have BK717 := n4_; have GW717 := n5_; have GE717 := n6_; have NB715_717 := n7_; have NB717_715 := n8_; have NB716_717 := n9_; have NB717_716 := n10_; clear n0_ n1_ n2_ n3_ n4_ n5_ n6_ n7_ n8_ n9_ n10_; clear hb hbox hg) | ((with_reducible refine gate_dst (N := 5) rfl ?_); refine box_event ?hg (N := 5) ?hd (cs := #[.slice none 0 0]) (t := 25) ?hr ?_; (case hd => rfl); (case hg => rfl); (case hr => first | (go_simp; done) | (go_simp; rfl)); intro gb718 hg w82 hbox hb; have n0_ := Aside0.mk (Kd.V_below (Kd.V_elderB HO0_0.out gb718 (Nat.le_of_eq hg.symm)) hb); have n1_ := Aside0.mk (bb BK715.out hb); have n2_ := Aside0.mk (bb BK716.out hb); have n3_ := Aside0.mk (bb BK717.out hb); have n4_ := Aside0.mk (bs HB.out hb); have n5_ := Aside0.mk (hbox); have n6_ := Aside0.mk ((by rw [hg]; exact (bz HB.out) : w.heap.size ≤ gb718)); have n7_ := Aside0.mk ((by rw [hg]; exact (bz HB.out) : w.heap.size ≤ gb718)); have n8_ := Aside0.mk ((by rw [hg]; exact Nat.ne_of_lt (blk_lt (g := gb715) (o := .cells #[.slice A0_0 l0_0.length c0_0] 25 (0, 0)) BK715.out) : gb715 ≠ gb718)); have n9_ := Aside0.mk ((by rw [hg]; exact Nat.ne_of_gt (blk_lt (g := gb715) (o := .cells #[.slice A0_0 l0_0.length c0_0] 25 (0, 0)) BK715.out) : gb718 ≠ gb715)); have n10_ := Aside0.mk ((by rw [hg]; exact Nat.ne_of_lt (blk_lt (g := gb716) (o := .cells #[.slice A1_0 l1_0.length c1_0] 25 (0, 0)) BK716.out) : gb716 ≠ gb718)); have n11_ := Aside0.mk ((by rw [hg]; exact Nat.ne_of_gt (blk_lt (g := gb716) (o := .cells #[.slice A1_0 l1_0.length c1_0] 25 (0, 0)) BK716.out) : gb718 ≠ gb716)); have n12_ := Aside0.mk ((by rw [hg]; exact Nat.ne_of_lt (blk_lt (g := gb717) (o := .cells #[.slice none 0 0] 25 (0, 0)) BK717.out) : gb717 ≠ gb718)); have n13_ := Aside0.mk ((by rw [hg]; exact Nat.ne_of_gt (blk_lt (g := gb717) (o := .cells #[.slice none 0 0] 25 (0, 0)) BK717.out) : gb718 ≠ gb717)); clear HO0_0; clear BK715; clear BK716; clear BK717; clear HB; have HO0_0 := n0_; have BK715 := n1_; have BK716 := n2_; have BK717 := n3_; have HB := n4_; have BK718 := n5_; have GW718 := n6_; have GE718 := n7_; have NB715_718 := n8_; have NB718_715 := n9_; have NB716_718 := n10_; have NB718_716 := n11_; have NB717_718 := n12_; have NB718_717 := n13_; clear n0_ n1_ n2_ n3_ n4_ n5_ n6_ n7_ n8_ n9_ n10_ n11_ n12_ n13_; clear hb hbox hg; have hnb83 := NB716_715.out; have hnc83 := NB715_716.out; have hnb84 := NB716_717.out; have hnc84 := NB717_716.out; have hnb85 := NB716_718.out; have hnc85 := NB718_716.out; have hcz86_0 : w82.cell? ⟨gb716, 0, none⟩ = some (.slice A1_0 l1_0.length c1_0) := (blk_cell BK716.out 0).trans rfl; have hfz86_0 := blk_frozen BK716.out 0) | ((with_reducible refine gate_callee (f := 18) rfl ?_); refine goesL_ (some 14) rfl rfl Try.func18 (by kernel_rfl) rfl #[.agg #[.slice A1_0 l1_0.length c1_0]] rfl (by (try simp only [List.map_toArray, List.map_cons, List.map_nil]); first | done | rfl | (simp only [List.length_drop, List.length_take]; rfl)) ?_; (with_reducible refine (nat_Nat_Zero.calls _ _ l1_0 false _ ?side1 ?side2 A3.out).mono ?_); (case side1 => repeat (first | exact (Kd.C_below HR1_0.out HB.out) | (with_reducible refine Kd.C_alloc ?_ _) | (with_reducible refine Kd.C_drewN ?_ _) | (with_reducible refine Kd.C_drew ?_))); (case side2 => exact HC1_0.out); rintro e w87 ⟨rfl, hb⟩; refine ⟨_, rfl, ?_⟩; replace HO0_0 := Aside0.mk (vb HO0_0.out hb); replace BK715 := Aside0.mk (bb BK715.out hb); replace BK716 := Aside0.mk (bb BK716.out hb); replace BK717 := Aside0.mk (bb BK717.out hb); replace BK718 := Aside0.mk (bb BK718.out hb); replace HB := Aside0.mk (bs HB.out hb); (try clear hb); (try clear hb2); (try clear hk); (try clear hi); have hnb88 := NB715_717.out; have hnc88 := NB717_715.out; have hnb89 := NB715_718.out; have hnc89 := NB718_715.out; have hcz90_0 : w87.cell? ⟨gb715, 0, none⟩ = some (.slice A0_0 l0_0.length c0_0) := (blk_cell BK715.out 0).trans rfl; have hfz90_0 := blk_frozen BK715.out 0; have hcz91_0 : w87.cell? ⟨gb716, 0, none⟩ = some (.slice A1_0 l1_0.length c1_0) := (blk_cell BK716.out 0).trans rfl; have hfz91_0 := blk_frozen BK716.out 0) | ((with_reducible refine gate_callee (f := 21) rfl ?_); refine goesL_ (some 19) rfl rfl Try.func21 (by kernel_rfl) rfl #[.agg #[.slice A0_0 l0_0.length c0_0], .agg #[.slice A1_0 l1_0.length c1_0]] rfl (by (try simp only [List.map_toArray, List.map_cons, List.map_nil]); first | done | rfl | (simp only [List.length_drop, List.length_take]; rfl)) ?_; (with_reducible refine (nat_Nat_Cmp.calls k _ _ l0_0 _ _ l1_0 t720 _ ?side1 ?side2 ?side3 ?side4 A19.out).mono ?_); (case side1 => exact cv HO0_0.out); (case side2 => exact (Kd.V_reads' HO0_0.out).2.1); (case side3 => repeat (first | exact (Kd.C_below HR1_0.out HB.out) | (with_reducible refine Kd.C_alloc ?_ _) | (with_reducible refine Kd.C_drewN ?_ _) | (with_reducible refine Kd.C_drew ?_))); (case side4 => exact HC1_0.out); rintro e w92 ⟨rfl, hb⟩; refine ⟨_, rfl, ?_⟩; replace HO0_0 := Aside0.mk (vb HO0_0.out hb); replace BK715 := Aside0.mk (bb BK715.out hb); replace BK716 := Aside0.mk (bb BK716.out hb); replace BK717 := Aside0.mk (bb BK717.out hb); replace BK718 := Aside0.mk (bb BK718.out hb); replace HB := Aside0.mk (bs HB.out hb); (try clear hb); (try clear hb2); (try clear hk); (try clear hi)))
    replace HO0_0 := Aside0.mk (Kd.V_drew HO0_0.out)
    replace BK715 := Aside0.mk (blk_drew BK715.out)
    replace BK716 := Aside0.mk (blk_drew BK716.out)
    replace BK717 := Aside0.mk (blk_drew BK717.out)
    replace BK718 := Aside0.mk (blk_drew BK718.out)
    replace HB := Aside0.mk (below_drew1 HB.out)
    refine start_ (n := 6) (S := fun w' => w'.cell? ⟨gb715, 0, none⟩ = some (.slice A0_0 l0_0.length c0_0) ∧ w'.cell? ⟨gb716, 0, none⟩ = some (.slice A1_0 l1_0.length c1_0)) (ds := []) #[false, false, false, false, false, false] (by kernel_rfl) rfl rfl ⟨(blk_cell BK715.out 0).trans rfl, (blk_cell BK716.out 0).trans rfl⟩ (fun hHeld => ?_)
    generalize w92.drew = w93 at HO0_0 BK715 BK716 BK717 BK718 HB hHeld ⊢
    refine take_ (i := 0) (N := some 23) (v := ?_) (a' := ?_) #[true, false, false, false, false, false] rfl rfl (by kernel_rfl) (fun _ _ _ h => h) (Or.inl ⟨by rfl, ?_⟩) hHeld ?_ ?_
    rotate_left
    ·rintro w' ⟨s0, s1⟩
     go_simp
     with_reducible rfl
    rotate_left
    ·simp only [Act.put, List.setIfInBounds_toArray, List.set_cons_zero, List.set_cons_succ, i64_w, i32_w]
     rfl
    refine take_ (i := 2) (N := some 25) (v := ?_) (a' := ?_) #[true, false, true, false, false, false] rfl rfl (by kernel_rfl) (fun _ _ _ h => h) (Or.inl ⟨by rfl, ?_⟩) hHeld ?_ ?_
    rotate_left
    ·rintro w' ⟨s0, s1⟩
     go_simp
     with_reducible rfl
    rotate_left
    ·simp only [Act.put, List.setIfInBounds_toArray, List.set_cons_zero, List.set_cons_succ, i64_w, i32_w]
     rfl
    refine one_ (i := 1) (N := some 24) #[true, true, true, false, false, false] rfl rfl (by kernel_rfl) (by decide) (fun K hK => ?_)
    refine goes_ Try.func16 (by kernel_rfl) rfl #[.agg #[.slice A0_0 l0_0.length c0_0]] (by rfl) rfl rfl (by (try simp only [List.map_toArray, List.map_cons, List.map_nil]); first | done | rfl | (simp only [List.length_drop, List.length_take]; rfl)) ?_
    with_reducible refine (nat_Nat_Limbs.calls _ _ l0_0 t721 _ ?side1 ?side2 A38.out).mono ?_
    (case side1 => exact cv HO0_0.out)
    (case side2 => exact (Kd.V_reads' HO0_0.out).2.1)
    rintro e w94 ⟨v722, rfl, ho0, hb⟩
    refine ⟨_, rfl, ?_⟩
    replace HO0_0 := Aside0.mk (Kd.V_elder' HO0_0.out (Kd.R_base ho0) hb)
    have HO723 := Aside0.mk (Kd.R_lower (Kd.R_newM (M := fun k_ => (w.heap.size ≤ k_)) ho0 (bz HB.out) (fun k_ h_ => h_)) (bz HB.out))
    replace BK715 := Aside0.mk (bb BK715.out hb)
    replace BK716 := Aside0.mk (bb BK716.out hb)
    replace BK717 := Aside0.mk (bb BK717.out hb)
    replace BK718 := Aside0.mk (bb BK718.out hb)
    replace HB := Aside0.mk (bs HB.out hb)
    (try clear hb)
    (try clear hb2)
    (try clear hk)
    (try clear hi)
    (try clear ho0)
    refine hK.out _ _ ⟨(blk_cell BK715.out 0).trans rfl, (blk_cell BK716.out 0).trans rfl⟩ (fun hHeld => ?_)
    clear hK K
    refine norm_ (a' := ?_) ?_ ?_
    rotate_left
    ·show Act.put _ (some 24) _ = _
     simp only [Act.put, List.setIfInBounds_toArray, List.set_cons_zero, List.set_cons_succ, i64_w, i32_w]
     rfl
    refine one_ (i := 3) (N := some 26) #[true, true, true, true, false, false] rfl rfl (by kernel_rfl) (by decide) (fun K hK => ?_)
    refine goes_ Try.func16 (by kernel_rfl) rfl #[.agg #[.slice A1_0 l1_0.length c1_0]] (by rfl) rfl rfl (by (try simp only [List.map_toArray, List.map_cons, List.map_nil]); first | done | rfl | (simp only [List.length_drop, List.length_take]; rfl)) ?_
    with_reducible refine (nat_Nat_Limbs.calls _ _ l1_0 t724 _ ?side1 ?side2 A39.out).mono ?_
    (case side1 => repeat (first | exact (Kd.C_below HR1_0.out HB.out) | (with_reducible refine Kd.C_alloc ?_ _) | (with_reducible refine Kd.C_drewN ?_ _) | (with_reducible refine Kd.C_drew ?_)))
    (case side2 => exact HC1_0.out)
    rintro e w95 ⟨v725, rfl, ho0, hb⟩
    refine ⟨_, rfl, ?_⟩
    have n0_ := Aside0.mk (Kd.V_elder' HO0_0.out (Kd.R_base ho0) hb)
    have n1_ := Aside0.mk (Kd.R_elder' HO723.out (Kd.R_base ho0) hb)
    have n2_ := Aside0.mk (Kd.R_lower (Kd.R_new' (Kd.R_newM (M := fun k_ => (w.heap.size ≤ k_)) ho0 (bz HB.out) (fun k_ h_ => h_)) (Kd.R_lt HO723.out)) (bz HB.out))
    have n3_ := Aside0.mk (bb BK715.out hb)
    have n4_ := Aside0.mk (bb BK716.out hb)
    have n5_ := Aside0.mk (bb BK717.out hb)
    have n6_ := Aside0.mk (bb BK718.out hb)
    have n7_ := Aside0.mk (bs HB.out hb)
    clear HO0_0
    clear HO723
    clear BK715
    clear BK716
    clear BK717
    clear BK718
    clear HB
    have HO0_0 := n0_
    have HO723 := n1_
    have HO726 := n2_
    have BK715 := n3_
    have BK716 := n4_
    have BK717 := n5_
    have BK718 := n6_
    have HB := n7_
    clear n0_ n1_ n2_ n3_ n4_ n5_ n6_ n7_
    (try clear hb)
    (try clear hb2)
    (try clear hk)
    (try clear hi)
    (try clear ho0)
    refine hK.out _ _ ⟨(blk_cell BK715.out 0).trans rfl, (blk_cell BK716.out 0).trans rfl⟩ (fun hHeld => ?_)
    clear hK K
    refine norm_ (a' := ?_) ?_ ?_
    rotate_left
    ·show Act.put _ (some 26) _ = _
     simp only [Act.put, List.setIfInBounds_toArray, List.set_cons_zero, List.set_cons_succ, i64_w, i32_w]
     rfl
    refine pure_ (i := 4) (N := some 7) (v := ?_) (a' := ?_) #[true, true, true, true, true, false] rfl rfl (by kernel_rfl) (fun _ _ _ h => h) (Or.inl ⟨by rfl, ?_⟩) ?_ ?_
    rotate_left
    ·intro w'
     go_simp
     with_reducible rfl
    rotate_left
    ·simp only [Act.put, List.setIfInBounds_toArray, List.set_cons_zero, List.set_cons_succ, i64_w, i32_w]
     rfl
    refine pure_ (i := 5) (N := some 8) (v := ?_) (a' := ?_) #[true, true, true, true, true, true] rfl rfl (by kernel_rfl) (fun _ _ _ h => h) (Or.inl ⟨by rfl, ?_⟩) ?_ ?_
    rotate_left
    ·intro w'
     go_simp
     with_reducible rfl
    rotate_left
    ·simp only [Act.put, List.setIfInBounds_toArray, List.set_cons_zero, List.set_cons_succ, i64_w, i32_w]
     rfl
    refine done_ (by kernel_rfl) ?_
    obtain ⟨Ao96, co96, eo96⟩ := Kd.R_slice HO726.out
    subst eo96
    obtain ⟨Ao97, co97, eo97⟩ := Kd.R_slice HO723.out
    subst eo97
    try go_wp2_with (first | ((with_reducible refine gate_callee (f := 56) rfl ?_); refine goesL_ (some 46) rfl rfl Try.func56 (by kernel_rfl) rfl #[.slice Ao97 t721.length co97, .slice Ao96 t724.length co96] rfl (by (try simp only [List.map_toArray, List.map_cons, List.map_nil]); first | done | rfl | (simp only [List.length_drop, List.length_take]; rfl)) ?_; (with_reducible refine (quot_long.calls k _ _ t721 _ _ t724 t741 t742 _ ?side1 ?side2 ?side3 ?side4 A76.out).mono ?_); (case side1 => exact cr HO723.out); (case side2 => exact (Kd.R_reads' HO723.out).2.1); (case side3 => exact cr HO726.out); (case side4 => exact (Kd.R_reads' HO726.out).2.1); rintro e w98 ⟨v743, v745, rfl, ho0, ho1, hb⟩; refine ⟨_, rfl, ?_⟩; have n0_ := Aside0.mk (Kd.V_mono (Kd.V_told (Kd.V_told (Kd.V_old HO0_0.out hb) (Kd.R_base ho0)) (Kd.R_base ho1)) (fun _ h_ => h_.1)); have n1_ := Aside0.mk (Kd.R_mono (Kd.R_told (Kd.R_told (Kd.R_old HO723.out hb) (Kd.R_base ho0)) (Kd.R_base ho1)) (fun _ h_ => h_.1)); have n2_ := Aside0.mk (Kd.R_mono (Kd.R_told (Kd.R_told (Kd.R_old HO726.out hb) (Kd.R_base ho0)) (Kd.R_base ho1)) (fun _ h_ => h_.1)); have n3_ := Aside0.mk (Kd.R_lower (Kd.R_new' (Kd.R_new' (Kd.R_newM (M := fun k_ => (w.heap.size ≤ k_)) ho0 (bz HB.out) (fun k_ h_ => h_)) (Kd.R_lt HO723.out)) (Kd.R_lt HO726.out)) (bz HB.out)); have n4_ := Aside0.mk (Kd.R_lower (Kd.R_new' (Kd.R_new' (Kd.R_newM (M := fun k_ => (w.heap.size ≤ k_)) ho1 (bz HB.out) (fun k_ h_ => h_)) (Kd.R_lt HO723.out)) (Kd.R_lt HO726.out)) (bz HB.out)); have n5_ := Aside0.mk (bb BK715.out hb); have n6_ := Aside0.mk (bb BK716.out hb); have n7_ := Aside0.mk (bb BK717.out hb); have n8_ := Aside0.mk (bb BK718.out hb); have n9_ := Aside0.mk (bs HB.out hb); clear HO0_0; clear HO723; clear HO726; clear BK715; clear BK716; clear BK717; clear BK718; clear HB; have HO0_0 := n0_; have HO723 := n1_; have HO726 := n2_; have HO744 := n3_; have HO746 := n4_; have BK715 := n5_; have BK716 := n6_; have BK717 := n7_; have BK718 := n8_; have HB := n9_; clear n0_ n1_ n2_ n3_ n4_ n5_ n6_ n7_ n8_ n9_; (try clear hb); (try clear hb2); (try clear hk); (try clear hi); (try clear ho0); (try clear ho1); obtain ⟨Ao99, co99, eo99⟩ := Kd.R_slice HO744.out; subst eo99) | ((with_reducible refine gate_callee (f := 14) rfl ?_); refine goesL_ (some 50) rfl rfl Try.func14 (by kernel_rfl) rfl #[.slice Ao99 t741.length co99] rfl (by (try simp only [List.map_toArray, List.map_cons, List.map_nil]); first | done | rfl | (simp only [List.length_drop, List.length_take]; rfl)) ?_; (with_reducible refine (nat_Of.calls k _ _ t741 t747 _ ?side1 ?side2 A77.out).mono ?_); (case side1 => exact cr HO744.out); (case side2 => exact (Kd.R_reads' HO744.out).2.1); rintro e w100 ⟨v748, rfl, ho0, hb⟩; refine ⟨_, rfl, ?_⟩; have n0_ := Aside0.mk (vb HO0_0.out hb); have n1_ := Aside0.mk (rb HO723.out hb); have n2_ := Aside0.mk (rb HO726.out hb); have n3_ := Aside0.mk (rb HO744.out hb); have n4_ := Aside0.mk (rb HO746.out hb); have n5_ := Aside0.mk (Kd.V_lower (Kd.V_mono (ok' := fun k_ => (P0_0_ k_ ∨ w.heap.size ≤ k_) ∧ OB Ao97 t721 co97 k_ ∧ OB Ao96 t724 co96 k_ ∧ OB Ao99 t741 co99 k_ ∧ some k_ ≠ (v745 : Value).ownBlock ∧ k_ ≠ gb715 ∧ k_ ≠ gb716 ∧ k_ ≠ gb717 ∧ k_ ≠ gb718) ho0 (fun k_ hk_ => ⟨(.inr (Nat.le_trans (bz HB.out) hk_)), (Kd.fresh' (Kd.R_lt HO723.out) k_ hk_), (Kd.fresh' (Kd.R_lt HO726.out) k_ hk_), (Kd.fresh' (Kd.R_lt HO744.out) k_ hk_), (Kd.fresh' (Kd.R_lt HO746.out) k_ hk_), (fb BK715.out k_ hk_), (fb BK716.out k_ hk_), (fb BK717.out k_ hk_), (fb BK718.out k_ hk_)⟩)) (bz HB.out)); have n6_ := Aside0.mk (bb BK715.out hb); have n7_ := Aside0.mk (bb BK716.out hb); have n8_ := Aside0.mk (bb BK717.out hb); have n9_ := Aside0.mk (bb BK718.out hb); have n10_ := Aside0.mk (bs HB.out hb); clear HO0_0; clear HO723; clear HO726; clear HO744; clear HO746; clear BK715; clear BK716; clear BK717; clear BK718; clear HB; have HO0_0 := n0_; have HO723 := n1_; have HO726 := n2_; have HO744 := n3_; have HO746 := n4_; have HO749 := n5_; have BK715 := n6_; have BK716 := n7_; have BK717 := n8_; have BK718 := n9_; have HB := n10_; clear n0_ n1_ n2_ n3_ n4_ n5_ n6_ n7_ n8_ n9_ n10_; (try clear hb); (try clear hb2); (try clear hk); (try clear hi); (try clear ho0); obtain ⟨Ao101, co101, eo101⟩ := Kd.R_slice HO746.out; subst eo101) | ((with_reducible refine gate_callee (f := 14) rfl ?_); refine goesL_ (some 52) rfl rfl Try.func14 (by kernel_rfl) rfl #[.slice Ao101 t742.length co101] rfl (by (try simp only [List.map_toArray, List.map_cons, List.map_nil]); first | done | rfl | (simp only [List.length_drop, List.length_take]; rfl)) ?_; (with_reducible refine (nat_Of.calls k _ _ t742 t750 _ ?side1 ?side2 A78.out).mono ?_); (case side1 => exact cr HO746.out); (case side2 => exact (Kd.R_reads' HO746.out).2.1); rintro e w102 ⟨v751, rfl, ho0, hb⟩; refine ⟨_, rfl, ?_⟩; have n0_ := Aside0.mk (vb HO0_0.out hb); have n1_ := Aside0.mk (rb HO723.out hb); have n2_ := Aside0.mk (rb HO726.out hb); have n3_ := Aside0.mk (rb HO744.out hb); have n4_ := Aside0.mk (rb HO746.out hb); have n5_ := Aside0.mk (vb HO749.out hb); have n6_ := Aside0.mk (Kd.V_lower (Kd.V_mono (ok' := fun k_ => (P0_0_ k_ ∨ w.heap.size ≤ k_) ∧ OB Ao97 t721 co97 k_ ∧ OB Ao96 t724 co96 k_ ∧ OB Ao99 t741 co99 k_ ∧ OB Ao101 t742 co101 k_ ∧ k_ ≠ gb715 ∧ k_ ≠ gb716 ∧ k_ ≠ gb717 ∧ k_ ≠ gb718) ho0 (fun k_ hk_ => ⟨(.inr (Nat.le_trans (bz HB.out) hk_)), (Kd.fresh' (Kd.R_lt HO723.out) k_ hk_), (Kd.fresh' (Kd.R_lt HO726.out) k_ hk_), (Kd.fresh' (Kd.R_lt HO744.out) k_ hk_), (Kd.fresh' (Kd.R_lt HO746.out) k_ hk_), (fb BK715.out k_ hk_), (fb BK716.out k_ hk_), (fb BK717.out k_ hk_), (fb BK718.out k_ hk_)⟩)) (bz HB.out)); have n7_ := Aside0.mk (bb BK715.out hb); have n8_ := Aside0.mk (bb BK716.out hb); have n9_ := Aside0.mk (bb BK717.out hb); have n10_ := Aside0.mk (bb BK718.out hb); have n11_ := Aside0.mk (bs HB.out hb); clear HO0_0; clear HO723; clear HO726; clear HO744; clear HO746; clear HO749; clear BK715; clear BK716; clear BK717; clear BK718; clear HB; have HO0_0 := n0_; have HO723 := n1_; have HO726 := n2_; have HO744 := n3_; have HO746 := n4_; have HO749 := n5_; have HO752 := n6_; have BK715 := n7_; have BK716 := n8_; have BK717 := n9_; have BK718 := n10_; have HB := n11_; clear n0_ n1_ n2_ n3_ n4_ n5_ n6_ n7_ n8_ n9_ n10_ n11_; (try clear hb); (try clear hb2); (try clear hk); (try clear hi); (try clear ho0); obtain ⟨Ao103, co103, eo103⟩ := Kd.V_slice HO749.out; subst eo103; have hnb104 := NB717_718.out; have hnc104 := NB718_717.out; have hcz105_0 : w102.cell? ⟨gb717, 0, none⟩ = some (.slice none 0 0) := (blk_cell BK717.out 0).trans rfl; have hfz105_0 := blk_frozen BK717.out 0; obtain ⟨Ao106, co106, eo106⟩ := Kd.V_slice HO752.out; subst eo106; have hcz107_0 : w102.cell? ⟨gb718, 0, none⟩ = some (.slice none 0 0) := (blk_cell BK718.out 0).trans rfl; have hfz107_0 := blk_frozen BK718.out 0))
    refine bodyPost_ret (results_list (rs := [.cell 4 25, .cell 5 25, .tmp 6]) rfl (by simp) (.cell gb717 25 #[.slice Ao103 t747.length co103] (0, 0) _ rfl (by (with_reducible repeat (first | refine blk_drewN ?_ _ | refine blk_drew ?_ | refine blk_alloc ?_ _)); refine blk_far ?_ NB717_718.out _; (with_reducible repeat (first | refine blk_drewN ?_ _ | refine blk_drew ?_ | refine blk_alloc ?_ _)); refine blk_put (cs := #[.slice none 0 0]) ?_ 0 _ rfl; (with_reducible repeat (first | refine blk_drewN ?_ _ | refine blk_drew ?_ | refine blk_alloc ?_ _)); exact BK717.out) Try.underlying25 rfl (by kernel_rfl) (.cell gb718 25 #[.slice Ao106 t750.length co106] (0, 0) _ rfl (by (with_reducible repeat (first | refine blk_drewN ?_ _ | refine blk_drew ?_ | refine blk_alloc ?_ _)); refine blk_put (cs := #[.slice none 0 0]) ?_ 0 _ rfl; (with_reducible repeat (first | refine blk_drewN ?_ _ | refine blk_drew ?_ | refine blk_alloc ?_ _)); refine blk_far ?_ NB718_717.out _; (with_reducible repeat (first | refine blk_drewN ?_ _ | refine blk_drew ?_ | refine blk_alloc ?_ _)); exact BK718.out) Try.underlying25 rfl (by kernel_rfl) (.tmp .nil)))) rfl ?_
    exact ⟨_, _, by first | rfl | (simp [errW_none, errW_some] <;> rfl) | (simp [*, errW_none, errW_some] <;> rfl), by (with_reducible repeat (first | apply Kd.V_alloc | apply Kd.V_drewN | apply Kd.V_drew)); exact Kd.V_mono (Kd.V_far (p := ⟨gb718, 0, none⟩) (Kd.V_far (p := ⟨gb717, 0, none⟩) (Kd.V_mono (Kd.V_mono HO749.out (fun k_ hk => (⟨hk, hk.2.2.2.2.2.2.2.1⟩ : _ ∧ k_ ≠ gb717))) (fun k_ hk => (⟨hk, hk.1.2.2.2.2.2.2.2.2⟩ : _ ∧ k_ ≠ gb718))) (fun _ hk => hk.1.2) (.slice Ao103 t747.length co103)) (fun _ hk => hk.2) (.slice Ao106 t750.length co106)) (fun _ hk => hk.1.1.1), by (with_reducible repeat (first | apply Kd.V_alloc | apply Kd.V_drewN | apply Kd.V_drew)); exact Kd.V_mono (Kd.V_far (p := ⟨gb718, 0, none⟩) (Kd.V_far (p := ⟨gb717, 0, none⟩) (Kd.V_mono (Kd.V_mono HO752.out (fun k_ hk => (⟨hk, hk.2.2.2.2.2.2.2.1⟩ : _ ∧ k_ ≠ gb717))) (fun k_ hk => (⟨hk, hk.1.2.2.2.2.2.2.2.2⟩ : _ ∧ k_ ≠ gb718))) (fun _ hk => hk.1.2) (.slice Ao103 t747.length co103)) (fun _ hk => hk.2) (.slice Ao106 t750.length co106)) (fun _ hk => hk.1.1.1), by repeat (first | (with_reducible first | exact HB.out | apply below_alloc | apply pw_below_drewN | apply below_drew1 | refine below_set ?_ GE715.out | refine below_set ?_ GE716.out | refine below_set ?_ GE717.out | refine below_set ?_ GE718.out) | exact HB.out)⟩
def chattellaw02_cut.f (l0 : List Int) : Option (List Int) := if 0 ≤ (mn (l0.length : Int) 10) then (if (mn (l0.length : Int) 10) ≤ (l0.length : Int) then (some (l0.take ((mn (l0.length : Int) 10) : Int).toNat)) else (none)) else (none)
set_option maxHeartbeats 8000000 in
set_option maxRecDepth 100000 in
theorem chattellaw02_cut.calls (P0_ : Nat → Prop) (A0 : Option Addr) (c0 : Nat) (l0 : List Int) (r : List Int) (w : World) (hs0 : Kd.V (Kd.int .u64) 27 w w.heap.size (fun k_ => P0_ k_) (.slice A0 l0.length c0) l0) (h : chattellaw02_cut.f l0 = some r) :
    Calls Try.prog 33 #[.slice A0 l0.length c0] w fun e w' => ∃ v0_ : Value, e = .returned (v0_) ∧ Kd.V (Kd.int .u64) 27 w' w.heap.size (fun k_ => (P0_ k_ ∨ w.heap.size ≤ k_)) v0_ r ∧ Below w.heap.size w w' := by
  have HO0 := Aside0.mk (show Kd.V (Kd.int .u64) 27 w w.heap.size (fun k_ => (P0_ k_ ∨ w.heap.size ≤ k_)) (.slice A0 l0.length c0) l0 from Kd.V_mono hs0 (fun k_ hk => .inl hk))
  have HB := Aside0.mk (Below.refl w.heap.size w)
  have H : (if 0 ≤ (mn (l0.length : Int) 10) then (if (mn (l0.length : Int) 10) ≤ (l0.length : Int) then (some (l0.take ((mn (l0.length : Int) 10) : Int).toNat)) else (none)) else (none)) = some r := h
  clear h
  obtain ⟨ji2, hji2⟩ : ∃ j_ : Int, (mn (l0.length : Int) 10) = j_ := ⟨_, rfl⟩
  replace H : (if 0 ≤ (ji2) then (if (ji2) ≤ (l0.length : Int) then (some (l0.take ((ji2) : Int).toNat)) else (none)) else (none)) = some r := by first | (rw [hji2] at H; exact H) | (simp only [hji2] at H ⊢; exact H)
  (try (have hji2h : ji2 ≤ 10 := by (rw [← hji2]; unfold mn; (repeat' split) <;> omega)))
  (try (have hji2g : ji2 ≤ 64 := by omega))
  (try (have hji2l : 0 ≤ ji2 := by (rw [← hji2]; unfold mn; (repeat' split) <;> omega)))
  (try (have hji2m : 0 ≤ ji2 := by omega))
  have hji2_ : (if 10 < (l0.length : Int) then 10 else (l0.length : Int)) = ji2 := hji2
  by_cases c3 : 0 ≤ (ji2)
  rotate_left
  · rw [if_neg c3] at H
    exact absurd H (by simp)
  rw [if_pos c3] at H
  have c3b0 := eq_true c3
  have c3b1 : decide (0 ≤ (ji2)) = true := decide_eq_true c3
  clear c3
  by_cases c4 : (ji2) ≤ (l0.length : Int)
  rotate_left
  · rw [if_neg c4] at H
    exact absurd H (by simp)
  rw [if_pos c4] at H
  have c4b0 := eq_true c4
  have c4b1 : decide ((ji2) ≤ (l0.length : Int)) = true := decide_eq_true c4
  clear c4
  obtain ⟨y753, hy753⟩ : ∃ y_ : List Int, y_ = (l0.take ((ji2) : Int).toNat) := ⟨_, rfl⟩
  replace H : (some y753) = some r := by first | (rw [hy753]; with_reducible exact H) | (have H2_ := (Option.bind_some _ _).symm.trans H; rw [hy753]; with_reducible exact H2_) | (have H2_ := (Option.bind_some _ _).symm.trans H; with_reducible exact H2_) | with_reducible exact H | (rw [hy753]; exact H) | exact H
  have Ny753 := Aside0.mk hy753
  clear hy753
  obtain rfl := Option.some.inj H
  have q5 : ((ji2) : Int) ≤ ((l0.length : Int) : Int) := of_decide_eq_true (by first | (with_reducible assumption) | assumption)
  obtain ⟨i05, hi05, _, hsz5, _⟩ := info_parts info27
  have hroom5 : l0.length ≤ c0 := (Kd.V_reads' HO0.out).2.1
  have hC5 : Kd.F (Kd.int .u64) _ _ A0 l0.length l0 := (Kd.V_at (base := w.heap.size) HO0.out).2.2
  have hcut5 := cut_to (P := Try.prog) 22 27 .i64 Try.underlying22 hi05 A0 l0.length c0 (ji2) (of_decide_eq_true (by first | (with_reducible assumption) | assumption)) q5 hroom5
  have hr5 := Kd.F_take (m := ((ji2) : Int).toNat) hC5 (by omega)
  have hy5 : y753.length = ((ji2) : Int).toNat := (by rw [Ny753.out, List.length_take]; omega)
  rw [← Ny753.out] at hr5
  rw [← hy5] at hcut5
  have HO757 := Aside0.mk (show Kd.V (Kd.int .u64) 27 _ w.heap.size _ (.slice A0 y753.length c0) y753 from Kd.V_mk (by omega) hr5)
  have HC757 := Aside0.mk (show y753.length ≤ c0 from by omega)
  clear hr5 hC5 hroom5 hi05 hsz5
  have KY5 := Aside0.mk hy5
  clear hy5
  replace q5 := eq_true q5
  go_enter Try.func33, Try.ntmps33
  go_wp2
  go_ret
  exact ⟨_, by first | rfl | (simp [errW_none, errW_some] <;> rfl) | (simp only [← hji2]; first | rfl | (simp [errW_none, errW_some] <;> rfl)) | (simp [*, errW_none, errW_some] <;> rfl), by (with_reducible repeat (first | apply Kd.V_alloc | apply Kd.V_drewN | apply Kd.V_drew)); exact HO757.out, by repeat (first | (with_reducible first | exact HB.out | apply below_alloc | apply pw_below_drewN | apply below_drew1) | exact HB.out)⟩
def nat_Nat_Bits.f (k : Nat) (l0_0 : List Int) : Option (Int) := (nat_Nat_Zero.f l0_0).bind fun t139 => (if t139 = true then (some 0) else (if 0 ≤ (wrap64 ((l0_0.length : Int) - 1)) then (if (wrap64 ((l0_0.length : Int) - 1)) < (l0_0.length : Int) then ((bits_Len64.f k (rd l0_0 (wrap64 ((l0_0.length : Int) - 1)))).bind fun t141 => (some (wrap64 ((wrap64 (64 * (wrap64 ((l0_0.length : Int) - 1)))) + t141)))) else (none)) else (none)))
theorem nat_Nat_Bits.mono : ∀ a0 k, LeO (nat_Nat_Bits.f k a0) (nat_Nat_Bits.f (k + 1) a0) := by
  intro a0 k
  unfold nat_Nat_Bits.f
  repeat' first
      | (with_reducible exact bits_Len64.mono _ _)
      | (with_reducible exact LeO.refl _)
      | (with_reducible exact LeO.none _)
      | (with_reducible refine LeO.ite ?_ ?_)
      | (with_reducible refine LeO.bind ?_ (fun _ => ?_))
      | exact bits_Len64.mono _ _
      | exact LeO.none _
      | refine LeO.ite ?_ ?_
      | refine LeO.bind ?_ (fun _ => ?_)
set_option maxHeartbeats 8000000 in
set_option maxRecDepth 100000 in
theorem nat_Nat_Bits.calls (k : Nat) (A0_0 : Option Addr) (c0_0 : Nat) (l0_0 : List Int) (r : Int) (w : World) (hr0_0 : Kd.C (Kd.int .u64) w A0_0 l0_0.length l0_0) (hc0_0 : l0_0.length ≤ c0_0) (h : nat_Nat_Bits.f k l0_0 = some r) :
    Calls Try.prog 19 #[.agg #[.slice A0_0 l0_0.length c0_0]] w fun e w' => e = .returned (.int .i64 r) ∧ Below w.heap.size w w' := by
  have hu25 := Try.underlying25
  have HR0_0 := Aside0.mk hr0_0
  have HC0_0 := Aside0.mk hc0_0
  clear hr0_0 hc0_0
  have HB := Aside0.mk (Below.refl w.heap.size w)
  have H : ((nat_Nat_Zero.f l0_0).bind fun t139 => (if t139 = true then (some 0) else (if 0 ≤ (wrap64 ((l0_0.length : Int) - 1)) then (if (wrap64 ((l0_0.length : Int) - 1)) < (l0_0.length : Int) then ((bits_Len64.f k (rd l0_0 (wrap64 ((l0_0.length : Int) - 1)))).bind fun t141 => (some (wrap64 ((wrap64 (64 * (wrap64 ((l0_0.length : Int) - 1)))) + t141)))) else (none)) else (none)))) = some r := h
  clear h
  replace H := Option.bind_eq_some_iff.mp H
  obtain ⟨t139, A20, H⟩ := H
  replace H : (if t139 = true then (some 0) else (if 0 ≤ (wrap64 ((l0_0.length : Int) - 1)) then (if (wrap64 ((l0_0.length : Int) - 1)) < (l0_0.length : Int) then ((bits_Len64.f k (rd l0_0 (wrap64 ((l0_0.length : Int) - 1)))).bind fun t141 => (some (wrap64 ((wrap64 (64 * (wrap64 ((l0_0.length : Int) - 1)))) + t141)))) else (none)) else (none))) = some r := H
  have A2 := Aside0.mk A20
  clear A20
  by_cases c3 : t139 = true
  · subst c3
    have H1 : (some 0) = some r := by rw [if_pos rfl] at H; exact H
    clear H
    have H := H1
    clear H1
    obtain rfl := Option.some.inj H
    go_enter Try.func19, Try.ntmps19
    go_wp2_with (first | ((with_reducible refine gate_dst (N := 1) rfl ?_); refine box_event ?hg (N := 1) ?hd (cs := #[.slice A0_0 l0_0.length c0_0]) (t := 25) ?hr ?_; (case hd => rfl); (case hg => rfl); (case hr => first | (go_simp; done) | (go_simp; rfl)); intro gb138 hg w4 hbox hb; have n0_ := Aside0.mk (below_step (by repeat (first | (with_reducible first | exact HB.out | apply below_alloc | apply pw_below_drewN | apply below_drew1) | exact HB.out)) hb); have n1_ := Aside0.mk (hbox); have n2_ := Aside0.mk ((by rw [hg]; exact (below_size (by repeat (first | (with_reducible first | exact HB.out | apply below_alloc | apply pw_below_drewN | apply below_drew1) | exact HB.out))) : w.heap.size ≤ gb138)); have n3_ := Aside0.mk ((by rw [hg]; exact (below_size (by repeat (first | (with_reducible first | exact HB.out | apply below_alloc | apply pw_below_drewN | apply below_drew1) | exact HB.out))) : w.heap.size ≤ gb138)); clear HB; have HB := n0_; have BK138 := n1_; have GW138 := n2_; have GE138 := n3_; clear n0_ n1_ n2_ n3_; clear hb hbox hg; have hcz5_0 : w4.cell? ⟨gb138, 0, none⟩ = some (.slice A0_0 l0_0.length c0_0) := (blk_cell BK138.out 0).trans rfl; have hfz5_0 := blk_frozen BK138.out 0) | ((with_reducible refine gate_callee (f := 18) rfl ?_); refine goesL_ (some 5) rfl rfl Try.func18 (by kernel_rfl) rfl #[.agg #[.slice A0_0 l0_0.length c0_0]] rfl (by (try simp only [List.map_toArray, List.map_cons, List.map_nil]); first | done | rfl | (simp only [List.length_drop, List.length_take]; rfl)) ?_; (with_reducible refine (nat_Nat_Zero.calls _ _ l0_0 true _ ?side1 ?side2 A2.out).mono ?_); (case side1 => repeat (first | exact (Kd.C_below HR0_0.out HB.out) | (with_reducible refine Kd.C_alloc ?_ _) | (with_reducible refine Kd.C_drewN ?_ _) | (with_reducible refine Kd.C_drew ?_))); (case side2 => exact HC0_0.out); rintro e w6 ⟨rfl, hb⟩; refine ⟨_, rfl, ?_⟩; replace BK138 := Aside0.mk (bb BK138.out hb); replace HB := Aside0.mk (bs HB.out hb); (try clear hb); (try clear hb2); (try clear hk); (try clear hi)))
    go_ret
    exact ⟨by first | rfl | (simp [errW_none, errW_some] <;> rfl) | (simp [*, errW_none, errW_some] <;> rfl), by repeat (first | (with_reducible first | exact HB.out | apply below_alloc | apply pw_below_drewN | apply below_drew1 | refine below_set ?_ GE138.out) | exact HB.out)⟩
  · replace c3 := Bool.eq_false_iff.mpr c3
    subst c3
    have H1 : (if 0 ≤ (wrap64 ((l0_0.length : Int) - 1)) then (if (wrap64 ((l0_0.length : Int) - 1)) < (l0_0.length : Int) then ((bits_Len64.f k (rd l0_0 (wrap64 ((l0_0.length : Int) - 1)))).bind fun t141 => (some (wrap64 ((wrap64 (64 * (wrap64 ((l0_0.length : Int) - 1)))) + t141)))) else (none)) else (none)) = some r := by rw [if_neg (show ¬ (false = true) by decide)] at H; exact H
    clear H
    have H := H1
    clear H1
    obtain ⟨ji7, hji7⟩ : ∃ j_ : Int, (wrap64 ((l0_0.length : Int) - 1)) = j_ := ⟨_, rfl⟩
    replace H : (if 0 ≤ (ji7) then (if (ji7) < (l0_0.length : Int) then ((bits_Len64.f k (rd l0_0 (ji7))).bind fun t141 => (some (wrap64 ((wrap64 (64 * (ji7))) + t141)))) else (none)) else (none)) = some r := by first | (rw [hji7] at H; exact H) | (simp only [hji7] at H ⊢; exact H)
    (try rw [hji7] at A2)
    have hji7w : (IntKind.i64.wrap ((l0_0.length : Int) - 1)) = ji7 := (i64_w _).trans hji7
    by_cases c8 : 0 ≤ (ji7)
    rotate_left
    · rw [if_neg c8] at H
      exact absurd H (by simp)
    rw [if_pos c8] at H
    have c8b0 : decide (0 ≤ (ji7)) = true := decide_eq_true c8
    clear c8
    by_cases c9 : (ji7) < (l0_0.length : Int)
    rotate_left
    · rw [if_neg c9] at H
      exact absurd H (by simp)
    rw [if_pos c9] at H
    have c9b0 : decide ((ji7) < (l0_0.length : Int)) = true := decide_eq_true c9
    clear c9
    replace H := Option.bind_eq_some_iff.mp H
    obtain ⟨t141, A100, H⟩ := H
    replace H : (some (wrap64 ((wrap64 (64 * (ji7))) + t141))) = some r := H
    have A10 := Aside0.mk A100
    clear A100
    obtain rfl := Option.some.inj H
    go_enter Try.func19, Try.ntmps19
    go_wp2_with (first | ((with_reducible refine gate_dst (N := 1) rfl ?_); refine box_event ?hg (N := 1) ?hd (cs := #[.slice A0_0 l0_0.length c0_0]) (t := 25) ?hr ?_; (case hd => rfl); (case hg => rfl); (case hr => first | (go_simp; done) | (go_simp; rfl)); intro gb138 hg w11 hbox hb; have n0_ := Aside0.mk (below_step (by repeat (first | (with_reducible first | exact HB.out | apply below_alloc | apply pw_below_drewN | apply below_drew1) | exact HB.out)) hb); have n1_ := Aside0.mk (hbox); have n2_ := Aside0.mk ((by rw [hg]; exact (below_size (by repeat (first | (with_reducible first | exact HB.out | apply below_alloc | apply pw_below_drewN | apply below_drew1) | exact HB.out))) : w.heap.size ≤ gb138)); have n3_ := Aside0.mk ((by rw [hg]; exact (below_size (by repeat (first | (with_reducible first | exact HB.out | apply below_alloc | apply pw_below_drewN | apply below_drew1) | exact HB.out))) : w.heap.size ≤ gb138)); clear HB; have HB := n0_; have BK138 := n1_; have GW138 := n2_; have GE138 := n3_; clear n0_ n1_ n2_ n3_; clear hb hbox hg; have hcz12_0 : w11.cell? ⟨gb138, 0, none⟩ = some (.slice A0_0 l0_0.length c0_0) := (blk_cell BK138.out 0).trans rfl; have hfz12_0 := blk_frozen BK138.out 0) | ((with_reducible refine gate_callee (f := 18) rfl ?_); refine goesL_ (some 5) rfl rfl Try.func18 (by kernel_rfl) rfl #[.agg #[.slice A0_0 l0_0.length c0_0]] rfl (by (try simp only [List.map_toArray, List.map_cons, List.map_nil]); first | done | rfl | (simp only [List.length_drop, List.length_take]; rfl)) ?_; (with_reducible refine (nat_Nat_Zero.calls _ _ l0_0 false _ ?side1 ?side2 A2.out).mono ?_); (case side1 => repeat (first | exact (Kd.C_below HR0_0.out HB.out) | (with_reducible refine Kd.C_alloc ?_ _) | (with_reducible refine Kd.C_drewN ?_ _) | (with_reducible refine Kd.C_drew ?_))); (case side2 => exact HC0_0.out); rintro e w13 ⟨rfl, hb⟩; refine ⟨_, rfl, ?_⟩; replace BK138 := Aside0.mk (bb BK138.out hb); replace HB := Aside0.mk (bs HB.out hb); (try clear hb); (try clear hb2); (try clear hk); (try clear hi); have hcz14_0 : w13.cell? ⟨gb138, 0, none⟩ = some (.slice A0_0 l0_0.length c0_0) := (blk_cell BK138.out 0).trans rfl; have hfz14_0 := blk_frozen BK138.out 0; have p140 : 0 ≤ ((ji7) : Int) := of_decide_eq_true (by first | (with_reducible assumption) | assumption); have q140 : (ji7) < (l0_0.length : Int) := of_decide_eq_true (by first | (with_reducible assumption) | assumption); obtain ⟨ad140, e140, hx140_0⟩ := Kd.at_int HR0_0.out (ji7) p140 q140; cases e140; replace hx140_0 := (HB.out.cell (World.block_lt_of_cell? w _ hx140_0)).trans hx140_0; replace p140 := eq_true p140; replace q140 := eq_true q140) | ((with_reducible refine gate_callee (f := 43) rfl ?_); refine goesL_ (some 17) rfl rfl Try.func43 (by kernel_rfl) rfl #[.int .u64 (rd l0_0 (ji7))] rfl (by (try simp only [List.map_toArray, List.map_cons, List.map_nil]); first | done | (simp only [hji7]; rfl) | rfl | (simp only [List.length_drop, List.length_take]; rfl)) ?_; (with_reducible refine (bits_Len64.calls k (rd l0_0 (ji7)) t141 _ A10.out).mono ?_); rintro e w' ⟨rfl, ⟨nd, rfl⟩⟩; refine ⟨_, rfl, ?_⟩))
    go_ret
    exact ⟨by first | rfl | (simp [errW_none, errW_some] <;> rfl) | (simp only [← hji7]; first | rfl | (simp [errW_none, errW_some] <;> rfl)) | (simp [*, errW_none, errW_some] <;> rfl), by repeat (first | (with_reducible first | exact HB.out | apply below_alloc | apply pw_below_drewN | apply below_drew1 | refine below_set ?_ GE138.out) | exact HB.out)⟩
def quot_Shl.f (k : Nat) (l0_0 : List Int) (a1 : Int) : Option (List Int × Int) := (quot_wrong.f a1).bind fun t760 => (if t760 = true then (some (([] : List Int), 2)) else (if 0 ≤ (wrap64 (Int.tdiv a1 64)) then (if (wrap64 (Int.tdiv a1 64) : Int).toNat ≤ 35184372088832 then ((some (List.replicate (wrap64 (Int.tdiv a1 64) : Int).toNat 0 : List Int)).bind fun y761 => ((nat_Nat_Limbs.f l0_0).bind fun t764 => ((quot_moved.f k t764 (IntKind.u64.wrap (Int.tmod a1 64))).bind fun t767 => (if y761.length + t767.length < 17592186044416 then ((nat_Of.f k (y761 ++ t767)).bind fun t773 => (some (t773, 0))) else (none))))) else (none)) else (none)))
theorem quot_Shl.mono : ∀ a0 a1 k, LeO (quot_Shl.f k a0 a1) (quot_Shl.f (k + 1) a0 a1) := by
 intro a0 a1 k
 unfold quot_Shl.f
 repeat' first
   | (with_reducible exact nat_Of.mono _ _)
   | (with_reducible exact quot_moved.mono _ _ _)
   | (with_reducible exact LeO.refl _)
   | (with_reducible exact LeO.none _)
   | (with_reducible refine LeO.ite ?_ ?_)
   | (with_reducible refine LeO.bind ?_ (fun _ => ?_))
   | exact nat_Of.mono _ _
   | exact quot_moved.mono _ _ _
   | exact LeO.none _
   | refine LeO.ite ?_ ?_
   | refine LeO.bind ?_ (fun _ => ?_)
def quot_Shl.T3 : Bool × List (List Nat × List Nat) := (true, [([], []), ([0], [0]), ([1, 1], [1]), ([], []), ([3], [3]), ([], []), ([5], [5]), ([6], [6]), ([4, 7, 4], [4, 7]), ([2, 8, 8], [2, 8]), ([9, 9], [9]), ([10, 10, 0, 1, 2, 3, 4, 5, 6, 7, 8, 9, 10], [10]), ([11, 0, 1, 2, 3, 4, 5, 6, 7, 8, 9, 10, 11], [])])
def quot_Shl.B3 : List Nat := [0, 1, 3, 0, 8, 0, 32, 96, 248, 511, 1023, 2047, 4095]
theorem quot_Shl.tab3 : rtab .any (opsOf Try.f37 3) = quot_Shl.T3 := by kernel_rfl
theorem quot_Shl.bits3 : waitsOk quot_Shl.T3.2 quot_Shl.B3 = true := by kernel_rfl
set_option maxHeartbeats 8000000 in
set_option maxRecDepth 100000 in
theorem quot_Shl.calls (k : Nat) (A0_0 : Option Addr) (c0_0 : Nat) (l0_0 : List Int) (a1 : Int) (r1 : List Int) (r2 : Int) (w : World) (hr0_0 : Kd.C (Kd.int .u64) w A0_0 l0_0.length l0_0) (hc0_0 : l0_0.length ≤ c0_0) (h : quot_Shl.f k l0_0 a1 = some (r1, r2)) :
  Calls Try.prog 37 #[.agg #[.slice A0_0 l0_0.length c0_0], .int .i64 a1] w fun e w' => ∃ v0_ : Value, e = .returned (.tuple #[.agg #[v0_], .int .i64 r2]) ∧ Kd.V (Kd.int .u64) 27 w' w.heap.size (fun k_ => (w.heap.size ≤ k_)) v0_ r1 ∧ Below w.heap.size w w' := by
 have hu25 := Try.underlying25
 have HR0_0 := Aside0.mk hr0_0
 have HC0_0 := Aside0.mk hc0_0
 clear hr0_0 hc0_0
 have HB := Aside0.mk (Below.refl w.heap.size w)
 have H : ((quot_wrong.f a1).bind fun t760 => (if t760 = true then (some (([] : List Int), 2)) else (if 0 ≤ (wrap64 (Int.tdiv a1 64)) then (if (wrap64 (Int.tdiv a1 64) : Int).toNat ≤ 35184372088832 then ((some (List.replicate (wrap64 (Int.tdiv a1 64) : Int).toNat 0 : List Int)).bind fun y761 => ((nat_Nat_Limbs.f l0_0).bind fun t764 => ((quot_moved.f k t764 (IntKind.u64.wrap (Int.tmod a1 64))).bind fun t767 => (if y761.length + t767.length < 17592186044416 then ((nat_Of.f k (y761 ++ t767)).bind fun t773 => (some (t773, 0))) else (none))))) else (none)) else (none)))) = some (r1, r2) := h
 clear h
 replace H := Option.bind_eq_some_iff.mp H
 obtain ⟨t760, A30, H⟩ := H
 (try dsimp only at H)
 have A3 := Aside0.mk A30
 clear A30
 by_cases c4 : t760 = true
 ·subst c4
  have H1 : (some (([] : List Int), 2)) = some (r1, r2) := by rw [if_pos rfl] at H; exact H
  clear H
  have H := H1
  clear H1
  simp only [Option.some.injEq, Prod.mk.injEq] at H
  obtain ⟨rfl, rfl⟩ := H
  go_enter Try.func37, Try.ntmps37
  go_wp2_with (first | ((with_reducible refine gate_dst (N := 2) rfl ?_); refine box_event ?hg (N := 2) ?hd (cs := #[.slice A0_0 l0_0.length c0_0]) (t := 25) ?hr ?_; (case hd => rfl); (case hg => rfl); (case hr => first | (go_simp; done) | (go_simp; rfl)); intro gb758 hg w5 hbox hb; have n0_ := Aside0.mk (below_step (by repeat (first | (with_reducible first | exact HB.out | apply below_alloc | apply pw_below_drewN | apply below_drew1) | exact HB.out)) hb); have n1_ := Aside0.mk (hbox); have n2_ := Aside0.mk ((by rw [hg]; exact (below_size (by repeat (first | (with_reducible first | exact HB.out | apply below_alloc | apply pw_below_drewN | apply below_drew1) | exact HB.out))) : w.heap.size ≤ gb758)); have n3_ := Aside0.mk ((by rw [hg]; exact (below_size (by repeat (first | (with_reducible first | exact HB.out | apply below_alloc | apply pw_below_drewN | apply below_drew1) | exact HB.out))) : w.heap.size ≤ gb758)); clear HB; have HB := n0_; have BK758 := n1_; have GW758 := n2_; have GE758 := n3_; clear n0_ n1_ n2_ n3_; clear hb hbox hg) | ((with_reducible refine gate_dst (N := 4) rfl ?_); refine box_event ?hg (N := 4) ?hd (cs := #[.slice none 0 0]) (t := 25) ?hr ?_; (case hd => rfl); (case hg => rfl); (case hr => first | (go_simp; done) | (go_simp; rfl)); intro gb759 hg w6 hbox hb; have n0_ := Aside0.mk (bb BK758.out hb); have n1_ := Aside0.mk (bs HB.out hb); have n2_ := Aside0.mk (hbox); have n3_ := Aside0.mk ((by rw [hg]; exact (bz HB.out) : w.heap.size ≤ gb759)); have n4_ := Aside0.mk ((by rw [hg]; exact (bz HB.out) : w.heap.size ≤ gb759)); have n5_ := Aside0.mk ((by rw [hg]; exact Nat.ne_of_lt (blk_lt (g := gb758) (o := .cells #[.slice A0_0 l0_0.length c0_0] 25 (0, 0)) BK758.out) : gb758 ≠ gb759)); have n6_ := Aside0.mk ((by rw [hg]; exact Nat.ne_of_gt (blk_lt (g := gb758) (o := .cells #[.slice A0_0 l0_0.length c0_0] 25 (0, 0)) BK758.out) : gb759 ≠ gb758)); clear BK758; clear HB; have BK758 := n0_; have HB := n1_; have BK759 := n2_; have GW759 := n3_; have GE759 := n4_; have NB758_759 := n5_; have NB759_758 := n6_; clear n0_ n1_ n2_ n3_ n4_ n5_ n6_; clear hb hbox hg) | ((with_reducible refine gate_callee (f := 57) rfl ?_); refine goesL_ (some 7) rfl rfl Try.func57 (by kernel_rfl) rfl #[.int .i64 a1] rfl (by (try simp only [List.map_toArray, List.map_cons, List.map_nil]); first | done | rfl | (simp only [List.length_drop, List.length_take]; rfl)) ?_; (with_reducible refine (quot_wrong.calls a1 true _ A3.out).mono ?_); rintro e w' ⟨rfl, ⟨nd, rfl⟩⟩; refine ⟨_, rfl, ?_⟩; (try (rw [drewN_self w6]; generalize hq_ : World.drewN w6 _ = w6; have n0_ : Aside0 (w6.heap[gb758]? = some (.cells #[.slice A0_0 l0_0.length c0_0] 25 (0, 0))) := ⟨by rw [← hq_]; exact BK758.out⟩; have n1_ : Aside0 (w6.heap[gb759]? = some (.cells #[.slice none 0 0] 25 (0, 0))) := ⟨by rw [← hq_]; exact BK759.out⟩; have n2_ : Aside0 (Below w.heap.size w w6) := ⟨by rw [← hq_]; exact (by repeat (first | (with_reducible first | exact HB.out | apply below_alloc | apply pw_below_drewN | apply below_drew1 | refine below_set ?_ GE758.out | refine below_set ?_ GE759.out) | exact HB.out))⟩; clear BK758 BK759 HB hq_; have BK758 := n0_; have BK759 := n1_; have HB := n2_; clear n0_ n1_ n2_; have hygb758_0 : w6.cell? ⟨gb758, 0, none⟩ = some (.slice A0_0 l0_0.length c0_0) := (blk_cell BK758.out 0).trans rfl; have hwgb758_0 := blk_frozen BK758.out 0; have hygb759_0 : w6.cell? ⟨gb759, 0, none⟩ = some (.slice none 0 0) := (blk_cell BK759.out 0).trans rfl; have hwgb759_0 := blk_frozen BK759.out 0)); have hnb7 := NB759_758.out; have hnc7 := NB758_759.out; have hcz8_0 : w6.cell? ⟨gb759, 0, none⟩ = some (.slice none 0 0) := (blk_cell BK759.out 0).trans rfl; have hfz8_0 := blk_frozen BK759.out 0))
  refine bodyPost_ret (results_ct rfl _ _ gb759 25 #[.slice none 0 0] (0, 0) _ rfl (by (with_reducible repeat (first | refine blk_drewN ?_ _ | refine blk_drew ?_ | refine blk_alloc ?_ _)); refine blk_put (cs := #[.slice none 0 0]) ?_ 0 _ rfl; (with_reducible repeat (first | refine blk_drewN ?_ _ | refine blk_drew ?_ | refine blk_alloc ?_ _)); exact BK759.out) Try.underlying25 rfl (by kernel_rfl)) rfl ?_
  exact ⟨_, by first | rfl | (simp [errW_none, errW_some] <;> rfl) | (simp [*, errW_none, errW_some] <;> rfl), Kd.V_nil _ _ _ _ _, by repeat (first | (with_reducible first | exact HB.out | apply below_alloc | apply pw_below_drewN | apply below_drew1 | refine below_set ?_ GE758.out | refine below_set ?_ GE759.out) | exact HB.out)⟩
 ·replace c4 := Bool.eq_false_iff.mpr c4
  subst c4
  have H1 : (if 0 ≤ (wrap64 (Int.tdiv a1 64)) then (if (wrap64 (Int.tdiv a1 64) : Int).toNat ≤ 35184372088832 then ((some (List.replicate (wrap64 (Int.tdiv a1 64) : Int).toNat 0 : List Int)).bind fun y761 => ((nat_Nat_Limbs.f l0_0).bind fun t764 => ((quot_moved.f k t764 (IntKind.u64.wrap (Int.tmod a1 64))).bind fun t767 => (if y761.length + t767.length < 17592186044416 then ((nat_Of.f k (y761 ++ t767)).bind fun t773 => (some (t773, 0))) else (none))))) else (none)) else (none)) = some (r1, r2) := by rw [if_neg (show ¬ (false = true) by decide)] at H; exact H
  clear H
  have H := H1
  clear H1
  obtain ⟨ji9, hji9⟩ : ∃ j_ : Int, (wrap64 (Int.tdiv a1 64)) = j_ := ⟨_, rfl⟩
  replace H : (if 0 ≤ (ji9) then (if (ji9 : Int).toNat ≤ 35184372088832 then ((some (List.replicate (ji9 : Int).toNat 0 : List Int)).bind fun y761 => ((nat_Nat_Limbs.f l0_0).bind fun t764 => ((quot_moved.f k t764 (IntKind.u64.wrap (Int.tmod a1 64))).bind fun t767 => (if y761.length + t767.length < 17592186044416 then ((nat_Of.f k (y761 ++ t767)).bind fun t773 => (some (t773, 0))) else (none))))) else (none)) else (none)) = some (r1, r2) := by first | (rw [hji9] at H; exact H) | (simp only [hji9] at H ⊢; exact H)
  (try rw [hji9] at A3)
  have hji9w : (IntKind.i64.wrap (Int.tdiv a1 64)) = ji9 := (i64_w _).trans hji9
  by_cases c10 : 0 ≤ (ji9)
  rotate_left
  ·rw [if_neg c10] at H
   exact absurd H (by simp)
  rw [if_pos c10] at H
  have c10b0 := eq_true c10
  have c10b1 : decide (0 ≤ (ji9)) = true := decide_eq_true c10
  clear c10
  by_cases c11 : (ji9 : Int).toNat ≤ 35184372088832
  rotate_left
  ·rw [if_neg c11] at H
   exact absurd H (by simp)
  rw [if_pos c11] at H
  have c11b0 := eq_true c11
  have c11b1 : decide ((ji9 : Int).toNat ≤ 35184372088832) = true := decide_eq_true c11
  clear c11
  obtain ⟨y761, hy761⟩ : ∃ y_ : List Int, y_ = (List.replicate (ji9 : Int).toNat 0) := ⟨_, rfl⟩
  replace H : ((nat_Nat_Limbs.f l0_0).bind fun t764 => ((quot_moved.f k t764 (IntKind.u64.wrap (Int.tmod a1 64))).bind fun t767 => (if y761.length + t767.length < 17592186044416 then ((nat_Of.f k (y761 ++ t767)).bind fun t773 => (some (t773, 0))) else (none)))) = some (r1, r2) := by first | (rw [hy761]; with_reducible exact H) | (have H2_ := (Option.bind_some _ _).symm.trans H; rw [hy761]; with_reducible exact H2_) | (have H2_ := (Option.bind_some _ _).symm.trans H; with_reducible exact H2_) | with_reducible exact H | (rw [hy761]; exact H) | exact H
  have Ny761 := Aside0.mk hy761
  clear hy761
  replace H := Option.bind_eq_some_iff.mp H
  obtain ⟨t764, A120, H⟩ := H
  (try dsimp only at H)
  have A12 := Aside0.mk A120
  clear A120
  replace H := Option.bind_eq_some_iff.mp H
  obtain ⟨t767, A130, H⟩ := H
  (try dsimp only at H)
  have A13 := Aside0.mk A130
  clear A130
  by_cases c14 : y761.length + t767.length < 17592186044416
  rotate_left
  ·rw [if_neg c14] at H
   exact absurd H (by simp)
  rw [if_pos c14] at H
  have LMc14 := Aside0.mk c14
  clear c14
  obtain ⟨y770, hy770⟩ : ∃ y_ : List Int, y_ = (y761 ++ t767) := ⟨_, rfl⟩
  replace H : ((nat_Of.f k y770).bind fun t773 => (some (t773, 0))) = some (r1, r2) := by first | (rw [hy770]; with_reducible exact H) | (have H2_ := (Option.bind_some _ _).symm.trans H; rw [hy770]; with_reducible exact H2_) | (have H2_ := (Option.bind_some _ _).symm.trans H; with_reducible exact H2_) | with_reducible exact H | (rw [hy770]; exact H) | exact H
  have Ny770 := Aside0.mk hy770
  clear hy770
  replace H := Option.bind_eq_some_iff.mp H
  obtain ⟨t773, A150, H⟩ := H
  (try dsimp only at H)
  have A15 := Aside0.mk A150
  clear A150
  simp only [Option.some.injEq, Prod.mk.injEq] at H
  obtain ⟨rfl, rfl⟩ := H
  go_enter Try.func37, Try.ntmps37
  try go_wp2_with (first | ((with_reducible refine gate_dst (N := 2) rfl ?_); refine box_event ?hg (N := 2) ?hd (cs := #[.slice A0_0 l0_0.length c0_0]) (t := 25) ?hr ?_; (case hd => rfl); (case hg => rfl); (case hr => first | (go_simp; done) | (go_simp; rfl)); intro gb758 hg w16 hbox hb; have n0_ := Aside0.mk (below_step (by repeat (first | (with_reducible first | exact HB.out | apply below_alloc | apply pw_below_drewN | apply below_drew1) | exact HB.out)) hb); have n1_ := Aside0.mk (hbox); have n2_ := Aside0.mk ((by rw [hg]; exact (below_size (by repeat (first | (with_reducible first | exact HB.out | apply below_alloc | apply pw_below_drewN | apply below_drew1) | exact HB.out))) : w.heap.size ≤ gb758)); have n3_ := Aside0.mk ((by rw [hg]; exact (below_size (by repeat (first | (with_reducible first | exact HB.out | apply below_alloc | apply pw_below_drewN | apply below_drew1) | exact HB.out))) : w.heap.size ≤ gb758)); clear HB; have HB := n0_; have BK758 := n1_; have GW758 := n2_; have GE758 := n3_; clear n0_ n1_ n2_ n3_; clear hb hbox hg) | ((with_reducible refine gate_dst (N := 4) rfl ?_); refine box_event ?hg (N := 4) ?hd (cs := #[.slice none 0 0]) (t := 25) ?hr ?_; (case hd => rfl); (case hg => rfl); (case hr => first | (go_simp; done) | (go_simp; rfl)); intro gb759 hg w17 hbox hb; have n0_ := Aside0.mk (bb BK758.out hb); have n1_ := Aside0.mk (bs HB.out hb); have n2_ := Aside0.mk (hbox); have n3_ := Aside0.mk ((by rw [hg]; exact (bz HB.out) : w.heap.size ≤ gb759)); have n4_ := Aside0.mk ((by rw [hg]; exact (bz HB.out) : w.heap.size ≤ gb759)); have n5_ := Aside0.mk ((by rw [hg]; exact Nat.ne_of_lt (blk_lt (g := gb758) (o := .cells #[.slice A0_0 l0_0.length c0_0] 25 (0, 0)) BK758.out) : gb758 ≠ gb759)); have n6_ := Aside0.mk ((by rw [hg]; exact Nat.ne_of_gt (blk_lt (g := gb758) (o := .cells #[.slice A0_0 l0_0.length c0_0] 25 (0, 0)) BK758.out) : gb759 ≠ gb758)); clear BK758; clear HB; have BK758 := n0_; have HB := n1_; have BK759 := n2_; have GW759 := n3_; have GE759 := n4_; have NB758_759 := n5_; have NB759_758 := n6_; clear n0_ n1_ n2_ n3_ n4_ n5_ n6_; clear hb hbox hg) | ((with_reducible refine gate_callee (f := 57) rfl ?_); refine goesL_ (some 7) rfl rfl Try.func57 (by kernel_rfl) rfl #[.int .i64 a1] rfl (by (try simp only [List.map_toArray, List.map_cons, List.map_nil]); first | done | rfl | (simp only [List.length_drop, List.length_take]; rfl)) ?_; (with_reducible refine (quot_wrong.calls a1 false _ A3.out).mono ?_); rintro e w' ⟨rfl, ⟨nd, rfl⟩⟩; refine ⟨_, rfl, ?_⟩; (try (rw [drewN_self w17]; generalize hq_ : World.drewN w17 _ = w17; have n0_ : Aside0 (w17.heap[gb758]? = some (.cells #[.slice A0_0 l0_0.length c0_0] 25 (0, 0))) := ⟨by rw [← hq_]; exact BK758.out⟩; have n1_ : Aside0 (w17.heap[gb759]? = some (.cells #[.slice none 0 0] 25 (0, 0))) := ⟨by rw [← hq_]; exact BK759.out⟩; have n2_ : Aside0 (Below w.heap.size w w17) := ⟨by rw [← hq_]; exact (by repeat (first | (with_reducible first | exact HB.out | apply below_alloc | apply pw_below_drewN | apply below_drew1 | refine below_set ?_ GE758.out | refine below_set ?_ GE759.out) | exact HB.out))⟩; clear BK758 BK759 HB hq_; have BK758 := n0_; have BK759 := n1_; have HB := n2_; clear n0_ n1_ n2_; have hygb758_0 : w17.cell? ⟨gb758, 0, none⟩ = some (.slice A0_0 l0_0.length c0_0) := (blk_cell BK758.out 0).trans rfl; have hwgb758_0 := blk_frozen BK758.out 0; have hygb759_0 : w17.cell? ⟨gb759, 0, none⟩ = some (.slice none 0 0) := (blk_cell BK759.out 0).trans rfl; have hwgb759_0 := blk_frozen BK759.out 0))))
  replace BK758 := Aside0.mk (blk_drew BK758.out)
  replace BK759 := Aside0.mk (blk_drew BK759.out)
  replace HB := Aside0.mk (below_drew1 HB.out)
  refine start_ (n := 13) (S := fun w' => w'.cell? ⟨gb758, 0, none⟩ = some (.slice A0_0 l0_0.length c0_0)) (ds := []) (fl 0 13 []) (by kernel_rfl) rfl rfl ((blk_cell BK758.out 0).trans rfl) (fun hHeld => ?_); refine with_tabW quot_Shl.tab3 quot_Shl.bits3 (fun HT_ HW_ => ?_)
  generalize w17.drew = w18 at BK758 BK759 HB hHeld ⊢
  refine pure_ (i := 0) (N := some 9) (v := ?_) (a' := ?_) (fl 1 13 []) rfl rfl (any_of HT_.out (by kernel_rfl)) (fun _ _ _ h => h) (Or.inl ⟨by rfl, ?_⟩) ?_ ?_
  rotate_left
  ·intro w'
   go_simp
   with_reducible rfl
  rotate_left
  ·simp only [Act.put, List.setIfInBounds_toArray, List.set_cons_zero, List.set_cons_succ, i64_w, i32_w]
   rfl
  refine pure_ (i := 1) (N := some 10) (v := ?_) (a' := ?_) (fl 2 13 []) rfl rfl (any_of HT_.out (by kernel_rfl)) (fun _ _ _ h => h) (Or.inl ⟨by rfl, ?_⟩) ?_ ?_
  rotate_left
  ·intro w'
   go_simp
   with_reducible rfl
  rotate_left
  ·simp only [Act.put, List.setIfInBounds_toArray, List.set_cons_zero, List.set_cons_succ, i64_w, i32_w]
   rfl
  refine pure_ (i := 5) (N := some 14) (v := ?_) (a' := ?_) (fl 2 13 [5]) rfl rfl (any_of HT_.out (by kernel_rfl)) (fun _ _ _ h => h) (Or.inl ⟨by rfl, ?_⟩) ?_ ?_
  rotate_left
  ·intro w'
   go_simp
   with_reducible rfl
  rotate_left
  ·simp only [Act.put, List.setIfInBounds_toArray, List.set_cons_zero, List.set_cons_succ, i64_w, i32_w]
   rfl
  refine pure_ (i := 6) (N := some 15) (v := ?_) (a' := ?_) (fl 2 13 [5, 6]) rfl rfl (any_of HT_.out (by kernel_rfl)) (fun _ _ _ h => h) (Or.inl ⟨by rfl, ?_⟩) ?_ ?_
  rotate_left
  ·intro w'
   go_simp
   with_reducible rfl
  rotate_left
  ·simp only [Act.put, List.setIfInBounds_toArray, List.set_cons_zero, List.set_cons_succ, i64_w, i32_w]
   rfl
  refine pure_ (i := 7) (N := some 16) (v := ?_) (a' := ?_) (fl 2 13 [5, 6, 7]) rfl rfl (any_of HT_.out (by kernel_rfl)) (fun _ _ _ h => h) (Or.inl ⟨by rfl, ?_⟩) ?_ ?_
  rotate_left
  ·intro w'
   go_simp
   with_reducible rfl
  rotate_left
  ·simp only [Act.put, List.setIfInBounds_toArray, List.set_cons_zero, List.set_cons_succ, i64_w, i32_w]
   rfl
  refine take_ (i := 3) (N := some 12) (v := ?_) (a' := ?_) (fl 2 13 [3, 5, 6, 7]) rfl rfl (take_ofW HT_.out HW_.out (by kernel_rfl)) (fun _ _ _ h => h) (Or.inl ⟨by rfl, ?_⟩) hHeld ?_ ?_
  rotate_left
  ·intro w' s0
   go_simp
   with_reducible rfl
  rotate_left
  ·simp only [Act.put, List.setIfInBounds_toArray, List.set_cons_zero, List.set_cons_succ, i64_w, i32_w]
   rfl
  refine join_ (σ := Value × Value × Value) 4 (fl 9 13 []) (fun s_ => [(11, s_.1), (13, s_.2.1), (17, s_.2.2)]) (fun s_ w' => (w'.cell? ⟨gb758, 0, none⟩ = some (.slice A0_0 l0_0.length c0_0)) ∧ (Kd.R (Kd.int .u64) 27 w' w.heap.size (fun k_ => (w.heap.size ≤ k_) ∧ some k_ ≠ (s_.2.1 : Value).ownBlock ∧ some k_ ≠ (s_.2.2 : Value).ownBlock) s_.1 y761) ∧ (Kd.R (Kd.int .u64) 27 w' w.heap.size (fun k_ => (w.heap.size ≤ k_) ∧ some k_ ≠ (s_.1 : Value).ownBlock ∧ some k_ ≠ (s_.2.2 : Value).ownBlock) s_.2.1 t764) ∧ (Kd.R (Kd.int .u64) 27 w' w.heap.size (fun k_ => (w.heap.size ≤ k_) ∧ some k_ ≠ (s_.1 : Value).ownBlock ∧ some k_ ≠ (s_.2.1 : Value).ownBlock) s_.2.2 t767) ∧ (w'.heap[gb758]? = some (.cells #[.slice A0_0 l0_0.length c0_0] 25 (0, 0))) ∧ (w'.heap[gb759]? = some (.cells #[.slice none 0 0] 25 (0, 0))) ∧ (Below w.heap.size w w')) ?_ ?_
  rotate_left
  ·intro hCont
   refine two_ (i := 2) (j := 4) (Ni := some 11) (Nj := some 13) (fl 4 13 [5, 6, 7]) (fl 2 13 [3, 4, 5, 6, 7]) rfl rfl rfl rfl (two_of HT_.out (by kernel_rfl)) (by decide) (by decide) (fun K hK => ?_) (fun K hK => ?_)
   ·skip
    refine Kd.R_make_step (Kd.int .u64) _ 27 (by rfl) (N := 11) rfl 22 _ _ rfl ji9 rfl rfl Try.underlying22 (.int .u64 0) 8 info27 rfl (by decide) (by omega) 0 (ok := fun _ => True) (okp := fun _ => True) rfl (fun _ hk => hk) trivial (of_decide_eq_true (by first | (with_reducible assumption) | assumption)) (Nat.le_trans (Nat.mul_le_mul_right _ (of_decide_eq_true (by first | (with_reducible assumption) | assumption) : ji9.toNat ≤ 35184372088832)) (by omega)) (Below.refl _ _) (Nat.le_refl _) ?_
    intro v762 w19 ho20 hb hg_ hnew_
    clear hg_ hnew_
    (first | rw [← Ny761.out] at ho20 | (simp only [Int.reduceToNat] at ho20; rw [← Ny761.out] at ho20))
    have HO763 := Aside0.mk (Kd.R_lower (Kd.R_newM (M := fun k_ => (w.heap.size ≤ k_)) ho20 (bz HB.out) (fun k_ h_ => h_)) (bz HB.out))
    replace BK758 := Aside0.mk (bb BK758.out hb)
    replace BK759 := Aside0.mk (bb BK759.out hb)
    replace HB := Aside0.mk (bs HB.out hb)
    clear hb ho20
    refine hK.out _ _ ((blk_cell BK758.out 0).trans rfl) (fun hHeld => ?_)
    clear hK K
    refine norm_ (a' := ?_) ?_ ?_
    rotate_left
    ·show Act.put _ (some 11) _ = _
     simp only [Act.put, List.setIfInBounds_toArray, List.set_cons_zero, List.set_cons_succ, i64_w, i32_w]
     rfl
    refine one_ (i := 4) (N := some 13) (fl 8 13 []) rfl rfl (one_of HT_.out (by kernel_rfl)) (by decide) (fun K hK => ?_)
    refine goes_ Try.func16 (by kernel_rfl) rfl #[.agg #[.slice A0_0 l0_0.length c0_0]] (by rfl) rfl rfl (by (try simp only [List.map_toArray, List.map_cons, List.map_nil]); first | done | rfl | (simp only [List.length_drop, List.length_take]; rfl)) ?_
    with_reducible refine (nat_Nat_Limbs.calls _ _ l0_0 t764 _ ?side1 ?side2 A12.out).mono ?_
    (case side1 => repeat (first | exact (Kd.C_below HR0_0.out HB.out) | (with_reducible refine Kd.C_alloc ?_ _) | (with_reducible refine Kd.C_drewN ?_ _) | (with_reducible refine Kd.C_drew ?_)))
    (case side2 => exact HC0_0.out)
    rintro e w21 ⟨v765, rfl, ho0, hb⟩
    refine ⟨_, rfl, ?_⟩
    have n0_ := Aside0.mk (Kd.R_elder' HO763.out (Kd.R_base ho0) hb)
    have n1_ := Aside0.mk (Kd.R_lower (Kd.R_new' (Kd.R_newM (M := fun k_ => (w.heap.size ≤ k_)) ho0 (bz HB.out) (fun k_ h_ => h_)) (Kd.R_lt HO763.out)) (bz HB.out))
    have n2_ := Aside0.mk (bb BK758.out hb)
    have n3_ := Aside0.mk (bb BK759.out hb)
    have n4_ := Aside0.mk (bs HB.out hb)
    clear HO763
    clear BK758
    clear BK759
    clear HB
    have HO763 := n0_
    have HO766 := n1_
    have BK758 := n2_
    have BK759 := n3_
    have HB := n4_
    clear n0_ n1_ n2_ n3_ n4_
    (try clear hb)
    (try clear hb2)
    (try clear hk)
    (try clear hi)
    (try clear ho0)
    obtain ⟨Ao22, co22, eo22⟩ := Kd.R_slice HO766.out
    (first | subst eo22 | (injection eo22 with f1_ f2_ f3_; have f4_ := f1_.symm; have f5_ := f3_.symm; clear f1_ f2_ f3_; subst f4_; subst f5_))
    refine hK.out _ _ ((blk_cell BK758.out 0).trans rfl) (fun hHeld => ?_)
    clear hK K
    refine norm_ (a' := ?_) ?_ ?_
    rotate_left
    ·show Act.put _ (some 13) _ = _
     simp only [Act.put, List.setIfInBounds_toArray, List.set_cons_zero, List.set_cons_succ, i64_w, i32_w]
     rfl
    refine one_ (i := 8) (N := some 17) (fl 9 13 []) rfl rfl (one_of HT_.out (by kernel_rfl)) (by decide) (fun K hK => ?_)
    refine goes_ Try.func58 (by kernel_rfl) rfl #[.slice Ao22 t764.length co22, .int .u64 (IntKind.u64.wrap (Int.tmod a1 64))] (by rfl) rfl rfl (by (try simp only [List.map_toArray, List.map_cons, List.map_nil]); first | done | rfl | (simp only [List.length_drop, List.length_take]; rfl)) ?_
    with_reducible refine (quot_moved.calls k _ _ t764 (IntKind.u64.wrap (Int.tmod a1 64)) t767 _ ?side1 ?side2 A13.out).mono ?_
    (case side1 => exact cr HO766.out)
    (case side2 => exact (Kd.R_reads' HO766.out).2.1)
    rintro e w23 ⟨v768, rfl, ho0, hb⟩
    refine ⟨_, rfl, ?_⟩
    have n0_ := Aside0.mk (Kd.R_elder' HO763.out (Kd.R_base ho0) hb)
    have n1_ := Aside0.mk (Kd.R_elder' HO766.out (Kd.R_base ho0) hb)
    have n2_ := Aside0.mk (Kd.R_lower (Kd.R_new' (Kd.R_new' (Kd.R_newM (M := fun k_ => (w.heap.size ≤ k_)) ho0 (bz HB.out) (fun k_ h_ => h_)) (Kd.R_lt HO763.out)) (Kd.R_lt HO766.out)) (bz HB.out))
    have n3_ := Aside0.mk (bb BK758.out hb)
    have n4_ := Aside0.mk (bb BK759.out hb)
    have n5_ := Aside0.mk (bs HB.out hb)
    clear HO763
    clear HO766
    clear BK758
    clear BK759
    clear HB
    have HO763 := n0_
    have HO766 := n1_
    have HO769 := n2_
    have BK758 := n3_
    have BK759 := n4_
    have HB := n5_
    clear n0_ n1_ n2_ n3_ n4_ n5_
    (try clear hb)
    (try clear hb2)
    (try clear hk)
    (try clear hi)
    (try clear ho0)
    refine hK.out _ _ ((blk_cell BK758.out 0).trans rfl) (fun hHeld => ?_)
    clear hK K
    refine norm_ (a' := ?_) ?_ ?_
    rotate_left
    ·show Act.put _ (some 17) _ = _
     simp only [Act.put, List.setIfInBounds_toArray, List.set_cons_zero, List.set_cons_succ, i64_w, i32_w]
     rfl
    exact norm_ (by simp only [putAll, Act.put, List.setIfInBounds_toArray, List.set_cons_zero, List.set_cons_succ]) (hCont (v762, .slice Ao22 t764.length co22, v768) _ ⟨hHeld, (Kd.R_mono HO763.out (fun _ hk => ⟨hk.1.1.1, ⟨hk.1.2, hk.2⟩⟩)), (Kd.R_mono HO766.out (fun _ hk => ⟨hk.1.1.1, ⟨hk.1.2, hk.2⟩⟩)), (Kd.R_mono HO769.out (fun _ hk => ⟨hk.1.1.1, ⟨hk.1.2, hk.2⟩⟩)), BK758.out, BK759.out, (by repeat (first | (with_reducible first | exact HB.out | apply below_alloc | apply pw_below_drewN | apply below_drew1 | refine below_set ?_ GE758.out | refine below_set ?_ GE759.out) | exact HB.out))⟩)
   ·skip
    refine goes_ Try.func16 (by kernel_rfl) rfl #[.agg #[.slice A0_0 l0_0.length c0_0]] (by rfl) rfl rfl (by (try simp only [List.map_toArray, List.map_cons, List.map_nil]); first | done | rfl | (simp only [List.length_drop, List.length_take]; rfl)) ?_
    with_reducible refine (nat_Nat_Limbs.calls _ _ l0_0 t764 _ ?side1 ?side2 A12.out).mono ?_
    (case side1 => repeat (first | exact (Kd.C_below HR0_0.out HB.out) | (with_reducible refine Kd.C_alloc ?_ _) | (with_reducible refine Kd.C_drewN ?_ _) | (with_reducible refine Kd.C_drew ?_)))
    (case side2 => exact HC0_0.out)
    rintro e w19 ⟨v765, rfl, ho0, hb⟩
    refine ⟨_, rfl, ?_⟩
    have HO766 := Aside0.mk (Kd.R_lower (Kd.R_newM (M := fun k_ => (w.heap.size ≤ k_)) ho0 (bz HB.out) (fun k_ h_ => h_)) (bz HB.out))
    replace BK758 := Aside0.mk (bb BK758.out hb)
    replace BK759 := Aside0.mk (bb BK759.out hb)
    replace HB := Aside0.mk (bs HB.out hb)
    (try clear hb)
    (try clear hb2)
    (try clear hk)
    (try clear hi)
    (try clear ho0)
    refine hK.out _ _ ((blk_cell BK758.out 0).trans rfl) (fun hHeld => ?_)
    clear hK K
    refine norm_ (a' := ?_) ?_ ?_
    rotate_left
    ·show Act.put _ (some 13) _ = _
     simp only [Act.put, List.setIfInBounds_toArray, List.set_cons_zero, List.set_cons_succ, i64_w, i32_w]
     rfl
    refine two_ (i := 2) (j := 8) (Ni := some 11) (Nj := some 17) (fl 8 13 []) (fl 2 13 [3, 4, 5, 6, 7, 8]) rfl rfl rfl rfl (two_of HT_.out (by kernel_rfl)) (by decide) (by decide) (fun K hK => ?_) (fun K hK => ?_)
    ·skip
     refine Kd.R_make_step (Kd.int .u64) _ 27 (by rfl) (N := 11) rfl 22 _ _ rfl ji9 rfl rfl Try.underlying22 (.int .u64 0) 8 info27 rfl (by decide) (by omega) 0 (ok := fun _ => True) (okp := fun _ => True) rfl (fun _ hk => hk) trivial (of_decide_eq_true (by first | (with_reducible assumption) | assumption)) (Nat.le_trans (Nat.mul_le_mul_right _ (of_decide_eq_true (by first | (with_reducible assumption) | assumption) : ji9.toNat ≤ 35184372088832)) (by omega)) (Below.refl _ _) (Nat.le_refl _) ?_
     intro v762 w20 ho21 hb hg_ hnew_
     clear hg_ hnew_
     (first | rw [← Ny761.out] at ho21 | (simp only [Int.reduceToNat] at ho21; rw [← Ny761.out] at ho21))
     have n0_ := Aside0.mk (Kd.R_elder' HO766.out (Kd.R_base ho21) hb)
     have n1_ := Aside0.mk (Kd.R_lower (Kd.R_new' (Kd.R_newM (M := fun k_ => (w.heap.size ≤ k_)) ho21 (bz HB.out) (fun k_ h_ => h_)) (Kd.R_lt HO766.out)) (bz HB.out))
     have n2_ := Aside0.mk (bb BK758.out hb)
     have n3_ := Aside0.mk (bb BK759.out hb)
     have n4_ := Aside0.mk (bs HB.out hb)
     clear HO766
     clear BK758
     clear BK759
     clear HB
     have HO766 := n0_
     have HO763 := n1_
     have BK758 := n2_
     have BK759 := n3_
     have HB := n4_
     clear n0_ n1_ n2_ n3_ n4_
     clear hb ho21
     obtain ⟨Ao22, co22, eo22⟩ := Kd.R_slice HO766.out
     (first | subst eo22 | (injection eo22 with f1_ f2_ f3_; have f4_ := f1_.symm; have f5_ := f3_.symm; clear f1_ f2_ f3_; subst f4_; subst f5_))
     refine hK.out _ _ ((blk_cell BK758.out 0).trans rfl) (fun hHeld => ?_)
     clear hK K
     refine norm_ (a' := ?_) ?_ ?_
     rotate_left
     ·show Act.put _ (some 11) _ = _
      simp only [Act.put, List.setIfInBounds_toArray, List.set_cons_zero, List.set_cons_succ, i64_w, i32_w]
      rfl
     refine one_ (i := 8) (N := some 17) (fl 9 13 []) rfl rfl (one_of HT_.out (by kernel_rfl)) (by decide) (fun K hK => ?_)
     refine goes_ Try.func58 (by kernel_rfl) rfl #[.slice Ao22 t764.length co22, .int .u64 (IntKind.u64.wrap (Int.tmod a1 64))] (by rfl) rfl rfl (by (try simp only [List.map_toArray, List.map_cons, List.map_nil]); first | done | rfl | (simp only [List.length_drop, List.length_take]; rfl)) ?_
     with_reducible refine (quot_moved.calls k _ _ t764 (IntKind.u64.wrap (Int.tmod a1 64)) t767 _ ?side1 ?side2 A13.out).mono ?_
     (case side1 => exact cr HO766.out)
     (case side2 => exact (Kd.R_reads' HO766.out).2.1)
     rintro e w23 ⟨v768, rfl, ho0, hb⟩
     refine ⟨_, rfl, ?_⟩
     have n0_ := Aside0.mk (Kd.R_elder' HO766.out (Kd.R_base ho0) hb)
     have n1_ := Aside0.mk (Kd.R_elder' HO763.out (Kd.R_base ho0) hb)
     have n2_ := Aside0.mk (Kd.R_lower (Kd.R_new' (Kd.R_new' (Kd.R_newM (M := fun k_ => (w.heap.size ≤ k_)) ho0 (bz HB.out) (fun k_ h_ => h_)) (Kd.R_lt HO766.out)) (Kd.R_lt HO763.out)) (bz HB.out))
     have n3_ := Aside0.mk (bb BK758.out hb)
     have n4_ := Aside0.mk (bb BK759.out hb)
     have n5_ := Aside0.mk (bs HB.out hb)
     clear HO766
     clear HO763
     clear BK758
     clear BK759
     clear HB
     have HO766 := n0_
     have HO763 := n1_
     have HO769 := n2_
     have BK758 := n3_
     have BK759 := n4_
     have HB := n5_
     clear n0_ n1_ n2_ n3_ n4_ n5_
     (try clear hb)
     (try clear hb2)
     (try clear hk)
     (try clear hi)
     (try clear ho0)
     refine hK.out _ _ ((blk_cell BK758.out 0).trans rfl) (fun hHeld => ?_)
     clear hK K
     refine norm_ (a' := ?_) ?_ ?_
     rotate_left
     ·show Act.put _ (some 17) _ = _
      simp only [Act.put, List.setIfInBounds_toArray, List.set_cons_zero, List.set_cons_succ, i64_w, i32_w]
      rfl
     exact norm_ (by simp only [putAll, Act.put, List.setIfInBounds_toArray, List.set_cons_zero, List.set_cons_succ]) (hCont (v762, .slice Ao22 t764.length co22, v768) _ ⟨hHeld, (Kd.R_mono HO763.out (fun _ hk => ⟨hk.1.1.1, ⟨hk.1.2, hk.2⟩⟩)), (Kd.R_mono HO766.out (fun _ hk => ⟨hk.1.1.1, ⟨hk.1.2, hk.2⟩⟩)), (Kd.R_mono HO769.out (fun _ hk => ⟨hk.1.1.1, ⟨hk.2, hk.1.2⟩⟩)), BK758.out, BK759.out, (by repeat (first | (with_reducible first | exact HB.out | apply below_alloc | apply pw_below_drewN | apply below_drew1 | refine below_set ?_ GE758.out | refine below_set ?_ GE759.out) | exact HB.out))⟩)
    ·skip
     obtain ⟨Ao20, co20, eAo20⟩ := Kd.R_slice HO766.out
     subst eAo20
     refine goes_ Try.func58 (by kernel_rfl) rfl #[.slice Ao20 t764.length co20, .int .u64 (IntKind.u64.wrap (Int.tmod a1 64))] (by rfl) rfl rfl (by (try simp only [List.map_toArray, List.map_cons, List.map_nil]); first | done | rfl | (simp only [List.length_drop, List.length_take]; rfl)) ?_
     with_reducible refine (quot_moved.calls k _ _ t764 (IntKind.u64.wrap (Int.tmod a1 64)) t767 _ ?side1 ?side2 A13.out).mono ?_
     (case side1 => exact cr HO766.out)
     (case side2 => exact (Kd.R_reads' HO766.out).2.1)
     rintro e w21 ⟨v768, rfl, ho0, hb⟩
     refine ⟨_, rfl, ?_⟩
     have n0_ := Aside0.mk (Kd.R_elder' HO766.out (Kd.R_base ho0) hb)
     have n1_ := Aside0.mk (Kd.R_lower (Kd.R_new' (Kd.R_newM (M := fun k_ => (w.heap.size ≤ k_)) ho0 (bz HB.out) (fun k_ h_ => h_)) (Kd.R_lt HO766.out)) (bz HB.out))
     have n2_ := Aside0.mk (bb BK758.out hb)
     have n3_ := Aside0.mk (bb BK759.out hb)
     have n4_ := Aside0.mk (bs HB.out hb)
     clear HO766
     clear BK758
     clear BK759
     clear HB
     have HO766 := n0_
     have HO769 := n1_
     have BK758 := n2_
     have BK759 := n3_
     have HB := n4_
     clear n0_ n1_ n2_ n3_ n4_
     (try clear hb)
     (try clear hb2)
     (try clear hk)
     (try clear hi)
     (try clear ho0)
     refine hK.out _ _ ((blk_cell BK758.out 0).trans rfl) (fun hHeld => ?_)
     clear hK K
     refine norm_ (a' := ?_) ?_ ?_
     rotate_left
     ·show Act.put _ (some 17) _ = _
      simp only [Act.put, List.setIfInBounds_toArray, List.set_cons_zero, List.set_cons_succ, i64_w, i32_w]
      rfl
     refine one_ (i := 2) (N := some 11) (fl 9 13 []) rfl rfl (one_of HT_.out (by kernel_rfl)) (by decide) (fun K hK => ?_)
     refine Kd.R_make_step (Kd.int .u64) _ 27 (by rfl) (N := 11) rfl 22 _ _ rfl ji9 rfl rfl Try.underlying22 (.int .u64 0) 8 info27 rfl (by decide) (by omega) 0 (ok := fun _ => True) (okp := fun _ => True) rfl (fun _ hk => hk) trivial (of_decide_eq_true (by first | (with_reducible assumption) | assumption)) (Nat.le_trans (Nat.mul_le_mul_right _ (of_decide_eq_true (by first | (with_reducible assumption) | assumption) : ji9.toNat ≤ 35184372088832)) (by omega)) (Below.refl _ _) (Nat.le_refl _) ?_
     intro v762 w22 ho23 hb hg_ hnew_
     clear hg_ hnew_
     (first | rw [← Ny761.out] at ho23 | (simp only [Int.reduceToNat] at ho23; rw [← Ny761.out] at ho23))
     have n0_ := Aside0.mk (Kd.R_elder' HO766.out (Kd.R_base ho23) hb)
     have n1_ := Aside0.mk (Kd.R_elder' HO769.out (Kd.R_base ho23) hb)
     have n2_ := Aside0.mk (Kd.R_lower (Kd.R_new' (Kd.R_new' (Kd.R_newM (M := fun k_ => (w.heap.size ≤ k_)) ho23 (bz HB.out) (fun k_ h_ => h_)) (Kd.R_lt HO766.out)) (Kd.R_lt HO769.out)) (bz HB.out))
     have n3_ := Aside0.mk (bb BK758.out hb)
     have n4_ := Aside0.mk (bb BK759.out hb)
     have n5_ := Aside0.mk (bs HB.out hb)
     clear HO766
     clear HO769
     clear BK758
     clear BK759
     clear HB
     have HO766 := n0_
     have HO769 := n1_
     have HO763 := n2_
     have BK758 := n3_
     have BK759 := n4_
     have HB := n5_
     clear n0_ n1_ n2_ n3_ n4_ n5_
     clear hb ho23
     refine hK.out _ _ ((blk_cell BK758.out 0).trans rfl) (fun hHeld => ?_)
     clear hK K
     refine norm_ (a' := ?_) ?_ ?_
     rotate_left
     ·show Act.put _ (some 11) _ = _
      simp only [Act.put, List.setIfInBounds_toArray, List.set_cons_zero, List.set_cons_succ, i64_w, i32_w]
      rfl
     exact norm_ (by simp only [putAll, Act.put, List.setIfInBounds_toArray, List.set_cons_zero, List.set_cons_succ]) (hCont (v762, .slice Ao20 t764.length co20, v768) _ ⟨hHeld, (Kd.R_mono HO763.out (fun _ hk => ⟨hk.1.1.1, ⟨hk.1.2, hk.2⟩⟩)), (Kd.R_mono HO766.out (fun _ hk => ⟨hk.1.1.1, ⟨hk.2, hk.1.2⟩⟩)), (Kd.R_mono HO769.out (fun _ hk => ⟨hk.1.1.1, ⟨hk.2, hk.1.2⟩⟩)), BK758.out, BK759.out, (by repeat (first | (with_reducible first | exact HB.out | apply below_alloc | apply pw_below_drewN | apply below_drew1 | refine below_set ?_ GE758.out | refine below_set ?_ GE759.out) | exact HB.out))⟩)
  rintro ⟨v762, v765, v768⟩ w24 ⟨hS_, h0_, h1_, h2_, h3_, h4_, h5_⟩
  have n0_ := Aside0.mk h0_
  have n1_ := Aside0.mk h1_
  have n2_ := Aside0.mk h2_
  have n3_ := Aside0.mk h3_
  have n4_ := Aside0.mk h4_
  have n5_ := Aside0.mk h5_
  clear BK758
  clear BK759
  clear HB
  clear h0_ h1_ h2_ h3_ h4_ h5_
  have HO763 := n0_
  have HO766 := n1_
  have HO769 := n2_
  have BK758 := n3_
  have BK759 := n4_
  have HB := n5_
  clear n0_ n1_ n2_ n3_ n4_ n5_
  have hHeld : w24.cell? ⟨gb758, 0, none⟩ = some (.slice A0_0 l0_0.length c0_0) := hS_
  obtain ⟨Ao26, co26, eo26⟩ := Kd.R_slice HO769.out
  (first | subst eo26 | (injection eo26 with f1_ f2_ f3_; have f4_ := f1_.symm; have f5_ := f3_.symm; clear f1_ f2_ f3_; subst f4_; subst f5_))
  refine norm_ (a' := ?_) ?_ ?_
  rotate_left
  ·simp only [putAll, Act.put, List.setIfInBounds_toArray, List.set_cons_zero, List.set_cons_succ]
   rfl
  refine one_ (i := 9) (N := some 18) (fl 10 13 []) rfl rfl (one_of HT_.out (by kernel_rfl)) (by decide) (fun K hK => ?_)
  refine Kd.R_append_rows_step (Kd.int .u64) (w0 := w) w.heap.size (by rfl) (.tmp 11) (.tmp 17) 22 27 (.int .u64 0) 8 rfl Try.underlying22 info27 rfl (by decide) (by omega) v762 y761 t767 _ _ _ (fun k_ => (w.heap.size ≤ k_) ∧ some k_ ≠ (v765 : Value).ownBlock ∧ some k_ ≠ (.slice Ao26 t767.length co26 : Value).ownBlock) (fun _ => False) rfl rfl ?aO ?aR (fun _ _ h => h) (fun _ h => h.elim) ?aF ?aB ?aS ?aL ?_
  (case aR => repeat (first | exact (Kd.R_reads' HO769.out).2.2 | (with_reducible refine Kd.C_alloc ?_ _) | (with_reducible refine Kd.C_drewN ?_ _) | (with_reducible refine Kd.C_drew ?_)))
  (case aB => exact (by repeat (first | (with_reducible first | exact HB.out | apply below_alloc | apply pw_below_drewN | apply below_drew1 | refine below_set ?_ GE758.out | refine below_set ?_ GE759.out) | exact HB.out)))
  (case aF => exact (fun k_ hk => ⟨(Nat.le_trans (below_size (by repeat (first | (with_reducible first | exact HB.out | apply below_alloc | apply pw_below_drewN | apply below_drew1 | refine below_set ?_ GE758.out | refine below_set ?_ GE759.out) | exact HB.out))) hk), Kd.fresh' (Kd.R_lt HO766.out) k_ hk, Kd.fresh' (Kd.R_lt HO769.out) k_ hk⟩))
  (case aO => exact HO763.out)
  (case aS => exact (below_size (by repeat (first | (with_reducible first | exact HB.out | apply below_alloc | apply pw_below_drewN | apply below_drew1 | refine below_set ?_ GE758.out | refine below_set ?_ GE759.out) | exact HB.out))))
  (case aL => have := LMc14.out; omega)
  intro v771 w25 ho hb hg hat
  rw [← Ny770.out] at ho
  have n0_ := Aside0.mk (blk_grown (g := gb758) (o := .cells #[.slice A0_0 l0_0.length c0_0] 25 (0, 0)) BK758.out hg (Kd.R_ne HO763.out BK758.out (by decide)))
  have n1_ := Aside0.mk (blk_grown (g := gb759) (o := .cells #[.slice none 0 0] 25 (0, 0)) BK759.out hg (Kd.R_ne HO763.out BK759.out (by decide)))
  have n2_ := Aside0.mk (Kd.R_after (ok := (fun k_ => (w.heap.size ≤ k_) ∧ some k_ ≠ (.slice Ao26 t767.length co26 : Value).ownBlock)) (Kd.R_mono HO766.out (fun _ hk => ⟨⟨hk.1, hk.2.2⟩, hk.2.1⟩)) hg hat)
  have n3_ := Aside0.mk (Kd.R_after (ok := (fun k_ => (w.heap.size ≤ k_) ∧ some k_ ≠ (v765 : Value).ownBlock)) (Kd.R_mono HO769.out (fun _ hk => ⟨⟨hk.1, hk.2.2⟩, hk.2.1⟩)) hg hat)
  have n4_ := Aside0.mk (hb)
  have n5_ := Aside0.mk (ho)
  clear BK758
  clear BK759
  clear HO766
  clear HO769
  clear HB
  clear HO763
  have BK758 := n0_
  have BK759 := n1_
  have HO766 := n2_
  have HO769 := n3_
  have HB := n4_
  have HO772 := n5_
  clear n0_ n1_ n2_ n3_ n4_ n5_
  clear ho hb hg hat
  obtain ⟨Ao27, co27, eo27⟩ := Kd.R_slice HO772.out
  (first | subst eo27 | (injection eo27 with f1_ f2_ f3_; have f4_ := f1_.symm; have f5_ := f3_.symm; clear f1_ f2_ f3_; subst f4_; subst f5_))
  refine hK.out _ _ ((blk_cell BK758.out 0).trans rfl) (fun hHeld => ?_)
  clear hK K
  refine norm_ (a' := ?_) ?_ ?_
  rotate_left
  ·show Act.put _ (some 18) _ = _
   simp only [Act.put, List.setIfInBounds_toArray, List.set_cons_zero, List.set_cons_succ, i64_w, i32_w]
   rfl
  refine one_ (i := 10) (N := some 19) (fl 11 13 []) rfl rfl (one_of HT_.out (by kernel_rfl)) (by decide) (fun K hK => ?_)
  refine goes_ Try.func14 (by kernel_rfl) rfl #[.slice Ao27 y770.length co27] (by rfl) rfl rfl (by (try simp only [List.map_toArray, List.map_cons, List.map_nil]); first | done | rfl | (simp only [List.length_drop, List.length_take]; rfl)) ?_
  with_reducible refine (nat_Of.calls k _ _ y770 t773 _ ?side1 ?side2 A15.out).mono ?_
  (case side1 => exact cr HO772.out)
  (case side2 => exact (Kd.R_reads' HO772.out).2.1)
  rintro e w28 ⟨v774, rfl, ho0, hb⟩
  refine ⟨_, rfl, ?_⟩
  have n0_ := Aside0.mk (rb HO766.out hb)
  have n1_ := Aside0.mk (rb HO769.out hb)
  have n2_ := Aside0.mk (rb HO772.out hb)
  have n3_ := Aside0.mk (Kd.V_lower (Kd.V_mono (ok' := fun k_ => (w.heap.size ≤ k_) ∧ some k_ ≠ (v765 : Value).ownBlock ∧ some k_ ≠ (.slice Ao26 t767.length co26 : Value).ownBlock ∧ some k_ ≠ (.slice Ao27 y770.length co27 : Value).ownBlock ∧ k_ ≠ gb758 ∧ k_ ≠ gb759) ho0 (fun k_ hk_ => ⟨(Nat.le_trans (bz HB.out) hk_), (Kd.fresh' (Kd.R_lt HO766.out) k_ hk_), (Kd.fresh' (Kd.R_lt HO769.out) k_ hk_), (Kd.fresh' (Kd.R_lt HO772.out) k_ hk_), (fb BK758.out k_ hk_), (fb BK759.out k_ hk_)⟩)) (bz HB.out))
  have n4_ := Aside0.mk (bb BK758.out hb)
  have n5_ := Aside0.mk (bb BK759.out hb)
  have n6_ := Aside0.mk (bs HB.out hb)
  clear HO766
  clear HO769
  clear HO772
  clear BK758
  clear BK759
  clear HB
  have HO766 := n0_
  have HO769 := n1_
  have HO772 := n2_
  have HO775 := n3_
  have BK758 := n4_
  have BK759 := n5_
  have HB := n6_
  clear n0_ n1_ n2_ n3_ n4_ n5_ n6_
  (try clear hb)
  (try clear hb2)
  (try clear hk)
  (try clear hi)
  (try clear ho0)
  obtain ⟨Ao29, co29, eo29⟩ := Kd.V_slice HO775.out
  (first | subst eo29 | (injection eo29 with f1_ f2_ f3_; have f4_ := f1_.symm; have f5_ := f3_.symm; clear f1_ f2_ f3_; subst f4_; subst f5_))
  refine hK.out _ _ ((blk_cell BK758.out 0).trans rfl) (fun hHeld => ?_)
  clear hK K
  refine norm_ (a' := ?_) ?_ ?_
  rotate_left
  ·show Act.put _ (some 19) _ = _
   simp only [Act.put, List.setIfInBounds_toArray, List.set_cons_zero, List.set_cons_succ, i64_w, i32_w]
   rfl
  refine one_ (i := 11) (N := none) (fl 12 13 []) rfl rfl (one_of HT_.out (by kernel_rfl)) (by decide) (fun K hK => ?_)
  have hs30 : w28.cell? ⟨gb759, 0, none⟩ = some (.slice none 0 0) := (blk_cell BK759.out 0).trans rfl
  have hfs30 := blk_frozen BK759.out 0
  have hns30_0 := NB758_759.out
  have hms30_0 := NB759_758.out
  refine skip_ (w1 := ?_) (by rfl) rfl ?_ ?_
  rotate_left
  ·go_simp
   rfl
  refine hK.out _ _ (((cell_far (p := ⟨gb759, _, none⟩) NB758_759.out _).trans (hHeld))) (fun hHeld => ?_)
  clear hK K
  refine pure_ (i := 12) (N := some 5) (v := ?_) (a' := ?_) (fl 13 13 []) rfl rfl (any_of HT_.out (by kernel_rfl)) (fun _ _ _ h => h) (Or.inl ⟨by rfl, ?_⟩) ?_ ?_
  rotate_left
  ·intro w'
   go_simp
   with_reducible rfl
  rotate_left
  ·simp only [Act.put, List.setIfInBounds_toArray, List.set_cons_zero, List.set_cons_succ, i64_w, i32_w]
   rfl
  refine done_ (done_of HT_.out (by kernel_rfl)) ?_
  try go_wp2
  refine bodyPost_ret (results_ct rfl _ _ gb759 25 #[.slice Ao29 t773.length co29] (0, 0) _ rfl (by (with_reducible repeat (first | refine blk_drewN ?_ _ | refine blk_drew ?_ | refine blk_alloc ?_ _)); refine blk_put (cs := #[.slice none 0 0]) ?_ 0 _ rfl; (with_reducible repeat (first | refine blk_drewN ?_ _ | refine blk_drew ?_ | refine blk_alloc ?_ _)); exact BK759.out) Try.underlying25 rfl (by kernel_rfl)) rfl ?_
  exact ⟨_, by first | rfl | (simp [errW_none, errW_some] <;> rfl) | (simp only [← hji9]; first | rfl | (simp [errW_none, errW_some] <;> rfl)) | (simp [*, errW_none, errW_some] <;> rfl), by (with_reducible repeat (first | apply Kd.V_alloc | apply Kd.V_drewN | apply Kd.V_drew)); exact Kd.V_mono (Kd.V_far (p := ⟨gb759, 0, none⟩) (Kd.V_mono HO775.out (fun k_ hk => (⟨hk, hk.2.2.2.2.2⟩ : _ ∧ k_ ≠ gb759))) (fun _ hk => hk.2) (.slice Ao29 t773.length co29)) (fun _ hk => hk.1.1), by repeat (first | (with_reducible first | exact HB.out | apply below_alloc | apply pw_below_drewN | apply below_drew1 | refine below_set ?_ GE758.out | refine below_set ?_ GE759.out) | exact HB.out)⟩
def quot_Gcd.l0 : Nat → List Int → List Int → Option (List Int)
 | 0, _, _ => none
 | k + 1, x777000, x778000 => (nat_Nat_Zero.f x778000).bind fun t779 => (if t779 = true then (some x777000) else ((quot_Div.f k x777000 x778000).bind fun bt780 => (quot_Gcd.l0 k x778000 bt780.2.1)))
def quot_Gcd.f (k : Nat) (l0_0 : List Int) (l1_0 : List Int) : Option (List Int) := quot_Gcd.l0 k l0_0 l1_0
theorem quot_Gcd.mono_l : ∀ k, (∀ y0 y1, LeO (quot_Gcd.l0 k y0 y1) (quot_Gcd.l0 (k + 1) y0 y1))
 | 0 => fun _ _ r h => by simp [quot_Gcd.l0] at h
 | k + 1 => by
  have ih0 := quot_Gcd.mono_l k
  ·intro y0 y1
   unfold quot_Gcd.l0
   repeat' first
   | (with_reducible exact ih0 _ _)
   | (with_reducible exact quot_Div.mono _ _ _)
   | (with_reducible exact LeO.refl _)
   | (with_reducible exact LeO.none _)
   | (with_reducible refine LeO.ite ?_ ?_)
   | (with_reducible refine LeO.bind ?_ (fun _ => ?_))
   | exact ih0 _ _
   | exact quot_Div.mono _ _ _
   | exact LeO.none _
   | refine LeO.ite ?_ ?_
   | refine LeO.bind ?_ (fun _ => ?_)
theorem quot_Gcd.mono : ∀ a0 a1 k, LeO (quot_Gcd.f k a0 a1) (quot_Gcd.f (k + 1) a0 a1) := by
 intro a0 a1 k
 have ih0 := quot_Gcd.mono_l k
 unfold quot_Gcd.f
 repeat' first
   | (with_reducible exact ih0 _ _)
   | (with_reducible exact quot_Div.mono _ _ _)
   | (with_reducible exact LeO.refl _)
   | (with_reducible exact LeO.none _)
   | (with_reducible refine LeO.ite ?_ ?_)
   | (with_reducible refine LeO.bind ?_ (fun _ => ?_))
   | exact ih0 _ _
   | exact quot_Div.mono _ _ _
   | exact LeO.none _
   | refine LeO.ite ?_ ?_
   | refine LeO.bind ?_ (fun _ => ?_)
set_option maxHeartbeats 8000000 in
set_option maxRecDepth 100000 in
theorem quot_Gcd.calls (k : Nat) (P0_0_ : Nat → Prop) (A0_0 : Option Addr) (c0_0 : Nat) (l0_0 : List Int) (P1_0_ : Nat → Prop) (A1_0 : Option Addr) (c1_0 : Nat) (l1_0 : List Int) (r : List Int) (w : World) (hs0_0 : Kd.V (Kd.int .u64) 27 w w.heap.size (fun k_ => P0_0_ k_) (.slice A0_0 l0_0.length c0_0) l0_0) (hs1_0 : Kd.V (Kd.int .u64) 27 w w.heap.size (fun k_ => P1_0_ k_) (.slice A1_0 l1_0.length c1_0) l1_0) (h : quot_Gcd.f k l0_0 l1_0 = some r) :
  Calls Try.prog 40 #[.agg #[.slice A0_0 l0_0.length c0_0], .agg #[.slice A1_0 l1_0.length c1_0]] w fun e w' => ∃ v0_ : Value, e = .returned (.agg #[v0_]) ∧ Kd.V (Kd.int .u64) 27 w' w.heap.size (fun k_ => ((P0_0_ k_ ∨ P1_0_ k_) ∨ w.heap.size ≤ k_)) v0_ r ∧ Below w.heap.size w w' := by
 have hu25 := Try.underlying25
 have HO0_0 := Aside0.mk (show Kd.V (Kd.int .u64) 27 w w.heap.size (fun k_ => ((P0_0_ k_ ∨ P1_0_ k_) ∨ w.heap.size ≤ k_)) (.slice A0_0 l0_0.length c0_0) l0_0 from Kd.V_mono hs0_0 (fun k_ hk => .inl (.inl hk)))
 have HO1_0 := Aside0.mk (show Kd.V (Kd.int .u64) 27 w w.heap.size (fun k_ => ((P0_0_ k_ ∨ P1_0_ k_) ∨ w.heap.size ≤ k_)) (.slice A1_0 l1_0.length c1_0) l1_0 from Kd.V_mono hs1_0 (fun k_ hk => .inl (.inr hk)))
 have HB := Aside0.mk (Below.refl w.heap.size w)
 have H : (quot_Gcd.l0 k l0_0 l1_0) = some r := h
 clear h
 have H' := Aside0.mk H
 clear H
 go_enter Try.func40, Try.ntmps40
 go_wp2_with (first | ((with_reducible refine gate_dst (N := 2) rfl ?_); refine box_event ?hg (N := 2) ?hd (cs := #[.slice A0_0 l0_0.length c0_0]) (t := 25) ?hr ?_; (case hd => rfl); (case hg => rfl); (case hr => first | (go_simp; done) | (go_simp; rfl)); intro gb776 hg w3 hbox hb; have n0_ := Aside0.mk (Kd.V_below (Kd.V_elderB HO0_0.out gb776 (Nat.le_of_eq hg.symm)) hb); have n1_ := Aside0.mk (Kd.V_below (Kd.V_elderB HO1_0.out gb776 (Nat.le_of_eq hg.symm)) hb); have n2_ := Aside0.mk (below_step (by repeat (first | (with_reducible first | exact HB.out | apply below_alloc | apply pw_below_drewN | apply below_drew1) | exact HB.out)) hb); have n3_ := Aside0.mk (hbox); have n4_ := Aside0.mk ((by rw [hg]; exact (below_size (by repeat (first | (with_reducible first | exact HB.out | apply below_alloc | apply pw_below_drewN | apply below_drew1) | exact HB.out))) : w.heap.size ≤ gb776)); have n5_ := Aside0.mk ((by rw [hg]; exact (below_size (by repeat (first | (with_reducible first | exact HB.out | apply below_alloc | apply pw_below_drewN | apply below_drew1) | exact HB.out))) : w.heap.size ≤ gb776)); clear HO0_0; clear HO1_0; clear HB; have HO0_0 := n0_; have HO1_0 := n1_; have HB := n2_; have BK776 := n3_; have GW776 := n4_; have GE776 := n5_; clear n0_ n1_ n2_ n3_ n4_ n5_; clear hb hbox hg) | ((with_reducible refine gate_dst (N := 3) rfl ?_); refine box_event ?hg (N := 3) ?hd (cs := #[.slice A1_0 l1_0.length c1_0]) (t := 25) ?hr ?_; (case hd => rfl); (case hg => rfl); (case hr => first | (go_simp; done) | (go_simp; rfl)); intro gb777 hg w4 hbox hb; have n0_ := Aside0.mk (Kd.V_below (Kd.V_elderB HO0_0.out gb777 (Nat.le_of_eq hg.symm)) hb); have n1_ := Aside0.mk (Kd.V_below (Kd.V_elderB HO1_0.out gb777 (Nat.le_of_eq hg.symm)) hb); have n2_ := Aside0.mk (bb BK776.out hb); have n3_ := Aside0.mk (bs HB.out hb); have n4_ := Aside0.mk (hbox); have n5_ := Aside0.mk ((by rw [hg]; exact (bz HB.out) : w.heap.size ≤ gb777)); have n6_ := Aside0.mk ((by rw [hg]; exact (bz HB.out) : w.heap.size ≤ gb777)); have n7_ := Aside0.mk ((by rw [hg]; exact Nat.ne_of_lt (blk_lt (g := gb776) (o := .cells #[.slice A0_0 l0_0.length c0_0] 25 (0, 0)) BK776.out) : gb776 ≠ gb777)); have n8_ := Aside0.mk ((by rw [hg]; exact Nat.ne_of_gt (blk_lt (g := gb776) (o := .cells #[.slice A0_0 l0_0.length c0_0] 25 (0, 0)) BK776.out) : gb777 ≠ gb776)); clear HO0_0; clear HO1_0; clear BK776; clear HB; have HO0_0 := n0_; have HO1_0 := n1_; have BK776 := n2_; have HB := n3_; have BK777 := n4_; have GW777 := n5_; have GE777 := n6_; have NB776_777 := n7_; have NB777_776 := n8_; clear n0_ n1_ n2_ n3_ n4_ n5_ n6_ n7_ n8_; clear hb hbox hg) | ((with_reducible refine gate_dst (N := 4) rfl ?_); refine box_event ?hg (N := 4) ?hd (cs := #[.slice none 0 0]) (t := 25) ?hr ?_; (case hd => rfl); (case hg => rfl); (case hr => first | (go_simp; done) | (go_simp; rfl)); intro gb778 hg w5 hbox hb; have n0_ := Aside0.mk (Kd.V_below (Kd.V_elderB HO0_0.out gb778 (Nat.le_of_eq hg.symm)) hb); have n1_ := Aside0.mk (Kd.V_below (Kd.V_elderB HO1_0.out gb778 (Nat.le_of_eq hg.symm)) hb); have n2_ := Aside0.mk (bb BK776.out hb); have n3_ := Aside0.mk (bb BK777.out hb); have n4_ := Aside0.mk (bs HB.out hb); have n5_ := Aside0.mk (hbox); have n6_ := Aside0.mk ((by rw [hg]; exact (bz HB.out) : w.heap.size ≤ gb778)); have n7_ := Aside0.mk ((by rw [hg]; exact (bz HB.out) : w.heap.size ≤ gb778)); have n8_ := Aside0.mk ((by rw [hg]; exact Nat.ne_of_lt (blk_lt (g := gb776) (o := .cells #[.slice A0_0 l0_0.length c0_0] 25 (0, 0)) BK776.out) : gb776 ≠ gb778)); have n9_ := Aside0.mk ((by rw [hg]; exact Nat.ne_of_gt (blk_lt (g := gb776) (o := .cells #[.slice A0_0 l0_0.length c0_0] 25 (0, 0)) BK776.out) : gb778 ≠ gb776)); have n10_ := Aside0.mk ((by rw [hg]; exact Nat.ne_of_lt (blk_lt (g := gb777) (o := .cells #[.slice A1_0 l1_0.length c1_0] 25 (0, 0)) BK777.out) : gb777 ≠ gb778)); have n11_ := Aside0.mk ((by rw [hg]; exact Nat.ne_of_gt (blk_lt (g := gb777) (o := .cells #[.slice A1_0 l1_0.length c1_0] 25 (0, 0)) BK777.out) : gb778 ≠ gb777)); clear HO0_0; clear HO1_0; clear BK776; clear BK777; clear HB; have HO0_0 := n0_; have HO1_0 := n1_; have BK776 := n2_; have BK777 := n3_; have HB := n4_; have BK778 := n5_; have GW778 := n6_; have GE778 := n7_; have NB776_778 := n8_; have NB778_776 := n9_; have NB777_778 := n10_; have NB778_777 := n11_; clear n0_ n1_ n2_ n3_ n4_ n5_ n6_ n7_ n8_ n9_ n10_ n11_; clear hb hbox hg))
 (try simp only [Act.put, List.setIfInBounds_toArray, List.set_cons_zero, List.set_cons_succ])
 go_loopg [] k (fun kq w' => ∃ (x777000_1 : List Int) (x778000_1 : List Int) (u777000 : Value) (u778000 : Value), Aside0 (quot_Gcd.l0 kq x777000_1 x778000_1 = some r) ∧ Aside0 (kq ≤ k) ∧ Aside0 (Kd.V (Kd.int .u64) 27 w' w.heap.size (fun k_ => ((P0_0_ k_ ∨ P1_0_ k_) ∨ w.heap.size ≤ k_) ∧ k_ ≠ gb776 ∧ k_ ≠ gb777 ∧ k_ ≠ gb778) u777000 x777000_1) ∧ Aside0 (Kd.V (Kd.int .u64) 27 w' w.heap.size (fun k_ => ((P0_0_ k_ ∨ P1_0_ k_) ∨ w.heap.size ≤ k_) ∧ k_ ≠ gb776 ∧ k_ ≠ gb777 ∧ k_ ≠ gb778) u778000 x778000_1) ∧ Aside0 (w'.heap[gb776]? = some (.cells #[u777000] 25 (0, 0))) ∧ Aside0 (w'.heap[gb777]? = some (.cells #[u778000] 25 (0, 0))) ∧ Aside0 (w'.heap[gb778]? = some (.cells #[(.slice none 0 0)] 25 (0, 0))) ∧ Aside0 (Below w.heap.size w w'))
 case atStart => exact ⟨(l0_0), (l1_0), (.slice A0_0 l0_0.length c0_0), (.slice A1_0 l1_0.length c1_0), H', ⟨Nat.le_refl _⟩, ⟨by (with_reducible repeat (first | apply Kd.V_alloc | apply Kd.V_drewN | apply Kd.V_drew)); exact Kd.V_mono HO0_0.out (fun _ hk => ⟨hk.1.1.1, ⟨hk.1.1.2, ⟨hk.1.2, hk.2⟩⟩⟩)⟩, ⟨by (with_reducible repeat (first | apply Kd.V_alloc | apply Kd.V_drewN | apply Kd.V_drew)); exact Kd.V_mono HO1_0.out (fun _ hk => ⟨hk.1.1.1, ⟨hk.1.1.2, ⟨hk.1.2, hk.2⟩⟩⟩)⟩, ⟨by (with_reducible repeat (first | refine blk_drewN ?_ _ | refine blk_drew ?_ | refine blk_alloc ?_ _)); exact BK776.out⟩, ⟨by (with_reducible repeat (first | refine blk_drewN ?_ _ | refine blk_drew ?_ | refine blk_alloc ?_ _)); exact BK777.out⟩, ⟨by (with_reducible repeat (first | refine blk_drewN ?_ _ | refine blk_drew ?_ | refine blk_alloc ?_ _)); exact BK778.out⟩, ⟨by repeat (first | (with_reducible first | exact HB.out | apply below_alloc | apply pw_below_drewN | apply below_drew1 | refine below_set ?_ GE776.out | refine below_set ?_ GE777.out | refine below_set ?_ GE778.out) | exact HB.out)⟩⟩
 case round =>
  clear H'
  try clear c1
  try clear p2
  try clear c4
  obtain ⟨x777000_1, x778000_1, u777000, u778000, HA, HK1, HO_777000, HO_778000, BK776, BK777, BK778, HB⟩ := hrel
  cases gk with
  | zero => exact absurd HA.out (by simp [quot_Gcd.l0])
  | succ k1 =>
   have H := HA.out
   clear HA
   simp only [quot_Gcd.l0] at H
   replace H := Option.bind_eq_some_iff.mp H
   obtain ⟨t779, A60, H⟩ := H
   (try dsimp only at H)
   have A6 := Aside0.mk A60
   clear A60
   by_cases c7 : t779 = true
   ·subst c7
    have H1 : (some x777000_1) = some r := by rw [if_pos rfl] at H; exact H
    clear H
    have H := H1
    clear H1
    obtain rfl := Option.some.inj H
    have hnb8 := NB777_776.out
    have hnc8 := NB776_777.out
    have hnb9 := NB777_778.out
    have hnc9 := NB778_777.out
    have hcz10_0 : wr.cell? ⟨gb777, 0, none⟩ = some (u778000) := (blk_cell BK777.out 0).trans rfl
    have hfz10_0 := blk_frozen BK777.out 0
    obtain ⟨Ao11, co11, eo11⟩ := Kd.V_slice HO_778000.out
    subst eo11
    go_wp2_with (first | ((with_reducible refine gate_callee (f := 18) rfl ?_); refine goesL_ (some 9) rfl rfl Try.func18 (by kernel_rfl) rfl #[.agg #[.slice Ao11 x778000_1.length co11]] rfl (by (try simp only [List.map_toArray, List.map_cons, List.map_nil]); first | done | rfl | (simp only [List.length_drop, List.length_take]; rfl)) ?_; (with_reducible refine (nat_Nat_Zero.calls _ _ x778000_1 true _ ?side1 ?side2 A6.out).mono ?_); (case side1 => exact cv HO_778000.out); (case side2 => exact (Kd.V_reads' HO_778000.out).2.1); rintro e w12 ⟨rfl, hb⟩; refine ⟨_, rfl, ?_⟩; replace HO_777000 := Aside0.mk (vb HO_777000.out hb); replace HO_778000 := Aside0.mk (vb HO_778000.out hb); replace BK776 := Aside0.mk (bb BK776.out hb); replace BK777 := Aside0.mk (bb BK777.out hb); replace BK778 := Aside0.mk (bb BK778.out hb); replace HB := Aside0.mk (bs HB.out hb); (try clear hb); (try clear hb2); (try clear hk); (try clear hi); have hnb13 := NB776_778.out; have hnc13 := NB778_776.out; have hcz14_0 : w12.cell? ⟨gb776, 0, none⟩ = some (u777000) := (blk_cell BK776.out 0).trans rfl; have hfz14_0 := blk_frozen BK776.out 0; obtain ⟨Ao15, co15, eo15⟩ := Kd.V_slice HO_777000.out; subst eo15; have hcz16_0 : w12.cell? ⟨gb778, 0, none⟩ = some (.slice none 0 0) := (blk_cell BK778.out 0).trans rfl; have hfz16_0 := blk_frozen BK778.out 0))
    refine bodyPost_ret (results_cell_row rfl _ _ gb778 25 #[.slice Ao15 x777000_1.length co15] (0, 0) _ rfl (by (with_reducible repeat (first | refine blk_drewN ?_ _ | refine blk_drew ?_ | refine blk_alloc ?_ _)); refine blk_put (cs := #[.slice none 0 0]) ?_ 0 _ rfl; (with_reducible repeat (first | refine blk_drewN ?_ _ | refine blk_drew ?_ | refine blk_alloc ?_ _)); exact BK778.out) Try.underlying25 rfl (by kernel_rfl)) rfl ?_
    exact ⟨_, by first | rfl | (simp [errW_none, errW_some] <;> rfl) | (simp [*, errW_none, errW_some] <;> rfl), by (with_reducible repeat (first | apply Kd.V_alloc | apply Kd.V_drewN | apply Kd.V_drew)); exact Kd.V_mono (Kd.V_far (p := ⟨gb778, 0, none⟩) (Kd.V_mono HO_777000.out (fun k_ hk => (⟨hk, hk.2.2.2⟩ : _ ∧ k_ ≠ gb778))) (fun _ hk => hk.2) (.slice Ao15 x777000_1.length co15)) (fun _ hk => hk.1.1), by repeat (first | (with_reducible first | exact HB.out | apply below_alloc | apply pw_below_drewN | apply below_drew1 | refine below_set ?_ GE776.out | refine below_set ?_ GE777.out | refine below_set ?_ GE778.out) | exact HB.out)⟩
   ·replace c7 := Bool.eq_false_iff.mpr c7
    subst c7
    have H1 : ((quot_Div.f k1 x777000_1 x778000_1).bind fun bt780 => (quot_Gcd.l0 k1 x778000_1 bt780.2.1)) = some r := by rw [if_neg (show ¬ (false = true) by decide)] at H; exact H
    clear H
    have H := H1
    clear H1
    replace H := Option.bind_eq_some_iff.mp H
    obtain ⟨⟨t780, t783, t786⟩, A170, H⟩ := H
    (try dsimp only at H)
    have A17 := Aside0.mk A170
    clear A170
    have H' := Aside0.mk H
    clear H
    have hnb18 := NB777_776.out
    have hnc18 := NB776_777.out
    have hnb19 := NB777_778.out
    have hnc19 := NB778_777.out
    have hcz20_0 : wr.cell? ⟨gb777, 0, none⟩ = some (u778000) := (blk_cell BK777.out 0).trans rfl
    have hfz20_0 := blk_frozen BK777.out 0
    obtain ⟨Ao21, co21, eo21⟩ := Kd.V_slice HO_778000.out
    subst eo21
    try go_wp2_with (first | ((with_reducible refine gate_callee (f := 18) rfl ?_); refine goesL_ (some 9) rfl rfl Try.func18 (by kernel_rfl) rfl #[.agg #[.slice Ao21 x778000_1.length co21]] rfl (by (try simp only [List.map_toArray, List.map_cons, List.map_nil]); first | done | rfl | (simp only [List.length_drop, List.length_take]; rfl)) ?_; (with_reducible refine (nat_Nat_Zero.calls _ _ x778000_1 false _ ?side1 ?side2 A6.out).mono ?_); (case side1 => exact cv HO_778000.out); (case side2 => exact (Kd.V_reads' HO_778000.out).2.1); rintro e w22 ⟨rfl, hb⟩; refine ⟨_, rfl, ?_⟩; replace HO_777000 := Aside0.mk (vb HO_777000.out hb); replace HO_778000 := Aside0.mk (vb HO_778000.out hb); replace BK776 := Aside0.mk (bb BK776.out hb); replace BK777 := Aside0.mk (bb BK777.out hb); replace BK778 := Aside0.mk (bb BK778.out hb); replace HB := Aside0.mk (bs HB.out hb); (try clear hb); (try clear hb2); (try clear hk); (try clear hi); have hnb23 := NB776_778.out; have hnc23 := NB778_776.out; have hcz24_0 : w22.cell? ⟨gb776, 0, none⟩ = some (u777000) := (blk_cell BK776.out 0).trans rfl; have hfz24_0 := blk_frozen BK776.out 0; have hcz25_0 : w22.cell? ⟨gb777, 0, none⟩ = some (.slice Ao21 x778000_1.length co21) := (blk_cell BK777.out 0).trans rfl; have hfz25_0 := blk_frozen BK777.out 0; obtain ⟨Ao26, co26, eo26⟩ := Kd.V_slice HO_777000.out; subst eo26) | ((with_reducible refine gate_callee (f := 32) rfl ?_); refine goesL_ (some 14) rfl rfl Try.func32 (by kernel_rfl) rfl #[.agg #[.slice Ao26 x777000_1.length co26], .agg #[.slice Ao21 x778000_1.length co21]] rfl (by (try simp only [List.map_toArray, List.map_cons, List.map_nil]); first | done | rfl | (simp only [List.length_drop, List.length_take]; rfl)) ?_; (with_reducible refine (quot_Div.calls k1 (fun k_ => (((P0_0_ k_ ∨ P1_0_ k_) ∨ w.heap.size ≤ k_) ∧ (k_ ≠ gb776 ∧ (k_ ≠ gb777 ∧ k_ ≠ gb778)))) _ _ x777000_1 _ _ x778000_1 t780 t783 t786 _ ?side1 ?side2 ?side3 A17.out).mono ?_); (case side1 => exact HO_777000.out); (case side2 => exact cv HO_778000.out); (case side3 => exact (Kd.V_reads' HO_778000.out).2.1); rintro e w27 ⟨v781, v784, rfl, ho0, ho1, hb⟩; refine ⟨_, rfl, ?_⟩; replace HO_777000 := Aside0.mk (vb HO_777000.out hb); replace HO_778000 := Aside0.mk (vb HO_778000.out hb); have HO782 := Aside0.mk (Kd.V_lower (Kd.V_mono (ok' := fun k_ => ((P0_0_ k_ ∨ P1_0_ k_) ∨ w.heap.size ≤ k_) ∧ k_ ≠ gb776 ∧ k_ ≠ gb777 ∧ k_ ≠ gb778) ho0 (fun k_ hk_ => ⟨Or.elim hk_ (fun hs_ => hs_.1) (fun hn_ => (.inr (Nat.le_trans (bz HB.out) hn_))), Or.elim hk_ (fun hs_ => hs_.2.1) (fun hn_ => (fb BK776.out k_ hn_)), Or.elim hk_ (fun hs_ => hs_.2.2.1) (fun hn_ => (fb BK777.out k_ hn_)), Or.elim hk_ (fun hs_ => hs_.2.2.2) (fun hn_ => (fb BK778.out k_ hn_))⟩)) (bz HB.out)); have HO785 := Aside0.mk (Kd.V_lower (Kd.V_mono (ok' := fun k_ => ((P0_0_ k_ ∨ P1_0_ k_) ∨ w.heap.size ≤ k_) ∧ k_ ≠ gb776 ∧ k_ ≠ gb777 ∧ k_ ≠ gb778) ho1 (fun k_ hk_ => ⟨Or.elim hk_ (fun hs_ => hs_.1) (fun hn_ => (.inr (Nat.le_trans (bz HB.out) hn_))), Or.elim hk_ (fun hs_ => hs_.2.1) (fun hn_ => (fb BK776.out k_ hn_)), Or.elim hk_ (fun hs_ => hs_.2.2.1) (fun hn_ => (fb BK777.out k_ hn_)), Or.elim hk_ (fun hs_ => hs_.2.2.2) (fun hn_ => (fb BK778.out k_ hn_))⟩)) (bz HB.out)); replace BK776 := Aside0.mk (bb BK776.out hb); replace BK777 := Aside0.mk (bb BK777.out hb); replace BK778 := Aside0.mk (bb BK778.out hb); replace HB := Aside0.mk (bs HB.out hb); (try clear hb); (try clear hb2); (try clear hk); (try clear hi); (try clear ho0); (try clear ho1)) | ((with_reducible refine gate_dst (N := 5) rfl ?_); refine box_event ?hg (N := 5) ?hd (cs := #[.slice none 0 0]) (t := 25) ?hr ?_; (case hd => rfl); (case hg => rfl); (case hr => first | (go_simp; done) | (go_simp; rfl)); intro gb787 hg w28 hbox hb; have n0_ := Aside0.mk (Kd.V_below (Kd.V_elderB HO_777000.out gb787 (Nat.le_of_eq hg.symm)) hb); have n1_ := Aside0.mk (Kd.V_below (Kd.V_elderB HO_778000.out gb787 (Nat.le_of_eq hg.symm)) hb); have n2_ := Aside0.mk (Kd.V_below (Kd.V_elderB HO782.out gb787 (Nat.le_of_eq hg.symm)) hb); have n3_ := Aside0.mk (Kd.V_below (Kd.V_elderB HO785.out gb787 (Nat.le_of_eq hg.symm)) hb); have n4_ := Aside0.mk (bb BK776.out hb); have n5_ := Aside0.mk (bb BK777.out hb); have n6_ := Aside0.mk (bb BK778.out hb); have n7_ := Aside0.mk (bs HB.out hb); have n8_ := Aside0.mk (hbox); have n9_ := Aside0.mk ((by rw [hg]; exact (bz HB.out) : w.heap.size ≤ gb787)); have n10_ := Aside0.mk ((by rw [hg]; exact (bz HB.out) : w.heap.size ≤ gb787)); have n11_ := Aside0.mk ((by rw [hg]; exact Nat.ne_of_lt (blk_lt (g := gb776) (o := .cells #[.slice Ao26 x777000_1.length co26] 25 (0, 0)) BK776.out) : gb776 ≠ gb787)); have n12_ := Aside0.mk ((by rw [hg]; exact Nat.ne_of_gt (blk_lt (g := gb776) (o := .cells #[.slice Ao26 x777000_1.length co26] 25 (0, 0)) BK776.out) : gb787 ≠ gb776)); have n13_ := Aside0.mk ((by rw [hg]; exact Nat.ne_of_lt (blk_lt (g := gb777) (o := .cells #[.slice Ao21 x778000_1.length co21] 25 (0, 0)) BK777.out) : gb777 ≠ gb787)); have n14_ := Aside0.mk ((by rw [hg]; exact Nat.ne_of_gt (blk_lt (g := gb777) (o := .cells #[.slice Ao21 x778000_1.length co21] 25 (0, 0)) BK777.out) : gb787 ≠ gb777)); have n15_ := Aside0.mk ((by rw [hg]; exact Nat.ne_of_lt (blk_lt (g := gb778) (o := .cells #[.slice none 0 0] 25 (0, 0)) BK778.out) : gb778 ≠ gb787)); have n16_ := Aside0.mk ((by rw [hg]; exact Nat.ne_of_gt (blk_lt (g := gb778) (o := .cells #[.slice none 0 0] 25 (0, 0)) BK778.out) : gb787 ≠ gb778)); clear HO_777000; clear HO_778000; clear HO782; clear HO785; clear BK776; clear BK777; clear BK778; clear HB; have HO_777000 := n0_; have HO_778000 := n1_; have HO782 := n2_; have HO785 := n3_; have BK776 := n4_; have BK777 := n5_; have BK778 := n6_; have HB := n7_; have BK787 := n8_; have GW787 := n9_; have GE787 := n10_; have NB776_787 := n11_; have NB787_776 := n12_; have NB777_787 := n13_; have NB787_777 := n14_; have NB778_787 := n15_; have NB787_778 := n16_; clear n0_ n1_ n2_ n3_ n4_ n5_ n6_ n7_ n8_ n9_ n10_ n11_ n12_ n13_ n14_ n15_ n16_; clear hb hbox hg) | ((with_reducible refine gate_dst (N := 6) rfl ?_); refine box_event ?hg (N := 6) ?hd (cs := #[.slice none 0 0]) (t := 25) ?hr ?_; (case hd => rfl); (case hg => rfl); (case hr => first | (go_simp; done) | (go_simp; rfl)); intro gb788 hg w29 hbox hb; have n0_ := Aside0.mk (Kd.V_below (Kd.V_elderB HO_777000.out gb788 (Nat.le_of_eq hg.symm)) hb); have n1_ := Aside0.mk (Kd.V_below (Kd.V_elderB HO_778000.out gb788 (Nat.le_of_eq hg.symm)) hb); have n2_ := Aside0.mk (Kd.V_below (Kd.V_elderB HO782.out gb788 (Nat.le_of_eq hg.symm)) hb); have n3_ := Aside0.mk (Kd.V_below (Kd.V_elderB HO785.out gb788 (Nat.le_of_eq hg.symm)) hb); have n4_ := Aside0.mk (bb BK776.out hb); have n5_ := Aside0.mk (bb BK777.out hb); have n6_ := Aside0.mk (bb BK778.out hb); have n7_ := Aside0.mk (bb BK787.out hb); have n8_ := Aside0.mk (bs HB.out hb); have n9_ := Aside0.mk (hbox); have n10_ := Aside0.mk ((by rw [hg]; exact (bz HB.out) : w.heap.size ≤ gb788)); have n11_ := Aside0.mk ((by rw [hg]; exact (bz HB.out) : w.heap.size ≤ gb788)); have n12_ := Aside0.mk ((by rw [hg]; exact Nat.ne_of_lt (blk_lt (g := gb776) (o := .cells #[.slice Ao26 x777000_1.length co26] 25 (0, 0)) BK776.out) : gb776 ≠ gb788)); have n13_ := Aside0.mk ((by rw [hg]; exact Nat.ne_of_gt (blk_lt (g := gb776) (o := .cells #[.slice Ao26 x777000_1.length co26] 25 (0, 0)) BK776.out) : gb788 ≠ gb776)); have n14_ := Aside0.mk ((by rw [hg]; exact Nat.ne_of_lt (blk_lt (g := gb777) (o := .cells #[.slice Ao21 x778000_1.length co21] 25 (0, 0)) BK777.out) : gb777 ≠ gb788)); have n15_ := Aside0.mk ((by rw [hg]; exact Nat.ne_of_gt (blk_lt (g := gb777) (o := .cells #[.slice Ao21 x778000_1.length co21] 25 (0, 0)) BK777.out) : gb788 ≠ gb777)); have n16_ := Aside0.mk ((by rw [hg]; exact Nat.ne_of_lt (blk_lt (g := gb778) (o := .cells #[.slice none 0 0] 25 (0, 0)) BK778.out) : gb778 ≠ gb788)); have n17_ := Aside0.mk ((by rw [hg]; exact Nat.ne_of_gt (blk_lt (g := gb778) (o := .cells #[.slice none 0 0] 25 (0, 0)) BK778.out) : gb788 ≠ gb778)); have n18_ := Aside0.mk ((by rw [hg]; exact Nat.ne_of_lt (blk_lt (g := gb787) (o := .cells #[.slice none 0 0] 25 (0, 0)) BK787.out) : gb787 ≠ gb788)); have n19_ := Aside0.mk ((by rw [hg]; exact Nat.ne_of_gt (blk_lt (g := gb787) (o := .cells #[.slice none 0 0] 25 (0, 0)) BK787.out) : gb788 ≠ gb787)); clear HO_777000; clear HO_778000; clear HO782; clear HO785; clear BK776; clear BK777; clear BK778; clear BK787; clear HB; have HO_777000 := n0_; have HO_778000 := n1_; have HO782 := n2_; have HO785 := n3_; have BK776 := n4_; have BK777 := n5_; have BK778 := n6_; have BK787 := n7_; have HB := n8_; have BK788 := n9_; have GW788 := n10_; have GE788 := n11_; have NB776_788 := n12_; have NB788_776 := n13_; have NB777_788 := n14_; have NB788_777 := n15_; have NB778_788 := n16_; have NB788_778 := n17_; have NB787_788 := n18_; have NB788_787 := n19_; clear n0_ n1_ n2_ n3_ n4_ n5_ n6_ n7_ n8_ n9_ n10_ n11_ n12_ n13_ n14_ n15_ n16_ n17_ n18_ n19_; clear hb hbox hg; obtain ⟨Ao30, co30, eo30⟩ := Kd.V_slice HO782.out; subst eo30; have hnb31 := NB787_776.out; have hnc31 := NB776_787.out; have hnb32 := NB787_777.out; have hnc32 := NB777_787.out; have hnb33 := NB787_778.out; have hnc33 := NB778_787.out; have hnb34 := NB787_788.out; have hnc34 := NB788_787.out; have hcz35_0 : w29.cell? ⟨gb787, 0, none⟩ = some (.slice none 0 0) := (blk_cell BK787.out 0).trans rfl; have hfz35_0 := blk_frozen BK787.out 0; obtain ⟨Ao36, co36, eo36⟩ := Kd.V_slice HO785.out; subst eo36; have hnb37 := NB788_776.out; have hnc37 := NB776_788.out; have hnb38 := NB788_777.out; have hnc38 := NB777_788.out; have hnb39 := NB788_778.out; have hnc39 := NB778_788.out; have hcz40_0 : w29.cell? ⟨gb788, 0, none⟩ = some (.slice none 0 0) := (blk_cell BK788.out 0).trans rfl; have hfz40_0 := blk_frozen BK788.out 0))
    have n0_ : Aside0 (Kd.V (Kd.int .u64) 27 ((w29.setCell ⟨gb787, 0, none⟩ (.slice Ao30 t780.length co30)).setCell ⟨gb788, 0, none⟩ (.slice Ao36 t783.length co36)) w.heap.size (fun k_ => ((P0_0_ k_ ∨ P1_0_ k_) ∨ w.heap.size ≤ k_) ∧ k_ ≠ gb776 ∧ k_ ≠ gb777 ∧ k_ ≠ gb778 ∧ k_ ≠ gb787 ∧ k_ ≠ gb788) (.slice Ao26 x777000_1.length co26) x777000_1) := ⟨by (with_reducible repeat (first | apply Kd.V_alloc | apply Kd.V_drewN | apply Kd.V_drew)); exact Kd.V_mono (Kd.V_far (p := ⟨gb788, 0, none⟩) (Kd.V_far (p := ⟨gb787, 0, none⟩) (Kd.V_mono (Kd.V_mono HO_777000.out (fun k_ hk => (⟨hk, hk.1.2⟩ : _ ∧ k_ ≠ gb787))) (fun k_ hk => (⟨hk, hk.1.2⟩ : _ ∧ k_ ≠ gb788))) (fun _ hk => hk.1.2) (.slice Ao30 t780.length co30)) (fun _ hk => hk.2) (.slice Ao36 t783.length co36)) (fun _ hk => ⟨hk.1.1.1.1.1, ⟨hk.1.1.1.1.2.1, ⟨hk.1.1.1.1.2.2.1, ⟨hk.1.1.1.1.2.2.2, ⟨hk.1.1.1.2, hk.1.1.2⟩⟩⟩⟩⟩)⟩
    have n1_ : Aside0 (Kd.V (Kd.int .u64) 27 ((w29.setCell ⟨gb787, 0, none⟩ (.slice Ao30 t780.length co30)).setCell ⟨gb788, 0, none⟩ (.slice Ao36 t783.length co36)) w.heap.size (fun k_ => ((P0_0_ k_ ∨ P1_0_ k_) ∨ w.heap.size ≤ k_) ∧ k_ ≠ gb776 ∧ k_ ≠ gb777 ∧ k_ ≠ gb778 ∧ k_ ≠ gb787 ∧ k_ ≠ gb788) (.slice Ao21 x778000_1.length co21) x778000_1) := ⟨by (with_reducible repeat (first | apply Kd.V_alloc | apply Kd.V_drewN | apply Kd.V_drew)); exact Kd.V_mono (Kd.V_far (p := ⟨gb788, 0, none⟩) (Kd.V_far (p := ⟨gb787, 0, none⟩) (Kd.V_mono (Kd.V_mono HO_778000.out (fun k_ hk => (⟨hk, hk.1.2⟩ : _ ∧ k_ ≠ gb787))) (fun k_ hk => (⟨hk, hk.1.2⟩ : _ ∧ k_ ≠ gb788))) (fun _ hk => hk.1.2) (.slice Ao30 t780.length co30)) (fun _ hk => hk.2) (.slice Ao36 t783.length co36)) (fun _ hk => ⟨hk.1.1.1.1.1, ⟨hk.1.1.1.1.2.1, ⟨hk.1.1.1.1.2.2.1, ⟨hk.1.1.1.1.2.2.2, ⟨hk.1.1.1.2, hk.1.1.2⟩⟩⟩⟩⟩)⟩
    have n2_ : Aside0 (Kd.V (Kd.int .u64) 27 ((w29.setCell ⟨gb787, 0, none⟩ (.slice Ao30 t780.length co30)).setCell ⟨gb788, 0, none⟩ (.slice Ao36 t783.length co36)) w.heap.size (fun k_ => ((P0_0_ k_ ∨ P1_0_ k_) ∨ w.heap.size ≤ k_) ∧ k_ ≠ gb776 ∧ k_ ≠ gb777 ∧ k_ ≠ gb778 ∧ k_ ≠ gb787 ∧ k_ ≠ gb788) (.slice Ao30 t780.length co30) t780) := ⟨by (with_reducible repeat (first | apply Kd.V_alloc | apply Kd.V_drewN | apply Kd.V_drew)); exact Kd.V_mono (Kd.V_far (p := ⟨gb788, 0, none⟩) (Kd.V_far (p := ⟨gb787, 0, none⟩) (Kd.V_mono (Kd.V_mono HO782.out (fun k_ hk => (⟨hk, hk.1.2⟩ : _ ∧ k_ ≠ gb787))) (fun k_ hk => (⟨hk, hk.1.2⟩ : _ ∧ k_ ≠ gb788))) (fun _ hk => hk.1.2) (.slice Ao30 t780.length co30)) (fun _ hk => hk.2) (.slice Ao36 t783.length co36)) (fun _ hk => ⟨hk.1.1.1.1.1, ⟨hk.1.1.1.1.2.1, ⟨hk.1.1.1.1.2.2.1, ⟨hk.1.1.1.1.2.2.2, ⟨hk.1.1.1.2, hk.1.1.2⟩⟩⟩⟩⟩)⟩
    have n3_ : Aside0 (Kd.V (Kd.int .u64) 27 ((w29.setCell ⟨gb787, 0, none⟩ (.slice Ao30 t780.length co30)).setCell ⟨gb788, 0, none⟩ (.slice Ao36 t783.length co36)) w.heap.size (fun k_ => ((P0_0_ k_ ∨ P1_0_ k_) ∨ w.heap.size ≤ k_) ∧ k_ ≠ gb776 ∧ k_ ≠ gb777 ∧ k_ ≠ gb778 ∧ k_ ≠ gb787 ∧ k_ ≠ gb788) (.slice Ao36 t783.length co36) t783) := ⟨by (with_reducible repeat (first | apply Kd.V_alloc | apply Kd.V_drewN | apply Kd.V_drew)); exact Kd.V_mono (Kd.V_far (p := ⟨gb788, 0, none⟩) (Kd.V_far (p := ⟨gb787, 0, none⟩) (Kd.V_mono (Kd.V_mono HO785.out (fun k_ hk => (⟨hk, hk.1.2⟩ : _ ∧ k_ ≠ gb787))) (fun k_ hk => (⟨hk, hk.1.2⟩ : _ ∧ k_ ≠ gb788))) (fun _ hk => hk.1.2) (.slice Ao30 t780.length co30)) (fun _ hk => hk.2) (.slice Ao36 t783.length co36)) (fun _ hk => ⟨hk.1.1.1.1.1, ⟨hk.1.1.1.1.2.1, ⟨hk.1.1.1.1.2.2.1, ⟨hk.1.1.1.1.2.2.2, ⟨hk.1.1.1.2, hk.1.1.2⟩⟩⟩⟩⟩)⟩
    have n4_ : Aside0 (((w29.setCell ⟨gb787, 0, none⟩ (.slice Ao30 t780.length co30)).setCell ⟨gb788, 0, none⟩ (.slice Ao36 t783.length co36)).heap[gb776]? = some (.cells #[.slice Ao26 x777000_1.length co26] 25 (0, 0))) := ⟨by (with_reducible repeat (first | refine blk_drewN ?_ _ | refine blk_drew ?_ | refine blk_alloc ?_ _)); refine blk_far ?_ NB776_788.out _; (with_reducible repeat (first | refine blk_drewN ?_ _ | refine blk_drew ?_ | refine blk_alloc ?_ _)); refine blk_far ?_ NB776_787.out _; (with_reducible repeat (first | refine blk_drewN ?_ _ | refine blk_drew ?_ | refine blk_alloc ?_ _)); exact BK776.out⟩
    have n5_ : Aside0 (((w29.setCell ⟨gb787, 0, none⟩ (.slice Ao30 t780.length co30)).setCell ⟨gb788, 0, none⟩ (.slice Ao36 t783.length co36)).heap[gb777]? = some (.cells #[.slice Ao21 x778000_1.length co21] 25 (0, 0))) := ⟨by (with_reducible repeat (first | refine blk_drewN ?_ _ | refine blk_drew ?_ | refine blk_alloc ?_ _)); refine blk_far ?_ NB777_788.out _; (with_reducible repeat (first | refine blk_drewN ?_ _ | refine blk_drew ?_ | refine blk_alloc ?_ _)); refine blk_far ?_ NB777_787.out _; (with_reducible repeat (first | refine blk_drewN ?_ _ | refine blk_drew ?_ | refine blk_alloc ?_ _)); exact BK777.out⟩
    have n6_ : Aside0 (((w29.setCell ⟨gb787, 0, none⟩ (.slice Ao30 t780.length co30)).setCell ⟨gb788, 0, none⟩ (.slice Ao36 t783.length co36)).heap[gb778]? = some (.cells #[.slice none 0 0] 25 (0, 0))) := ⟨by (with_reducible repeat (first | refine blk_drewN ?_ _ | refine blk_drew ?_ | refine blk_alloc ?_ _)); refine blk_far ?_ NB778_788.out _; (with_reducible repeat (first | refine blk_drewN ?_ _ | refine blk_drew ?_ | refine blk_alloc ?_ _)); refine blk_far ?_ NB778_787.out _; (with_reducible repeat (first | refine blk_drewN ?_ _ | refine blk_drew ?_ | refine blk_alloc ?_ _)); exact BK778.out⟩
    have n7_ : Aside0 (((w29.setCell ⟨gb787, 0, none⟩ (.slice Ao30 t780.length co30)).setCell ⟨gb788, 0, none⟩ (.slice Ao36 t783.length co36)).heap[gb787]? = some (.cells #[.slice Ao30 t780.length co30] 25 (0, 0))) := ⟨by (with_reducible repeat (first | refine blk_drewN ?_ _ | refine blk_drew ?_ | refine blk_alloc ?_ _)); refine blk_far ?_ NB787_788.out _; (with_reducible repeat (first | refine blk_drewN ?_ _ | refine blk_drew ?_ | refine blk_alloc ?_ _)); refine blk_put (cs := #[.slice none 0 0]) ?_ 0 _ rfl; (with_reducible repeat (first | refine blk_drewN ?_ _ | refine blk_drew ?_ | refine blk_alloc ?_ _)); exact BK787.out⟩
    have n8_ : Aside0 (((w29.setCell ⟨gb787, 0, none⟩ (.slice Ao30 t780.length co30)).setCell ⟨gb788, 0, none⟩ (.slice Ao36 t783.length co36)).heap[gb788]? = some (.cells #[.slice Ao36 t783.length co36] 25 (0, 0))) := ⟨by (with_reducible repeat (first | refine blk_drewN ?_ _ | refine blk_drew ?_ | refine blk_alloc ?_ _)); refine blk_put (cs := #[.slice none 0 0]) ?_ 0 _ rfl; (with_reducible repeat (first | refine blk_drewN ?_ _ | refine blk_drew ?_ | refine blk_alloc ?_ _)); refine blk_far ?_ NB788_787.out _; (with_reducible repeat (first | refine blk_drewN ?_ _ | refine blk_drew ?_ | refine blk_alloc ?_ _)); exact BK788.out⟩
    have n9_ : Aside0 (Below w.heap.size w ((w29.setCell ⟨gb787, 0, none⟩ (.slice Ao30 t780.length co30)).setCell ⟨gb788, 0, none⟩ (.slice Ao36 t783.length co36))) := ⟨by repeat (first | (with_reducible first | exact HB.out | apply below_alloc | apply pw_below_drewN | apply below_drew1 | refine below_set ?_ GE776.out | refine below_set ?_ GE777.out | refine below_set ?_ GE778.out | refine below_set ?_ GE787.out | refine below_set ?_ GE788.out) | exact HB.out)⟩
    (try clear HO_777000)
    (try clear HO_778000)
    (try clear HO782)
    (try clear HO785)
    (try clear BK776)
    (try clear BK777)
    (try clear BK778)
    (try clear BK787)
    (try clear BK788)
    (try clear HB)
    generalize ((w29.setCell ⟨gb787, 0, none⟩ (.slice Ao30 t780.length co30)).setCell ⟨gb788, 0, none⟩ (.slice Ao36 t783.length co36)) = w41 at n0_ n1_ n2_ n3_ n4_ n5_ n6_ n7_ n8_ n9_ ⊢
    have HO_777000 := n0_
    have HO_778000 := n1_
    have HO782 := n2_
    have HO785 := n3_
    have BK776 := n4_
    have BK777 := n5_
    have BK778 := n6_
    have BK787 := n7_
    have BK788 := n8_
    have HB := n9_
    clear n0_ n1_ n2_ n3_ n4_ n5_ n6_ n7_ n8_ n9_
    replace HO_777000 := Aside0.mk (Kd.V_drew HO_777000.out)
    replace HO_778000 := Aside0.mk (Kd.V_drew HO_778000.out)
    replace HO782 := Aside0.mk (Kd.V_drew HO782.out)
    replace HO785 := Aside0.mk (Kd.V_drew HO785.out)
    replace BK776 := Aside0.mk (blk_drew BK776.out)
    replace BK777 := Aside0.mk (blk_drew BK777.out)
    replace BK778 := Aside0.mk (blk_drew BK778.out)
    replace BK787 := Aside0.mk (blk_drew BK787.out)
    replace BK788 := Aside0.mk (blk_drew BK788.out)
    replace HB := Aside0.mk (below_drew1 HB.out)
    refine start_ (n := 4) (S := fun w' => w'.cell? ⟨gb777, 0, none⟩ = some (.slice Ao21 x778000_1.length co21) ∧ w'.cell? ⟨gb788, 0, none⟩ = some (.slice Ao36 t783.length co36)) (ds := [3]) #[false, false, false, false] (by kernel_rfl) rfl rfl ⟨(blk_cell BK777.out 0).trans rfl, (blk_cell BK788.out 0).trans rfl⟩ (fun hHeld => ?_)
    generalize w41.drew = w42 at HO_777000 HO_778000 HO782 HO785 BK776 BK777 BK778 BK787 BK788 HB hHeld ⊢
    refine take_ (i := 0) (N := some 18) (v := ?_) (a' := ?_) #[true, false, false, false] rfl rfl (by kernel_rfl) (fun _ _ _ h => h) (Or.inl ⟨by rfl, ?_⟩) hHeld ?_ ?_
    rotate_left
    ·rintro w' ⟨s0, s1⟩
     go_simp
     with_reducible rfl
    rotate_left
    ·simp only [Act.put, List.setIfInBounds_toArray, List.set_cons_zero, List.set_cons_succ, i64_w, i32_w]
     rfl
    refine take_ (i := 1) (N := some 19) (v := ?_) (a' := ?_) #[true, true, false, false] rfl rfl (by kernel_rfl) (fun _ _ _ h => h) (Or.inl ⟨by rfl, ?_⟩) hHeld ?_ ?_
    rotate_left
    ·rintro w' ⟨s0, s1⟩
     go_simp
     with_reducible rfl
    rotate_left
    ·simp only [Act.put, List.setIfInBounds_toArray, List.set_cons_zero, List.set_cons_succ, i64_w, i32_w]
     rfl
    refine one_ (i := 2) (N := none) #[true, true, true, false] rfl rfl (by kernel_rfl) (by decide) (fun K hK => ?_)
    have hs43 : w42.cell? ⟨gb776, 0, none⟩ = some (.slice Ao26 x777000_1.length co26) := (blk_cell BK776.out 0).trans rfl
    have hfs43 := blk_frozen BK776.out 0
    have hns43_1 := NB777_776.out
    have hns43_2 := NB778_776.out
    have hns43_3 := NB787_776.out
    have hns43_4 := NB788_776.out
    have hms43_1 := NB776_777.out
    have hms43_2 := NB776_778.out
    have hms43_3 := NB776_787.out
    have hms43_4 := NB776_788.out
    refine skip_ (w1 := ?_) (by rfl) rfl ?_ ?_
    rotate_left
    ·go_simp
     rfl
    refine hK.out _ _ ⟨((cell_far (p := ⟨gb776, _, none⟩) NB777_776.out _).trans (hHeld.1)), ((cell_far (p := ⟨gb776, _, none⟩) NB788_776.out _).trans (hHeld.2))⟩ (fun hHeld => ?_)
    clear hK K
    refine last_ (i := 3) (N := none) #[true, true, true, true] rfl rfl (by kernel_rfl) (by decide) (fun K hK => ?_)
    have hs44 : w42.cell? ⟨gb777, 0, none⟩ = some (.slice Ao21 x778000_1.length co21) := (blk_cell BK777.out 0).trans rfl
    have hfs44 := blk_frozen BK777.out 0
    have hns44_0 := NB776_777.out
    have hns44_2 := NB778_777.out
    have hns44_3 := NB787_777.out
    have hns44_4 := NB788_777.out
    have hms44_0 := NB777_776.out
    have hms44_2 := NB777_778.out
    have hms44_3 := NB777_787.out
    have hms44_4 := NB777_788.out
    refine skip_ (w1 := ?_) (by rfl) rfl ?_ ?_
    rotate_left
    ·go_simp
     rfl
    refine hK.out _ _ ?_
    clear hK K
    refine done_ (by kernel_rfl) ?_
    try go_wp2
    go_roundg k1
    case measure => have := HK1.out; omega
    case rel => exact ⟨(x778000_1), (t783), (.slice Ao21 x778000_1.length co21), (.slice Ao36 t783.length co36), H', ⟨by have := HK1.out; omega⟩, ⟨by (with_reducible repeat (first | apply Kd.V_alloc | apply Kd.V_drewN | apply Kd.V_drew)); exact Kd.V_mono (Kd.V_far (p := ⟨gb777, 0, none⟩) (Kd.V_far (p := ⟨gb776, 0, none⟩) (Kd.V_mono (Kd.V_mono HO_778000.out (fun k_ hk => (⟨hk, hk.2.1⟩ : _ ∧ k_ ≠ gb776))) (fun k_ hk => (⟨hk, hk.1.2.2.1⟩ : _ ∧ k_ ≠ gb777))) (fun _ hk => hk.1.2) (.slice Ao21 x778000_1.length co21)) (fun _ hk => hk.2) (.slice Ao36 t783.length co36)) (fun _ hk => ⟨hk.1.1.1, ⟨hk.1.1.2.1, ⟨hk.1.1.2.2.1, hk.1.1.2.2.2.1⟩⟩⟩)⟩, ⟨by (with_reducible repeat (first | apply Kd.V_alloc | apply Kd.V_drewN | apply Kd.V_drew)); exact Kd.V_mono (Kd.V_far (p := ⟨gb777, 0, none⟩) (Kd.V_far (p := ⟨gb776, 0, none⟩) (Kd.V_mono (Kd.V_mono HO785.out (fun k_ hk => (⟨hk, hk.2.1⟩ : _ ∧ k_ ≠ gb776))) (fun k_ hk => (⟨hk, hk.1.2.2.1⟩ : _ ∧ k_ ≠ gb777))) (fun _ hk => hk.1.2) (.slice Ao21 x778000_1.length co21)) (fun _ hk => hk.2) (.slice Ao36 t783.length co36)) (fun _ hk => ⟨hk.1.1.1, ⟨hk.1.1.2.1, ⟨hk.1.1.2.2.1, hk.1.1.2.2.2.1⟩⟩⟩)⟩, ⟨by (with_reducible repeat (first | refine blk_drewN ?_ _ | refine blk_drew ?_ | refine blk_alloc ?_ _)); refine blk_far ?_ NB776_777.out _; (with_reducible repeat (first | refine blk_drewN ?_ _ | refine blk_drew ?_ | refine blk_alloc ?_ _)); refine blk_put (cs := #[.slice Ao26 x777000_1.length co26]) ?_ 0 _ rfl; (with_reducible repeat (first | refine blk_drewN ?_ _ | refine blk_drew ?_ | refine blk_alloc ?_ _)); exact BK776.out⟩, ⟨by (with_reducible repeat (first | refine blk_drewN ?_ _ | refine blk_drew ?_ | refine blk_alloc ?_ _)); refine blk_put (cs := #[.slice Ao21 x778000_1.length co21]) ?_ 0 _ rfl; (with_reducible repeat (first | refine blk_drewN ?_ _ | refine blk_drew ?_ | refine blk_alloc ?_ _)); refine blk_far ?_ NB777_776.out _; (with_reducible repeat (first | refine blk_drewN ?_ _ | refine blk_drew ?_ | refine blk_alloc ?_ _)); exact BK777.out⟩, ⟨by (with_reducible repeat (first | refine blk_drewN ?_ _ | refine blk_drew ?_ | refine blk_alloc ?_ _)); refine blk_far ?_ NB778_777.out _; (with_reducible repeat (first | refine blk_drewN ?_ _ | refine blk_drew ?_ | refine blk_alloc ?_ _)); refine blk_far ?_ NB778_776.out _; (with_reducible repeat (first | refine blk_drewN ?_ _ | refine blk_drew ?_ | refine blk_alloc ?_ _)); exact BK778.out⟩, ⟨by repeat (first | (with_reducible first | exact HB.out | apply below_alloc | apply pw_below_drewN | apply below_drew1 | refine below_set ?_ GE776.out | refine below_set ?_ GE777.out | refine below_set ?_ GE778.out | refine below_set ?_ GE787.out | refine below_set ?_ GE788.out) | exact HB.out)⟩⟩
end Go.Proofs.Ytebjbmgfbejapaa.F
end
