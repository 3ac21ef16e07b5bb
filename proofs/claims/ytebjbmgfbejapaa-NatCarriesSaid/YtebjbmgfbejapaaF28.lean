-- Written by this session's printer (wip/tools), out of the translation's own print. Lean checks it.
import Derived.Test.YtebjbmgfbejapaaF0
import Derived.Test.YtebjbmgfbejapaaF3
import Derived.Test.YtebjbmgfbejapaaF27
namespace Go.Proofs.Ytebjbmgfbejapaa.F
open Go.RowKit Go.Proofs.YtebjbmgfbejapaaW.PrintWords Go.Proofs.YtebjbmgfbejapaaW.PrintLast Go.Proofs.YtebjbmgfbejapaaW.PrintMore Go.Proofs.YtebjbmgfbejapaaX
attribute [local go_sem] max2_int cell_some xrun_add64 xrun_sub64
attribute [local go_sem] max2_int min2_int max_two min_two max_three min_three max_four min_four   -- for this text's walks alone
set_option linter.unusedVariables false
set_option linter.unusedSimpArgs false

/-! ### nat_Nat_Mul: function 24 -/
def nat_Nat_Mul.l0 : Nat → List Int → List Int → Int → Int → List Int → Option (List Int)
  | 0, _, _, _, _, _ => none
  | k + 1, x5, x18, x19, x20, x319000 => if x20 < x19 then (if 0 ≤ x20 then (if x20 < (x18.length : Int) then (if x20 < (x5.length : Int) then ((nat_Nat_rowW.f k x319000 (rd x18 x20) x5 x20 (x5.length : Int)).bind fun t325 => (nat_Nat_Mul.l0 k t325 x18 x19 (wrap64 (x20 + 1)) x319000)) else (none)) else (none)) else (none)) else ((nat_trimmed.f k x5).bind fun t326 => (some t326))
def nat_Nat_Mul.f (k : Nat) (l0_0 : List Int) (l1_0 : List Int) : Option (List Int) := if 0 ≤ (wrap64 ((wrap64 ((l0_0.length : Int) + (l1_0.length : Int))) + 1)) then (if (wrap64 ((wrap64 ((l0_0.length : Int) + (l1_0.length : Int))) + 1) : Int).toNat ≤ 35184372088832 then (nat_Nat_Mul.l0 k (List.replicate (wrap64 ((wrap64 ((l0_0.length : Int) + (l1_0.length : Int))) + 1) : Int).toNat 0) l1_0 (l1_0.length : Int) 0 l0_0) else (none)) else (none)
theorem nat_Nat_Mul.mono_l : ∀ k, (∀ y0 y1 y2 y3 y4, LeO (nat_Nat_Mul.l0 k y0 y1 y2 y3 y4) (nat_Nat_Mul.l0 (k + 1) y0 y1 y2 y3 y4))
  | 0 => fun _ _ _ _ _ r h => by simp [nat_Nat_Mul.l0] at h
  | k + 1 => by
    have ih0 := nat_Nat_Mul.mono_l k
    · intro y0 y1 y2 y3 y4
      unfold nat_Nat_Mul.l0
      repeat' first
      | (with_reducible exact ih0 _ _ _ _ _)
      | (with_reducible exact nat_Nat_rowW.mono _ _ _ _ _ _)
      | (with_reducible exact nat_trimmed.mono _ _)
      | (with_reducible exact LeO.refl _)
      | (with_reducible exact LeO.none _)
      | (with_reducible refine LeO.ite ?_ ?_)
      | (with_reducible refine LeO.bind ?_ (fun _ => ?_))
      | exact ih0 _ _ _ _ _
      | exact nat_Nat_rowW.mono _ _ _ _ _ _
      | exact nat_trimmed.mono _ _
      | exact LeO.none _
      | refine LeO.ite ?_ ?_
      | refine LeO.bind ?_ (fun _ => ?_)
theorem nat_Nat_Mul.mono : ∀ a0 a1 k, LeO (nat_Nat_Mul.f k a0 a1) (nat_Nat_Mul.f (k + 1) a0 a1) := by
  intro a0 a1 k
  have ih0 := nat_Nat_Mul.mono_l k
  unfold nat_Nat_Mul.f
  repeat' first
      | (with_reducible exact ih0 _ _ _ _ _)
      | (with_reducible exact nat_Nat_rowW.mono _ _ _ _ _ _)
      | (with_reducible exact nat_trimmed.mono _ _)
      | (with_reducible exact LeO.refl _)
      | (with_reducible exact LeO.none _)
      | (with_reducible refine LeO.ite ?_ ?_)
      | (with_reducible refine LeO.bind ?_ (fun _ => ?_))
      | exact ih0 _ _ _ _ _
      | exact nat_Nat_rowW.mono _ _ _ _ _ _
      | exact nat_trimmed.mono _ _
      | exact LeO.none _
      | refine LeO.ite ?_ ?_
      | refine LeO.bind ?_ (fun _ => ?_)
set_option maxHeartbeats 8000000 in
set_option maxRecDepth 100000 in
theorem nat_Nat_Mul.calls (k : Nat) (A0_0 : Option Addr) (c0_0 : Nat) (l0_0 : List Int) (A1_0 : Option Addr) (c1_0 : Nat) (l1_0 : List Int) (r : List Int) (w : World) (hr0_0 : Kd.C (Kd.int .u64) w A0_0 l0_0.length l0_0) (hc0_0 : l0_0.length ≤ c0_0) (hr1_0 : Kd.C (Kd.int .u64) w A1_0 l1_0.length l1_0) (hc1_0 : l1_0.length ≤ c1_0) (h : nat_Nat_Mul.f k l0_0 l1_0 = some r) :
    Calls Try.prog 24 #[.agg #[.slice A0_0 l0_0.length c0_0], .agg #[.slice A1_0 l1_0.length c1_0]] w fun e w' => ∃ v0_ : Value, e = .returned (.agg #[v0_]) ∧ Kd.V (Kd.int .u64) 27 w' w.heap.size (fun k_ => (w.heap.size ≤ k_)) v0_ r ∧ Below w.heap.size w w' := by
  have hu25 := Try.underlying25
  have HR0_0 := Aside0.mk hr0_0
  have HC0_0 := Aside0.mk hc0_0
  clear hr0_0 hc0_0
  have HR1_0 := Aside0.mk hr1_0
  have HC1_0 := Aside0.mk hc1_0
  clear hr1_0 hc1_0
  have HB := Aside0.mk (Below.refl w.heap.size w)
  have H : (if 0 ≤ (wrap64 ((wrap64 ((l0_0.length : Int) + (l1_0.length : Int))) + 1)) then (if (wrap64 ((wrap64 ((l0_0.length : Int) + (l1_0.length : Int))) + 1) : Int).toNat ≤ 35184372088832 then (nat_Nat_Mul.l0 k (List.replicate (wrap64 ((wrap64 ((l0_0.length : Int) + (l1_0.length : Int))) + 1) : Int).toNat 0) l1_0 (l1_0.length : Int) 0 l0_0) else (none)) else (none)) = some r := h
  clear h
  obtain ⟨ji3, hji3⟩ : ∃ j_ : Int, (wrap64 ((wrap64 ((l0_0.length : Int) + (l1_0.length : Int))) + 1)) = j_ := ⟨_, rfl⟩
  replace H : (if 0 ≤ (ji3) then (if (ji3 : Int).toNat ≤ 35184372088832 then (nat_Nat_Mul.l0 k (List.replicate (ji3 : Int).toNat 0) l1_0 (l1_0.length : Int) 0 l0_0) else (none)) else (none)) = some r := by first | (rw [hji3] at H; exact H) | (simp only [hji3] at H ⊢; exact H)
  have hji3w : (IntKind.i64.wrap ((wrap64 ((l0_0.length : Int) + (l1_0.length : Int))) + 1)) = ji3 := (i64_w _).trans hji3
  by_cases c4 : 0 ≤ (ji3)
  rotate_left
  · rw [if_neg c4] at H
    exact absurd H (by simp)

  rw [if_pos c4] at H
  have c4b0 := eq_true c4
  have c4b1 : decide (0 ≤ (ji3)) = true := decide_eq_true c4
  clear c4
  by_cases c5 : (ji3 : Int).toNat ≤ 35184372088832
  rotate_left
  · rw [if_neg c5] at H
    exact absurd H (by simp)
  rw [if_pos c5] at H
  have c5b0 := eq_true c5
  have c5b1 : decide ((ji3 : Int).toNat ≤ 35184372088832) = true := decide_eq_true c5
  clear c5
  obtain ⟨y321, hy321⟩ : ∃ y_ : List Int, y_ = (List.replicate (ji3 : Int).toNat 0) := ⟨_, rfl⟩
  replace H : (nat_Nat_Mul.l0 k y321 l1_0 (l1_0.length : Int) 0 l0_0) = some r := by first | (rw [hy321]; with_reducible exact H) | (have H2_ := (Option.bind_some _ _).symm.trans H; rw [hy321]; with_reducible exact H2_) | (have H2_ := (Option.bind_some _ _).symm.trans H; with_reducible exact H2_) | with_reducible exact H | (rw [hy321]; exact H) | exact H
  have Ny321 := Aside0.mk hy321
  clear hy321
  have H' := Aside0.mk H
  clear H
  go_enter Try.func24, Try.ntmps24
  go_wp2_with (first | ((with_reducible refine gate_dst (N := 2) rfl ?_); refine box_event ?hg (N := 2) ?hd (cs := #[.slice A0_0 l0_0.length c0_0]) (t := 25) ?hr ?_; (case hd => rfl); (case hg => rfl); (case hr => first | (go_simp; done) | (go_simp; rfl)); intro gb318 hg w6 hbox hb; have n0_ := Aside0.mk (below_step (by repeat (first | (with_reducible first | exact HB.out | apply below_alloc | apply pw_below_drewN | apply below_drew1) | exact HB.out)) hb); have n1_ := Aside0.mk (hbox); have n2_ := Aside0.mk ((by rw [hg]; exact (below_size (by repeat (first | (with_reducible first | exact HB.out | apply below_alloc | apply pw_below_drewN | apply below_drew1) | exact HB.out))) : w.heap.size ≤ gb318)); have n3_ := Aside0.mk ((by rw [hg]; exact (below_size (by repeat (first | (with_reducible first | exact HB.out | apply below_alloc | apply pw_below_drewN | apply below_drew1) | exact HB.out))) : w.heap.size ≤ gb318)); clear HB; have HB := n0_; have BK318 := n1_; have GW318 := n2_; have GE318 := n3_; clear n0_ n1_ n2_ n3_; clear hb hbox hg) | ((with_reducible refine gate_dst (N := 3) rfl ?_); refine box_event ?hg (N := 3) ?hd (cs := #[.slice A1_0 l1_0.length c1_0]) (t := 25) ?hr ?_; (case hd => rfl); (case hg => rfl); (case hr => first | (go_simp; done) | (go_simp; rfl)); intro gb319 hg w7 hbox hb; have n0_ := Aside0.mk (bb BK318.out hb); have n1_ := Aside0.mk (bs HB.out hb); have n2_ := Aside0.mk (hbox); have n3_ := Aside0.mk ((by rw [hg]; exact (bz HB.out) : w.heap.size ≤ gb319)); have n4_ := Aside0.mk ((by rw [hg]; exact (bz HB.out) : w.heap.size ≤ gb319)); have n5_ := Aside0.mk ((by rw [hg]; exact Nat.ne_of_lt (blk_lt (g := gb318) (o := .cells #[.slice A0_0 l0_0.length c0_0] 25 (0, 0)) (by (with_reducible repeat (first | refine blk_drewN ?_ _ | refine blk_drew ?_ | refine blk_alloc ?_ _)); exact BK318.out)) : gb318 ≠ gb319)); have n6_ := Aside0.mk ((by rw [hg]; exact Nat.ne_of_gt (blk_lt (g := gb318) (o := .cells #[.slice A0_0 l0_0.length c0_0] 25 (0, 0)) (by (with_reducible repeat (first | refine blk_drewN ?_ _ | refine blk_drew ?_ | refine blk_alloc ?_ _)); exact BK318.out)) : gb319 ≠ gb318)); clear BK318; clear HB; have BK318 := n0_; have HB := n1_; have BK319 := n2_; have GW319 := n3_; have GE319 := n4_; have NB318_319 := n5_; have NB319_318 := n6_; clear n0_ n1_ n2_ n3_ n4_ n5_ n6_; clear hb hbox hg) | ((with_reducible refine gate_dst (N := 4) rfl ?_); refine box_event ?hg (N := 4) ?hd (cs := #[.slice none 0 0]) (t := 25) ?hr ?_; (case hd => rfl); (case hg => rfl); (case hr => first | (go_simp; done) | (go_simp; rfl)); intro gb320 hg w8 hbox hb; have n0_ := Aside0.mk (bb BK318.out hb); have n1_ := Aside0.mk (bb BK319.out hb); have n2_ := Aside0.mk (bs HB.out hb); have n3_ := Aside0.mk (hbox); have n4_ := Aside0.mk ((by rw [hg]; exact (bz HB.out) : w.heap.size ≤ gb320)); have n5_ := Aside0.mk ((by rw [hg]; exact (bz HB.out) : w.heap.size ≤ gb320)); have n6_ := Aside0.mk ((by rw [hg]; exact Nat.ne_of_lt (blk_lt (g := gb318) (o := .cells #[.slice A0_0 l0_0.length c0_0] 25 (0, 0)) (by (with_reducible repeat (first | refine blk_drewN ?_ _ | refine blk_drew ?_ | refine blk_alloc ?_ _)); exact BK318.out)) : gb318 ≠ gb320)); have n7_ := Aside0.mk ((by rw [hg]; exact Nat.ne_of_gt (blk_lt (g := gb318) (o := .cells #[.slice A0_0 l0_0.length c0_0] 25 (0, 0)) (by (with_reducible repeat (first | refine blk_drewN ?_ _ | refine blk_drew ?_ | refine blk_alloc ?_ _)); exact BK318.out)) : gb320 ≠ gb318)); have n8_ := Aside0.mk ((by rw [hg]; exact Nat.ne_of_lt (blk_lt (g := gb319) (o := .cells #[.slice A1_0 l1_0.length c1_0] 25 (0, 0)) (by (with_reducible repeat (first | refine blk_drewN ?_ _ | refine blk_drew ?_ | refine blk_alloc ?_ _)); exact BK319.out)) : gb319 ≠ gb320)); have n9_ := Aside0.mk ((by rw [hg]; exact Nat.ne_of_gt (blk_lt (g := gb319) (o := .cells #[.slice A1_0 l1_0.length c1_0] 25 (0, 0)) (by (with_reducible repeat (first | refine blk_drewN ?_ _ | refine blk_drew ?_ | refine blk_alloc ?_ _)); exact BK319.out)) : gb320 ≠ gb319)); clear BK318; clear BK319; clear HB; have BK318 := n0_; have BK319 := n1_; have HB := n2_; have BK320 := n3_; have GW320 := n4_; have GE320 := n5_; have NB318_320 := n6_; have NB320_318 := n7_; have NB319_320 := n8_; have NB320_319 := n9_; clear n0_ n1_ n2_ n3_ n4_ n5_ n6_ n7_ n8_ n9_; clear hb hbox hg; have hnb9 := NB318_319.out; have hnc9 := NB319_318.out; have hnb10 := NB318_320.out; have hnc10 := NB320_318.out; have hcz11_0 : w8.cell? ⟨gb318, 0, none⟩ = some (.slice A0_0 l0_0.length c0_0) := (blk_cell BK318.out 0).trans rfl; have hfz11_0 := blk_frozen BK318.out 0; have hnb12 := NB319_320.out; have hnc12 := NB320_319.out; have hcz13_0 : w8.cell? ⟨gb319, 0, none⟩ = some (.slice A1_0 l1_0.length c1_0) := (blk_cell BK319.out 0).trans rfl; have hfz13_0 := blk_frozen BK319.out 0) | ((with_reducible refine gate_dst (N := 16) rfl ?_); refine Kd.R_make (Kd.int .u64) _ 27 rfl (N := 16) rfl 22 _ _ rfl ji3 rfl rfl Try.underlying22 (.int .u64 0) 8 info27 rfl (by decide) (by omega) 0 (ok := fun _ => True) (okp := fun _ => True) rfl (fun _ hk => hk) trivial (of_decide_eq_true (by first | (with_reducible assumption) | assumption)) (Nat.le_trans (Nat.mul_le_mul_right _ (of_decide_eq_true (by first | (with_reducible assumption) | assumption) : ji3.toNat ≤ 35184372088832)) (by omega)) (Below.refl _ _) (Nat.le_refl _) ?_; intro v322 w14 ho15 hb hg_ hnew_; clear hg_ hnew_; (first | rw [← Ny321.out] at ho15 | (simp only [Int.reduceToNat] at ho15; rw [← Ny321.out] at ho15)); have HO323 := Aside0.mk (Kd.R_lower (Kd.R_newM (M := fun k_ => (w.heap.size ≤ k_)) ho15 (bz HB.out) (fun k_ h_ => h_)) (bz HB.out)); replace BK318 := Aside0.mk (bb BK318.out hb); replace BK319 := Aside0.mk (bb BK319.out hb); replace BK320 := Aside0.mk (bb BK320.out hb); replace HB := Aside0.mk (bs HB.out hb); clear hb ho15; have hcz16_0 : w14.cell? ⟨gb319, 0, none⟩ = some (.slice A1_0 l1_0.length c1_0) := (blk_cell BK319.out 0).trans rfl; have hfz16_0 := blk_frozen BK319.out 0))
  go_loopg [20] k (fun kq v20 w' => ∃ (x5_1 : List Int) (x20_1 : Int), v20 = .int .i64 x20_1 ∧ Aside0 (nat_Nat_Mul.l0 kq x5_1 l1_0 (l1_0.length : Int) x20_1 l0_0 = some r) ∧ Aside0 (kq ≤ k) ∧ Aside0 (Kd.R (Kd.int .u64) 27 w' w.heap.size (fun k_ => (w.heap.size ≤ k_)) v322 x5_1) ∧ Aside0 (w'.heap[gb318]? = some (.cells #[(.slice A0_0 l0_0.length c0_0)] 25 (0, 0))) ∧ Aside0 (w'.heap[gb319]? = some (.cells #[(.slice A1_0 l1_0.length c1_0)] 25 (0, 0))) ∧ Aside0 (w'.heap[gb320]? = some (.cells #[(.slice none 0 0)] 25 (0, 0))) ∧ Aside0 (Below w.heap.size w w'))
  case atStart => exact ⟨(y321), (0), (by first | rfl | (simp; done) | (simp [*]; done)), H', ⟨Nat.le_refl _⟩, ⟨by (with_reducible repeat (first | apply Kd.R_alloc | apply Kd.R_drewN | apply Kd.R_drew)); exact Kd.R_mono HO323.out (fun _ hk => hk.1)⟩, ⟨by (with_reducible repeat (first | refine blk_drewN ?_ _ | refine blk_drew ?_ | refine blk_alloc ?_ _)); exact BK318.out⟩, ⟨by (with_reducible repeat (first | refine blk_drewN ?_ _ | refine blk_drew ?_ | refine blk_alloc ?_ _)); exact BK319.out⟩, ⟨by (with_reducible repeat (first | refine blk_drewN ?_ _ | refine blk_drew ?_ | refine blk_alloc ?_ _)); exact BK320.out⟩, ⟨by repeat (first | (with_reducible first | exact HB.out | apply below_alloc | apply pw_below_drewN | apply below_drew1 | refine below_set ?_ GE318.out | refine below_set ?_ GE319.out | refine below_set ?_ GE320.out) | exact HB.out)⟩⟩
  case round =>
    clear H'
    try clear c1
    try clear c2
    try clear p2
    try clear c4
    try clear c4b0
    try clear c4b1
    try clear c5
    try clear c5b0
    try clear c5b1
    try clear p6
    try clear c9
    try clear c10
    try clear c12
    try clear hcz11_0
    try clear hcz13_0
    try clear hcz16_0
    try clear hfz11_0
    try clear hfz13_0
    try clear hfz16_0
    obtain ⟨x5_1, x20_1, rfl, HA, HK1, HO_5, BK318, BK319, BK320, HB⟩ := hrel
    cases gk with
    | zero => exact absurd HA.out (by simp [nat_Nat_Mul.l0])
    | succ k1 =>
      have H := HA.out
      clear HA
      simp only [nat_Nat_Mul.l0] at H
      by_cases c17 : x20_1 < (l1_0.length : Int)
      · rw [if_pos c17] at H
        have c17b0 : decide (x20_1 < (l1_0.length : Int)) = true := decide_eq_true c17
        clear c17
        by_cases c18 : 0 ≤ x20_1
        rotate_left
        · rw [if_neg c18] at H
          exact absurd H (by simp)
        rw [if_pos c18] at H
        have c18b0 : decide (0 ≤ x20_1) = true := decide_eq_true c18
        clear c18
        by_cases c19 : x20_1 < (l1_0.length : Int)
        rotate_left
        · rw [if_neg c19] at H
          exact absurd H (by simp)
        rw [if_pos c19] at H
        have c19b0 : decide (x20_1 < (l1_0.length : Int)) = true := decide_eq_true c19
        clear c19
        have c20b0 := eq_true (of_decide_eq_true (by first | (with_reducible assumption) | assumption) : 0 ≤ x20_1)
        by_cases c21 : x20_1 < (x5_1.length : Int)
        rotate_left
        · rw [if_neg c21] at H
          exact absurd H (by simp)
        rw [if_pos c21] at H
        have c21b0 := eq_true c21
        have c21b1 : decide (x20_1 < (x5_1.length : Int)) = true := decide_eq_true c21
        clear c21
        replace H := Option.bind_eq_some_iff.mp H
        obtain ⟨t325, A220, H⟩ := H
        replace H : (nat_Nat_Mul.l0 k1 t325 l1_0 (l1_0.length : Int) (wrap64 (x20_1 + 1)) l0_0) = some r := H
        have A22 := Aside0.mk A220
        clear A220
        have H' := Aside0.mk H
        clear H
        have p324 : 0 ≤ (x20_1 : Int) := of_decide_eq_true (by first | (with_reducible assumption) | assumption)
        have q324 : x20_1 < (l1_0.length : Int) := of_decide_eq_true (by first | (with_reducible assumption) | assumption)
        obtain ⟨ad324, e324, hx324_0⟩ := Kd.at_int HR1_0.out x20_1 p324 q324
        cases e324
        replace hx324_0 := (HB.out.cell (World.block_lt_of_cell? w _ hx324_0)).trans hx324_0
        replace p324 := eq_true p324
        replace q324 := eq_true q324
        try go_wp2
        replace HO_5 := Aside0.mk (Kd.R_drew HO_5.out)
        replace BK318 := Aside0.mk (blk_drew BK318.out)
        replace BK319 := Aside0.mk (blk_drew BK319.out)
        replace BK320 := Aside0.mk (blk_drew BK320.out)
        replace HB := Aside0.mk (below_drew1 HB.out)
        obtain ⟨Ao24, co24, eo24⟩ := Kd.R_slice HO_5.out
        (first | subst eo24 | (injection eo24 with f1_ f2_ f3_; have f4_ := f1_.symm; have f5_ := f3_.symm; clear f1_ f2_ f3_; subst f4_; subst f5_))
        obtain ⟨i025, hi025, _, hsz25, _⟩ := info_parts info27
        have w025 : (0 : Int) ≤ (x20_1 : Int) := of_decide_eq_true (by first | (with_reducible assumption) | assumption)
        have w125 : (x20_1 : Int) < ((x5_1.length : Int) : Int) := of_decide_eq_true (by first | (with_reducible assumption) | assumption)
        have hwin25 := win_from (P := Try.prog) 22 27 .i64 Try.underlying22 hi025 hsz25 HO_5.out (x20_1 : Int) ((x5_1.length : Int) : Int) w025 w125 (by first | rfl | omega)
        clear hi025 hsz25
        replace w025 := eq_true w025
        replace w125 := eq_true w125
        refine start_ (n := 6) (S := fun w' => w'.cell? ⟨gb318, 0, none⟩ = some (.slice A0_0 l0_0.length c0_0)) (ds := []) #[false, false, false, false, false, false] (by kernel_rfl) rfl rfl ((blk_cell BK318.out 0).trans rfl) (fun hHeld => ?_)
        generalize wr.drew = w23 at HO_5 BK318 BK319 BK320 HB hHeld ⊢
        refine pure_ (i := 1) (N := some 26) (v := ?_) (a' := ?_) #[false, true, false, false, false, false] rfl rfl (by kernel_rfl) (fun _ _ _ h => h) (Or.inl ⟨by rfl, ?_⟩) ?_ ?_
        rotate_left
        · intro w'
          go_simp
          with_reducible rfl
        rotate_left
        · simp only [Act.put, List.setIfInBounds_toArray, List.set_cons_zero, List.set_cons_succ, i64_w, i32_w]
          rfl
        refine pure_ (i := 2) (N := some 27) (v := ?_) (a' := ?_) #[false, true, true, false, false, false] rfl rfl (by kernel_rfl) (fun _ _ _ h => h) (Or.inl ⟨by rfl, ?_⟩) ?_ ?_
        rotate_left
        · intro w'
          go_simp
          with_reducible rfl
        rotate_left
        · simp only [Act.put, List.setIfInBounds_toArray, List.set_cons_zero, List.set_cons_succ, i64_w, i32_w]
          rfl
        refine pure_ (i := 3) (N := some 28) (v := ?_) (a' := ?_) #[false, true, true, true, false, false] rfl rfl (by kernel_rfl) (fun _ _ _ h => h) (Or.inl ⟨by rfl, ?_⟩) ?_ ?_
        rotate_left
        · intro w'
          go_simp
          with_reducible rfl
        rotate_left
        · simp only [Act.put, List.setIfInBounds_toArray, List.set_cons_zero, List.set_cons_succ, i64_w, i32_w]
          rfl
        refine pure_ (i := 4) (N := some 29) (v := ?_) (a' := ?_) #[false, true, true, true, true, false] rfl rfl (by kernel_rfl) (fun _ _ _ h => h) (Or.inl ⟨by rfl, ?_⟩) ?_ ?_
        rotate_left
        · intro w'
          go_simp
          with_reducible rfl
        rotate_left
        · simp only [Act.put, List.setIfInBounds_toArray, List.set_cons_zero, List.set_cons_succ, i64_w, i32_w]
          rfl
        refine take_ (i := 0) (N := some 25) (v := ?_) (a' := ?_) #[true, true, true, true, true, false] rfl rfl (by kernel_rfl) (fun _ _ _ h => h) (Or.inl ⟨by rfl, ?_⟩) hHeld ?_ ?_
        rotate_left
        · intro w' s0
          go_simp
          with_reducible rfl
        rotate_left
        · simp only [Act.put, List.setIfInBounds_toArray, List.set_cons_zero, List.set_cons_succ, i64_w, i32_w]
          rfl
        refine one_ (i := 5) (N := some 30) #[true, true, true, true, true, true] rfl rfl (by kernel_rfl) (by decide) (fun K hK => ?_)
        refine goes_ Try.func47 (by kernel_rfl) rfl #[.agg #[.slice A0_0 l0_0.length c0_0], .int .u64 (rd l1_0 x20_1), xwin (.slice Ao24 x5_1.length co24) x20_1 (x5_1.length : Int)] (by rfl) rfl rfl (by (try simp only [List.map_toArray, List.map_cons, List.map_nil]); first | done | rfl | (simp only [List.length_drop, List.length_take]; rfl)) ?_
        with_reducible refine (nat_Nat_rowW.calls k1 _ _ l0_0 (rd l1_0 x20_1) (fun k_ => some k_ = (.slice Ao24 x5_1.length co24 : Value).ownBlock) (.slice Ao24 x5_1.length co24) x5_1 x20_1 (x5_1.length : Int) t325 w _ ?side1 ?side2 ?side3 ?side4 A22.out).mono ?_
        (case side1 => repeat (first | (with_reducible first | exact HB.out | apply below_alloc | apply pw_below_drewN | apply below_drew1 | refine below_set ?_ GE318.out | refine below_set ?_ GE319.out | refine below_set ?_ GE320.out) | exact HB.out))
        (case side2 => exact Kd.C_kept_came (Kd.heap_int .u64) HR0_0.out (by repeat (first | (with_reducible first | exact HB.out | apply below_alloc | apply pw_below_drewN | apply below_drew1 | refine below_set ?_ GE318.out | refine below_set ?_ GE319.out | refine below_set ?_ GE320.out) | exact HB.out)) (fun k_ hs_ => (fun e_ => Kd.R_base HO_5.out k_ e_.symm) hs_))
        (case side3 => exact HC0_0.out)
        (case side4 => exact Kd.R_tight rfl HO_5.out)
        rintro e w26 ⟨rfl, hy0, hb, hkp⟩
        refine ⟨_, rfl, ?_⟩
        have n0_ := Aside0.mk (Kd.R_reok rfl hy0 (fun k_ e_ => HO_5.out.1 k_ e_))
        have n1_ := Aside0.mk (blk_kept (by (with_reducible repeat (first | refine blk_drewN ?_ _ | refine blk_drew ?_ | refine blk_alloc ?_ _)); exact BK318.out) hkp (fun hs_ => (fun e_ => (Kd.R_ne HO_5.out BK318.out (by decide)) e_) hs_))
        have n2_ := Aside0.mk (blk_kept (by (with_reducible repeat (first | refine blk_drewN ?_ _ | refine blk_drew ?_ | refine blk_alloc ?_ _)); exact BK319.out) hkp (fun hs_ => (fun e_ => (Kd.R_ne HO_5.out BK319.out (by decide)) e_) hs_))
        have n3_ := Aside0.mk (blk_kept (by (with_reducible repeat (first | refine blk_drewN ?_ _ | refine blk_drew ?_ | refine blk_alloc ?_ _)); exact BK320.out) hkp (fun hs_ => (fun e_ => (Kd.R_ne HO_5.out BK320.out (by decide)) e_) hs_))
        have n4_ := Aside0.mk (hb)
        clear HO_5
        clear BK318
        clear BK319
        clear BK320
        clear HB
        have HO_5 := n0_
        have BK318 := n1_
        have BK319 := n2_
        have BK320 := n3_
        have HB := n4_
        clear n0_ n1_ n2_ n3_ n4_
        (try clear hb)
        (try clear hkp)
        (try clear hy0)
        refine hK.out _ _ ((blk_cell BK318.out 0).trans rfl) (fun hHeld => ?_)
        clear hK K
        refine norm_ (a' := ?_) ?_ ?_
        rotate_left
        · show Act.put _ (some 30) _ = _
          simp only [Act.put, List.setIfInBounds_toArray, List.set_cons_zero, List.set_cons_succ, i64_w, i32_w]
          rfl
        refine done_ (by kernel_rfl) ?_
        try go_wp2
        go_roundg k1
        case measure => have := HK1.out; omega
        case rel => exact ⟨(t325), (wrap64 (x20_1 + 1)), (by first | rfl | (simp; done) | (simp [*]; done)), H', ⟨by have := HK1.out; omega⟩, ⟨by (with_reducible repeat (first | apply Kd.R_alloc | apply Kd.R_drewN | apply Kd.R_drew)); exact HO_5.out⟩, ⟨by (with_reducible repeat (first | refine blk_drewN ?_ _ | refine blk_drew ?_ | refine blk_alloc ?_ _)); exact BK318.out⟩, ⟨by (with_reducible repeat (first | refine blk_drewN ?_ _ | refine blk_drew ?_ | refine blk_alloc ?_ _)); exact BK319.out⟩, ⟨by (with_reducible repeat (first | refine blk_drewN ?_ _ | refine blk_drew ?_ | refine blk_alloc ?_ _)); exact BK320.out⟩, ⟨by repeat (first | (with_reducible first | exact HB.out | apply below_alloc | apply pw_below_drewN | apply below_drew1 | refine below_set ?_ GE318.out | refine below_set ?_ GE319.out | refine below_set ?_ GE320.out) | exact HB.out)⟩⟩
      · rw [if_neg c17] at H
        have c17b0 : decide (x20_1 < (l1_0.length : Int)) = false := decide_eq_false c17
        clear c17
        replace H := Option.bind_eq_some_iff.mp H
        obtain ⟨t326, A270, H⟩ := H
        replace H : (some t326) = some r := H
        have A27 := Aside0.mk A270
        clear A270
        obtain rfl := Option.some.inj H
        obtain ⟨Ao28, co28, eo28⟩ := Kd.R_slice HO_5.out
        subst eo28
        go_wp2_with (first | ((with_reducible refine gate_callee (f := 42) rfl ?_); refine goesL_ (some 33) rfl rfl Try.func42 (by kernel_rfl) rfl #[.slice Ao28 x5_1.length co28] rfl (by (try simp only [List.map_toArray, List.map_cons, List.map_nil]); first | done | rfl | (simp only [List.length_drop, List.length_take]; rfl)) ?_; (with_reducible refine (nat_trimmed.calls k1 (fun k_ => some k_ = (.slice Ao28 x5_1.length co28 : Value).ownBlock) _ _ x5_1 t326 _ ?side1 A27.out).mono ?_); (case side1 => exact Kd.R_V (Kd.R_tight rfl (Kd.R_types (Kd.R_types (Kd.R_types (HO_5.out) BK318.out (by decide)) BK319.out (by decide)) BK320.out (by decide)))); rintro e w29 ⟨v327, rfl, ho0, hb⟩; refine ⟨_, rfl, ?_⟩; have n0_ := Aside0.mk (rb HO_5.out hb); have n1_ := Aside0.mk (Kd.V_lower (Kd.V_mono (ok' := fun k_ => (w.heap.size ≤ k_) ∧ k_ ≠ gb318 ∧ k_ ≠ gb319 ∧ k_ ≠ gb320) ho0 (fun k_ hk_ => ⟨Or.elim hk_ (fun hs_ => ((Kd.R_types (Kd.R_types (Kd.R_types (HO_5.out) BK318.out (by decide)) BK319.out (by decide)) BK320.out (by decide)).1 k_ hs_.symm).1.1.1) (fun hn_ => (Nat.le_trans (bz HB.out) hn_)), Or.elim hk_ (fun hs_ => ((Kd.R_types (Kd.R_types (Kd.R_types (HO_5.out) BK318.out (by decide)) BK319.out (by decide)) BK320.out (by decide)).1 k_ hs_.symm).1.1.2) (fun hn_ => (fb BK318.out k_ hn_)), Or.elim hk_ (fun hs_ => ((Kd.R_types (Kd.R_types (Kd.R_types (HO_5.out) BK318.out (by decide)) BK319.out (by decide)) BK320.out (by decide)).1 k_ hs_.symm).1.2) (fun hn_ => (fb BK319.out k_ hn_)), Or.elim hk_ (fun hs_ => ((Kd.R_types (Kd.R_types (Kd.R_types (HO_5.out) BK318.out (by decide)) BK319.out (by decide)) BK320.out (by decide)).1 k_ hs_.symm).2) (fun hn_ => (fb BK320.out k_ hn_))⟩)) (bz HB.out)); have n2_ := Aside0.mk (bb BK318.out hb); have n3_ := Aside0.mk (bb BK319.out hb); have n4_ := Aside0.mk (bb BK320.out hb); have n5_ := Aside0.mk (bs HB.out hb); clear HO_5; clear BK318; clear BK319; clear BK320; clear HB; have HO_5 := n0_; have HO328 := n1_; have BK318 := n2_; have BK319 := n3_; have BK320 := n4_; have HB := n5_; clear n0_ n1_ n2_ n3_ n4_ n5_; (try clear hb); (try clear hb2); (try clear hk); (try clear hi); (try clear ho0); obtain ⟨Ao30, co30, eo30⟩ := Kd.V_slice HO328.out; subst eo30; have hnb31 := NB320_318.out; have hnc31 := NB318_320.out; have hnb32 := NB320_319.out; have hnc32 := NB319_320.out; have hcz33_0 : w29.cell? ⟨gb320, 0, none⟩ = some (.slice none 0 0) := (blk_cell BK320.out 0).trans rfl; have hfz33_0 := blk_frozen BK320.out 0))
        refine bodyPost_ret (results_cell_row rfl _ _ gb320 25 #[.slice Ao30 t326.length co30] (0, 0) _ rfl (by (with_reducible repeat (first | refine blk_drewN ?_ _ | refine blk_drew ?_ | refine blk_alloc ?_ _)); refine blk_put (cs := #[.slice none 0 0]) ?_ 0 _ rfl; (with_reducible repeat (first | refine blk_drewN ?_ _ | refine blk_drew ?_ | refine blk_alloc ?_ _)); exact BK320.out) Try.underlying25 rfl (by kernel_rfl)) rfl ?_
        exact ⟨_, by first | rfl | (simp [errW_none, errW_some] <;> rfl) | (simp only [← hji3]; first | rfl | (simp [errW_none, errW_some] <;> rfl)) | (simp [*, errW_none, errW_some] <;> rfl), by (with_reducible repeat (first | apply Kd.V_alloc | apply Kd.V_drewN | apply Kd.V_drew)); exact Kd.V_mono (Kd.V_far (p := ⟨gb320, 0, none⟩) (Kd.V_mono HO328.out (fun k_ hk => (⟨hk, hk.2.2.2⟩ : _ ∧ k_ ≠ gb320))) (fun _ hk => hk.2) (.slice Ao30 t326.length co30)) (fun _ hk => hk.1.1), by repeat (first | (with_reducible first | exact HB.out | apply below_alloc | apply pw_below_drewN | apply below_drew1 | refine below_set ?_ GE318.out | refine below_set ?_ GE319.out | refine below_set ?_ GE320.out) | exact HB.out)⟩
end Go.Proofs.Ytebjbmgfbejapaa.F
