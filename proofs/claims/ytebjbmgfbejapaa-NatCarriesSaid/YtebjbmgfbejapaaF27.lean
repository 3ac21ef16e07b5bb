-- Written by this session's printer (wip/tools), out of the translation's own print. Lean checks it.
import Derived.Test.YtebjbmgfbejapaaF0
import Derived.Test.YtebjbmgfbejapaaF26
namespace Go.Proofs.Ytebjbmgfbejapaa.F
open Go.RowKit Go.Proofs.YtebjbmgfbejapaaW.PrintWords Go.Proofs.YtebjbmgfbejapaaW.PrintLast Go.Proofs.YtebjbmgfbejapaaW.PrintMore Go.Proofs.YtebjbmgfbejapaaX
attribute [local go_sem] max2_int cell_some xrun_add64 xrun_sub64
attribute [local go_sem] max2_int min2_int max_two min_two max_three min_three max_four min_four   -- for this text's walks alone
set_option linter.unusedVariables false
set_option linter.unusedSimpArgs false

/-! ### nat_Nat_row: function 47 -/
def nat_Nat_row.l0 : Nat → Int → List Int → Int → List Int → Int → Int → List Int → Option (List Int)
  | 0, _, _, _, _, _, _, _ => none
  | k + 1, x1, x2, x6, x13, x14, x15, x311000 => if x15 < x14 then (if 0 ≤ x15 then (if x15 < (x13.length : Int) then ((bits_Mul64.f x1 (rd x13 x15)).bind fun bt312 => (if x15 < (x2.length : Int) then (nat_Nat_row.l0 k x1 (x2.set (x15 : Int).toNat (add64s (rd x2 x15) (add64s bt312.2 x6 0) 0)) (IntKind.u64.wrap ((IntKind.u64.wrap (bt312.1 + (add64c bt312.2 x6 0))) + (add64c (rd x2 x15) (add64s bt312.2 x6 0) 0))) x13 x14 (wrap64 (x15 + 1)) x311000) else (none))) else (none)) else (none)) else (if 0 ≤ (x311000.length : Int) then (if (x311000.length : Int) < (x2.length : Int) then (some (x2.set ((x311000.length : Int) : Int).toNat (IntKind.u64.wrap ((rd x2 (x311000.length : Int)) + x6)))) else (none)) else (none))
def nat_Nat_row.f (k : Nat) (l0_0 : List Int) (a1 : Int) (l2 : List Int) : Option (List Int) := nat_Nat_row.l0 k a1 l2 0 l0_0 (l0_0.length : Int) 0 l0_0
theorem nat_Nat_row.mono_l : ∀ k, (∀ y0 y1 y2 y3 y4 y5 y6, LeO (nat_Nat_row.l0 k y0 y1 y2 y3 y4 y5 y6) (nat_Nat_row.l0 (k + 1) y0 y1 y2 y3 y4 y5 y6))
  | 0 => fun _ _ _ _ _ _ _ r h => by simp [nat_Nat_row.l0] at h
  | k + 1 => by
    have ih0 := nat_Nat_row.mono_l k
    · intro y0 y1 y2 y3 y4 y5 y6
      unfold nat_Nat_row.l0
      repeat' first
      | (with_reducible exact ih0 _ _ _ _ _ _ _)
      | (with_reducible exact LeO.refl _)
      | (with_reducible exact LeO.none _)
      | (with_reducible refine LeO.ite ?_ ?_)
      | (with_reducible refine LeO.bind ?_ (fun _ => ?_))
      | exact ih0 _ _ _ _ _ _ _
      | exact LeO.none _
      | refine LeO.ite ?_ ?_
      | refine LeO.bind ?_ (fun _ => ?_)
theorem nat_Nat_row.mono : ∀ a0 a1 a2 k, LeO (nat_Nat_row.f k a0 a1 a2) (nat_Nat_row.f (k + 1) a0 a1 a2) := by
  intro a0 a1 a2 k
  have ih0 := nat_Nat_row.mono_l k
  unfold nat_Nat_row.f
  repeat' first
      | (with_reducible exact ih0 _ _ _ _ _ _ _)
      | (with_reducible exact LeO.refl _)
      | (with_reducible exact LeO.none _)
      | (with_reducible refine LeO.ite ?_ ?_)
      | (with_reducible refine LeO.bind ?_ (fun _ => ?_))
      | exact ih0 _ _ _ _ _ _ _
      | exact LeO.none _
      | refine LeO.ite ?_ ?_
      | refine LeO.bind ?_ (fun _ => ?_)
set_option maxHeartbeats 8000000 in
set_option maxRecDepth 100000 in
theorem nat_Nat_row.callsX (k : Nat) (D_ : XD) (A0_0 : Option Addr) (c0_0 : Nat) (l0_0 : List Int) (a1 : Int) (P2_ : Nat → Prop) (u9000_ : Value) (l2 : List Int) (r : List Int) (w0 w : World) (hB : Below w0.heap.size w0 w) (hr0_0 : ∀ W_, Kept w W_ (fun k_ => P2_ k_) → Kd.C (Kd.int .u64) W_ A0_0 l0_0.length l0_0) (hc0_0 : l0_0.length ≤ c0_0) (ho2 : XW .u64 D_ 27 w w0.heap.size P2_ u9000_ l2) (h : nat_Nat_row.f k l0_0 a1 l2 = some r) :
    Calls Try.prog 47 #[.agg #[.slice A0_0 l0_0.length c0_0], .int .u64 a1, u9000_] w fun e w' => e = .returned (.tuple #[]) ∧ XW .u64 D_ 27 w' w0.heap.size (fun k_ => (P2_ k_ ∨ w.heap.size ≤ k_)) u9000_ r ∧ Below w0.heap.size w0 w' ∧ Kept w w' (fun k_ => P2_ k_) := by
  have hu25 := Try.underlying25
  have HR0_0 := Aside0.mk hr0_0
  have HC0_0 := Aside0.mk hc0_0
  clear hr0_0 hc0_0
  have HO2 := Aside0.mk (show XW .u64 D_ 27 w w0.heap.size (fun k_ => (P2_ k_ ∨ w.heap.size ≤ k_)) u9000_ l2 from XW_mono ho2 (fun k_ hk => (.inl hk)))
  have HK := Aside0.mk (Kept.refl w (fun k_ => P2_ k_))
  have HW0 := Aside0.mk hB.size
  have HB := Aside0.mk hB
  clear hB
  have H : (nat_Nat_row.l0 k a1 l2 0 l0_0 (l0_0.length : Int) 0 l0_0) = some r := h
  clear h
  have H' := Aside0.mk H
  clear H
  go_enter Try.func47, Try.ntmps47
  go_wp2_with (first | ((with_reducible refine gate_dst (N := 3) rfl ?_); refine box_event ?hg (N := 3) ?hd (cs := #[.slice A0_0 l0_0.length c0_0]) (t := 25) ?hr ?_; (case hd => rfl); (case hg => rfl); (case hr => first | (go_simp; done) | (go_simp; rfl)); intro gb310 hg w4 hbox hb; have n0_ := Aside0.mk (XW_below (by (with_reducible repeat (first | apply XW_alloc | apply XW_drewN | apply XW_drew)); exact HO2.out) hb); have n1_ := Aside0.mk (Kept.below (S := (fun k_ => P2_ k_)) (by repeat (first | (with_reducible first | exact HK.out | apply Kept.alloc | apply Kept.drewN | apply Kept.drew) | exact HK.out)) hb); have n2_ := Aside0.mk (below_step (by repeat (first | (with_reducible first | exact HB.out | apply below_alloc | apply pw_below_drewN | apply below_drew1) | exact HB.out)) hb); have n3_ := Aside0.mk (hbox); have n4_ := Aside0.mk ((by rw [hg]; exact (by first | exact HK.out.1 | exact (show Kept w _ (fun k_ => P2_ k_) from by repeat (first | (with_reducible first | exact HK.out | apply Kept.alloc | apply Kept.drewN | apply Kept.drew) | exact HK.out)).1) : w.heap.size ≤ gb310)); have n5_ := Aside0.mk ((by rw [hg]; exact (below_size (by repeat (first | (with_reducible first | exact HB.out | apply below_alloc | apply pw_below_drewN | apply below_drew1) | exact HB.out))) : w0.heap.size ≤ gb310)); clear HO2; clear HK; clear HB; have HO2 := n0_; have HK := n1_; have HB := n2_; have BK310 := n3_; have GW310 := n4_; have GE310 := n5_; clear n0_ n1_ n2_ n3_ n4_ n5_; clear hb hbox hg; have hcz5_0 : w4.cell? ⟨gb310, 0, none⟩ = some (.slice A0_0 l0_0.length c0_0) := (blk_cell BK310.out 0).trans rfl; have hfz5_0 := blk_frozen BK310.out 0))
  go_loopg [6, 15] k (fun kq v6 v15 w' => ∃ (x2_1 : List Int) (x6_1 : Int) (x15_1 : Int), v6 = .int .u64 x6_1 ∧ v15 = .int .i64 x15_1 ∧ Aside0 (nat_Nat_row.l0 kq a1 x2_1 x6_1 l0_0 (l0_0.length : Int) x15_1 l0_0 = some r) ∧ Aside0 (kq ≤ k) ∧ Aside0 (XW .u64 D_ 27 w' w0.heap.size (fun k_ => (P2_ k_ ∨ w.heap.size ≤ k_)) u9000_ x2_1) ∧ Aside0 (w'.heap[gb310]? = some (.cells #[(.slice A0_0 l0_0.length c0_0)] 25 (0, 0))) ∧ Aside0 (Kept w w' (fun k_ => P2_ k_)) ∧ Aside0 (Below w0.heap.size w0 w'))
  case atStart => exact ⟨(l2), (0), (0), (by first | rfl | (simp; done) | (simp [*]; done)), (by first | rfl | (simp; done) | (simp [*]; done)), H', ⟨Nat.le_refl _⟩, ⟨by (with_reducible repeat (first | apply XW_alloc | apply XW_drewN | apply XW_drew)); exact HO2.out⟩, ⟨by (with_reducible repeat (first | refine blk_drewN ?_ _ | refine blk_drew ?_ | refine blk_alloc ?_ _)); exact BK310.out⟩, ⟨by repeat (first | (with_reducible first | exact HK.out | apply Kept.alloc | apply Kept.drewN | apply Kept.drew | refine Kept.setCell ?_ (.inr GW310.out) _) | exact HK.out)⟩, ⟨by repeat (first | (with_reducible first | exact HB.out | apply below_alloc | apply pw_below_drewN | apply below_drew1 | refine below_set ?_ GE310.out) | exact HB.out)⟩⟩
  case round =>
    clear H'
    try clear p2
    try clear c4
    try clear hcz5_0
    try clear hfz5_0
    obtain ⟨x2_1, x6_1, x15_1, rfl, rfl, HA, HK1, HO_2, BK310, HK, HB⟩ := hrel
    cases gk with
    | zero => exact absurd HA.out (by simp [nat_Nat_row.l0])
    | succ k1 =>
      have H := HA.out
      clear HA
      simp only [nat_Nat_row.l0] at H
      by_cases c6 : x15_1 < (l0_0.length : Int)
      · rw [if_pos c6] at H
        have c6b0 : decide (x15_1 < (l0_0.length : Int)) = true := decide_eq_true c6
        clear c6
        by_cases c7 : 0 ≤ x15_1
        rotate_left
        · rw [if_neg c7] at H
          exact absurd H (by simp)
        rw [if_pos c7] at H
        have c7b0 : decide (0 ≤ x15_1) = true := decide_eq_true c7
        clear c7
        by_cases c8 : x15_1 < (l0_0.length : Int)
        rotate_left
        · rw [if_neg c8] at H
          exact absurd H (by simp)
        rw [if_pos c8] at H
        have c8b0 : decide (x15_1 < (l0_0.length : Int)) = true := decide_eq_true c8
        clear c8
        replace H := Option.bind_eq_some_iff.mp H
        obtain ⟨⟨t312, t313⟩, A90, H⟩ := H
        replace H : (if x15_1 < (x2_1.length : Int) then (nat_Nat_row.l0 k1 a1 (x2_1.set (x15_1 : Int).toNat (add64s (rd x2_1 x15_1) (add64s t313 x6_1 0) 0)) (IntKind.u64.wrap ((IntKind.u64.wrap (t312 + (add64c t313 x6_1 0))) + (add64c (rd x2_1 x15_1) (add64s t313 x6_1 0) 0))) l0_0 (l0_0.length : Int) (wrap64 (x15_1 + 1)) l0_0) else (none)) = some r := H
        have A9 := Aside0.mk A90
        clear A90
        by_cases c10 : x15_1 < (x2_1.length : Int)
        rotate_left
        · rw [if_neg c10] at H
          exact absurd H (by simp)
        rw [if_pos c10] at H
        have c10b0 : decide (x15_1 < (x2_1.length : Int)) = true := decide_eq_true c10
        clear c10
        obtain ⟨y315, hy315⟩ : ∃ y_ : List Int, y_ = (x2_1.set (x15_1 : Int).toNat (add64s (rd x2_1 x15_1) (add64s t313 x6_1 0) 0)) := ⟨_, rfl⟩
        replace H : (nat_Nat_row.l0 k1 a1 y315 (IntKind.u64.wrap ((IntKind.u64.wrap (t312 + (add64c t313 x6_1 0))) + (add64c (rd x2_1 x15_1) (add64s t313 x6_1 0) 0))) l0_0 (l0_0.length : Int) (wrap64 (x15_1 + 1)) l0_0) = some r := by first | (rw [hy315]; with_reducible exact H) | (have H2_ := (Option.bind_some _ _).symm.trans H; rw [hy315]; with_reducible exact H2_) | (have H2_ := (Option.bind_some _ _).symm.trans H; with_reducible exact H2_) | with_reducible exact H | (rw [hy315]; exact H) | exact H
        have Ny315 := Aside0.mk hy315
        clear hy315
        have H' := Aside0.mk H
        clear H
        have p311 : 0 ≤ (x15_1 : Int) := of_decide_eq_true (by first | (with_reducible assumption) | assumption)
        have q311 : x15_1 < (l0_0.length : Int) := of_decide_eq_true (by first | (with_reducible assumption) | assumption)
        obtain ⟨ad311, e311, hx311_0⟩ := Kd.at_int (Kd.C_kept_now HR0_0.out HK.out) x15_1 p311 q311
        cases e311
        replace p311 := eq_true p311
        replace q311 := eq_true q311
        go_wp2_with (first | ((with_reducible refine gate_callee (f := 61) rfl ?_); refine goesL_ (some 23) rfl rfl Try.func61 (by kernel_rfl) rfl #[.int .u64 a1, .int .u64 (rd l0_0 x15_1)] rfl (by (try simp only [List.map_toArray, List.map_cons, List.map_nil]); first | done | rfl | (simp only [List.length_drop, List.length_take]; rfl)) ?_; (with_reducible refine (bits_Mul64.calls a1 (rd l0_0 x15_1) t312 t313 _ A9.out).mono ?_); rintro e w' ⟨rfl, ⟨nd, rfl⟩⟩; refine ⟨_, rfl, ?_⟩; (try (rw [drewN_self wr]; generalize hq_ : World.drewN wr _ = wr; have n0_ : Aside0 (XW .u64 D_ 27 wr w0.heap.size (fun k_ => (P2_ k_ ∨ w.heap.size ≤ k_)) u9000_ x2_1) := ⟨by rw [← hq_]; exact (by (with_reducible repeat (first | apply XW_alloc | apply XW_drewN | apply XW_drew)); exact HO_2.out)⟩; have n1_ : Aside0 (wr.heap[gb310]? = some (.cells #[.slice (some ad311) l0_0.length c0_0] 25 (0, 0))) := ⟨by rw [← hq_]; exact (by (with_reducible repeat (first | refine blk_drewN ?_ _ | refine blk_drew ?_ | refine blk_alloc ?_ _)); exact BK310.out)⟩; have n2_ : Aside0 (Kept w wr (fun k_ => P2_ k_)) := ⟨by rw [← hq_]; exact (by repeat (first | (with_reducible first | exact HK.out | apply Kept.alloc | apply Kept.drewN | apply Kept.drew | refine Kept.setCell ?_ (.inr GW310.out) _) | exact HK.out))⟩; have n3_ : Aside0 (Below w0.heap.size w0 wr) := ⟨by rw [← hq_]; exact (by repeat (first | (with_reducible first | exact HB.out | apply below_alloc | apply pw_below_drewN | apply below_drew1 | refine below_set ?_ GE310.out) | exact HB.out))⟩; clear HO_2 BK310 HK HB hq_; have HO_2 := n0_; have BK310 := n1_; have HK := n2_; have HB := n3_; clear n0_ n1_ n2_ n3_; have hygb310_0 : wr.cell? ⟨gb310, 0, none⟩ = some (.slice (some ad311) l0_0.length c0_0) := (blk_cell BK310.out 0).trans rfl; have hwgb310_0 := blk_frozen BK310.out 0)); obtain ⟨Ao12, co12, eo12⟩ := XW_slice HO_2.out; subst eo12; have p314 : 0 ≤ (x15_1 : Int) := of_decide_eq_true (by first | (with_reducible assumption) | assumption); have q314 : x15_1 < (x2_1.length : Int) := of_decide_eq_true (by first | (with_reducible assumption) | assumption); obtain ⟨ad314, e314, hx314_0⟩ := Kd.at_int (XW_reads' HO_2.out).2.2 x15_1 p314 q314; cases e314; replace p314 := eq_true p314; replace q314 := eq_true q314; have p11 : 0 ≤ (x15_1 : Int) := of_decide_eq_true (by first | (with_reducible assumption) | assumption); have q11 : (x15_1 : Int) < ((x2_1.length : Int) : Int) := of_decide_eq_true (by first | (with_reducible assumption) | assumption); obtain ⟨go11, co11, eo11, gb11, gl11, cl11, HG11⟩ := XW_form HO_2.out (by omega); (first | cases eo11 | (injection eo11 with ea_ en_ ec_; (first | subst ea_ | (injection ea_ with ea_; subst ea_)); subst ec_; clear en_)); have GB11 := Aside0.mk gb11; have GG11 := Aside0.mk HG11; clear gb11 gl11 HG11; have HMgo11 := Aside0.mk (show (P2_ go11 ∨ w.heap.size ≤ go11) from (HO_2.out.1 _ rfl)); (first | simp only [xw_add] at hx314_0 | skip); obtain ⟨hx11_0, hf11_0⟩ := XW_celln 0 HO_2.out (x15_1 : Int) p11 q11; replace p11 := eq_true p11; replace q11 := eq_true q11; obtain ⟨hy13_, hz13_⟩ := XW_celln 0 HO_2.out (x15_1 : Int) (of_decide_eq_true (by first | (with_reducible assumption) | assumption)) (of_decide_eq_true (by first | (with_reducible assumption) | assumption)); have HP13 := XW_putg HO_2.out (x15_1 : Int) (add64s (rd x2_1 x15_1) (add64s t313 x6_1 0) 0) (of_decide_eq_true (by first | (with_reducible assumption) | assumption)) (of_decide_eq_true (by first | (with_reducible assumption) | assumption))) | ((with_reducible refine gate_store (t := 27) (p := 46) rfl ?_); refine store_event (t := 27) (p := 46) (v := ?vo_w14) (w1 := (wr.setCell ⟨go11, D_.pre.length + (x15_1 : Int).toNat, none⟩ (.int .u64 (add64s (rd x2_1 x15_1) (add64s t313 x6_1 0) 0)))) ?hg ?ho ?hn ?hr ?_; (case ho => rfl); (case hg => rfl); (case hn => rfl); (case hr => first | (go_simp; done) | (go_simp; rfl)); intro w14 hw; have hg : wr.grownBy w14 (some go11) := (by rw [hw]; exact HP13.2); have hp_ : XW .u64 D_ 27 w14 w0.heap.size (fun k_ => (P2_ k_ ∨ w.heap.size ≤ k_)) (.slice (some ⟨go11, D_.pre.length, none⟩) x2_1.length co12) y315 := (by rw [hw, Ny315.out]; exact HP13.1); clear HP13; have n0_ := Aside0.mk (hp_); have n1_ := Aside0.mk (blk_grown (g := gb310) (o := .cells #[.slice (some ad311) l0_0.length c0_0] 25 (0, 0)) (by (with_reducible repeat (first | refine blk_drewN ?_ _ | refine blk_drew ?_ | refine blk_alloc ?_ _)); exact BK310.out) hg (XW_ne HO_2.out BK310.out (by decide))); have n2_ := Aside0.mk ((by rw [hw]; exact below_set (HB.out) GB11.out : Below w0.heap.size w0 w14)); have n3_ := Aside0.mk (Kept.of_grown (S := (fun k_ => P2_ k_)) hg (by repeat (first | (with_reducible first | exact HK.out | apply Kept.alloc | apply Kept.drewN | apply Kept.drew | refine Kept.setCell ?_ (.inr GW310.out) _) | exact HK.out)) (fun k_ e_ => (HO_2.out.1 k_ e_))); clear HO_2; clear BK310; clear HB; clear HK; have HO_2 := n0_; have BK310 := n1_; have HB := n2_; have HK := n3_; clear n0_ n1_ n2_ n3_; clear hg hw hp_))
        go_roundg k1
        case measure => have := HK1.out; omega
        case rel => exact ⟨(y315), (IntKind.u64.wrap ((IntKind.u64.wrap (t312 + (add64c t313 x6_1 0))) + (add64c (rd x2_1 x15_1) (add64s t313 x6_1 0) 0))), (wrap64 (x15_1 + 1)), (by first | rfl | (simp; done) | (simp [*]; done)), (by first | rfl | (simp; done) | (simp [*]; done)), H', ⟨by have := HK1.out; omega⟩, ⟨by (with_reducible repeat (first | apply XW_alloc | apply XW_drewN | apply XW_drew)); exact HO_2.out⟩, ⟨by (with_reducible repeat (first | refine blk_drewN ?_ _ | refine blk_drew ?_ | refine blk_alloc ?_ _)); exact BK310.out⟩, ⟨by repeat (first | (with_reducible first | exact HK.out | apply Kept.alloc | apply Kept.drewN | apply Kept.drew | refine Kept.setCell ?_ (.inr GW310.out) _) | exact HK.out)⟩, ⟨by repeat (first | (with_reducible first | exact HB.out | apply below_alloc | apply pw_below_drewN | apply below_drew1 | refine below_set ?_ GE310.out) | exact HB.out)⟩⟩
      · rw [if_neg c6] at H
        have c6b0 : decide (x15_1 < (l0_0.length : Int)) = false := decide_eq_false c6
        clear c6
        by_cases c15 : 0 ≤ (l0_0.length : Int)
        rotate_left
        · rw [if_neg c15] at H
          exact absurd H (by simp)
        rw [if_pos c15] at H
        have c15b0 : decide (0 ≤ (l0_0.length : Int)) = true := decide_eq_true c15
        have c15b1 : decide (0 ≤ l0_0.length) = true := decide_eq_true (by omega)
        clear c15
        by_cases c16 : (l0_0.length : Int) < (x2_1.length : Int)
        rotate_left
        · rw [if_neg c16] at H
          exact absurd H (by simp)
        rw [if_pos c16] at H
        have c16b0 : decide ((l0_0.length : Int) < (x2_1.length : Int)) = true := decide_eq_true c16
        have c16b1 : decide (l0_0.length < x2_1.length) = true := decide_eq_true (Int.ofNat_lt.mp c16)
        clear c16
        obtain ⟨y317, hy317⟩ : ∃ y_ : List Int, y_ = (x2_1.set ((l0_0.length : Int) : Int).toNat (IntKind.u64.wrap ((rd x2_1 (l0_0.length : Int)) + x6_1))) := ⟨_, rfl⟩
        replace H : (some y317) = some r := by first | (rw [hy317]; with_reducible exact H) | (have H2_ := (Option.bind_some _ _).symm.trans H; rw [hy317]; with_reducible exact H2_) | (have H2_ := (Option.bind_some _ _).symm.trans H; with_reducible exact H2_) | with_reducible exact H | (rw [hy317]; exact H) | exact H
        have Ny317 := Aside0.mk hy317
        clear hy317
        obtain rfl := Option.some.inj H
        have hcz18_0 : wr.cell? ⟨gb310, 0, none⟩ = some (.slice A0_0 l0_0.length c0_0) := (blk_cell BK310.out 0).trans rfl
        have hfz18_0 := blk_frozen BK310.out 0
        obtain ⟨Ao19, co19, eo19⟩ := XW_slice HO_2.out
        subst eo19
        have p316 : 0 ≤ ((l0_0.length : Int) : Int) := of_decide_eq_true (by first | (with_reducible assumption) | assumption)
        have q316 : (l0_0.length : Int) < (x2_1.length : Int) := of_decide_eq_true (by first | (with_reducible assumption) | assumption)
        obtain ⟨ad316, e316, hx316_0⟩ := Kd.at_int (XW_reads' HO_2.out).2.2 (l0_0.length : Int) p316 q316
        cases e316
        (try simp only [Go.IntWalk.toNatUp] at hx316_0)
        replace p316 := eq_true p316
        replace q316 := eq_true q316
        have p17 : 0 ≤ ((l0_0.length : Int) : Int) := of_decide_eq_true (by first | (with_reducible assumption) | assumption)
        have q17 : ((l0_0.length : Int) : Int) < ((x2_1.length : Int) : Int) := of_decide_eq_true (by first | (with_reducible assumption) | assumption)
        obtain ⟨go17, co17, eo17, gb17, gl17, cl17, HG17⟩ := XW_form HO_2.out (by omega)
        (first | cases eo17 | (injection eo17 with ea_ en_ ec_; (first | subst ea_ | (injection ea_ with ea_; subst ea_)); subst ec_; clear en_))
        have GB17 := Aside0.mk gb17
        have GG17 := Aside0.mk HG17
        clear gb17 gl17 HG17
        have HMgo17 := Aside0.mk (show (P2_ go17 ∨ w.heap.size ≤ go17) from (HO_2.out.1 _ rfl))
        (first | simp only [xw_add] at hx316_0 | skip)
        obtain ⟨hx17_0, hf17_0⟩ := XW_celln 0 HO_2.out ((l0_0.length : Int) : Int) p17 q17
        (try simp only [Int.toNat_natCast] at hx17_0)
        (try simp only [Int.toNat_natCast] at hf17_0)
        replace p17 := eq_true p17
        replace q17 := eq_true q17
        have HP20 := XW_putg HO_2.out ((l0_0.length : Int) : Int) (IntKind.u64.wrap ((rd x2_1 (l0_0.length : Int)) + x6_1)) (of_decide_eq_true (by first | (with_reducible assumption) | assumption)) (of_decide_eq_true (by first | (with_reducible assumption) | assumption))
        go_wp2_with (first | ((with_reducible refine gate_store (t := 27) (p := 59) rfl ?_); refine store_event (t := 27) (p := 59) (v := ?vo_w21) (w1 := (wr.setCell ⟨go17, D_.pre.length + ((l0_0.length : Int) : Int).toNat, none⟩ (.int .u64 (IntKind.u64.wrap ((rd x2_1 (l0_0.length : Int)) + x6_1))))) ?hg ?ho ?hn ?hr ?_; (case ho => rfl); (case hg => rfl); (case hn => rfl); (case hr => first | (go_simp; done) | (go_simp; rfl)); intro w21 hw; have hg : wr.grownBy w21 (some go17) := (by rw [hw]; exact HP20.2); have hp_ : XW .u64 D_ 27 w21 w0.heap.size (fun k_ => (P2_ k_ ∨ w.heap.size ≤ k_)) (.slice (some ⟨go17, D_.pre.length, none⟩) x2_1.length co19) y317 := (by rw [hw, Ny317.out]; exact HP20.1); clear HP20; have n0_ := Aside0.mk (hp_); have n1_ := Aside0.mk (blk_grown (g := gb310) (o := .cells #[.slice A0_0 l0_0.length c0_0] 25 (0, 0)) (by (with_reducible repeat (first | refine blk_drewN ?_ _ | refine blk_drew ?_ | refine blk_alloc ?_ _)); exact BK310.out) hg (XW_ne HO_2.out BK310.out (by decide))); have n2_ := Aside0.mk ((by rw [hw]; exact below_set (HB.out) GB17.out : Below w0.heap.size w0 w21)); have n3_ := Aside0.mk (Kept.of_grown (S := (fun k_ => P2_ k_)) hg (by repeat (first | (with_reducible first | exact HK.out | apply Kept.alloc | apply Kept.drewN | apply Kept.drew | refine Kept.setCell ?_ (.inr GW310.out) _) | exact HK.out)) (fun k_ e_ => (HO_2.out.1 k_ e_))); clear HO_2; clear BK310; clear HB; clear HK; have HO_2 := n0_; have BK310 := n1_; have HB := n2_; have HK := n3_; clear n0_ n1_ n2_ n3_; clear hg hw hp_))
        first | go_end0 | ((try simp only [Exit.inBlock, Exit.then]); refine bodyPost_ret (results_none rfl _ _ _) rfl ?_)
        exact ⟨by first | rfl | (simp [errW_none, errW_some] <;> rfl) | (simp [*, errW_none, errW_some] <;> rfl), by (with_reducible repeat (first | apply XW_alloc | apply XW_drewN | apply XW_drew)); exact HO_2.out, by repeat (first | (with_reducible first | exact HB.out | apply below_alloc | apply pw_below_drewN | apply below_drew1 | refine below_set ?_ GE310.out) | exact HB.out), by repeat (first | (with_reducible first | exact HK.out | apply Kept.alloc | apply Kept.drewN | apply Kept.drew | refine Kept.setCell ?_ (.inr GW310.out) _) | exact HK.out)⟩
/-! nat_Nat_row over a window of a row -/
def nat_Nat_rowW.f (k : Nat) (l0_0 : List Int) (a1 : Int) (l2 : List Int) (lo_ hi_ : Int) : Option (List Int) := if 0 ≤ lo_ ∧ lo_ < hi_ ∧ hi_ ≤ (l2.length : Int) then (nat_Nat_row.f k l0_0 a1 ((l2.take hi_.toNat).drop lo_.toNat)).map (fun r_ => l2.take lo_.toNat ++ r_ ++ l2.drop hi_.toNat) else none
theorem nat_Nat_rowW.mono : ∀ a0 a1 a2 a3 a4 k, LeO (nat_Nat_rowW.f k a0 a1 a2 a3 a4) (nat_Nat_rowW.f (k + 1) a0 a1 a2 a3 a4) := by
  intro a0 a1 a2 a3 a4 k
  unfold nat_Nat_rowW.f
  refine LeO.ite ?_ (LeO.none _)
  intro r hr
  obtain ⟨r', h1, h2⟩ := Option.map_eq_some_iff.mp hr
  exact Option.map_eq_some_iff.mpr ⟨r', nat_Nat_row.mono _ _ _  k r' h1, h2⟩
theorem nat_Nat_rowW.calls (k : Nat) (A0_0 : Option Addr) (c0_0 : Nat) (l0_0 : List Int) (a1 : Int) (P2_ : Nat → Prop) (u9000_ : Value) (l2 : List Int) (lo_ hi_ : Int) (r : List Int) (w0 w : World) (hB : Below w0.heap.size w0 w) (hr0_0 : ∀ W_, Kept w W_ (fun k_ => P2_ k_) → Kd.C (Kd.int .u64) W_ A0_0 l0_0.length l0_0) (hc0_0 : l0_0.length ≤ c0_0) (ho2 : Kd.R (Kd.int .u64) 27 w w0.heap.size P2_ u9000_ l2) (h : nat_Nat_rowW.f k l0_0 a1 l2 lo_ hi_ = some r) :
    Calls Try.prog 47 #[.agg #[.slice A0_0 l0_0.length c0_0], .int .u64 a1, xwin u9000_ lo_ hi_] w fun e w' => e = .returned (.tuple #[]) ∧ Kd.R (Kd.int .u64) 27 w' w0.heap.size (fun k_ => (P2_ k_ ∨ w.heap.size ≤ k_)) u9000_ r ∧ Below w0.heap.size w0 w' ∧ Kept w w' (fun k_ => P2_ k_) := by
  unfold nat_Nat_rowW.f at h
  by_cases c_ : 0 ≤ lo_ ∧ lo_ < hi_ ∧ hi_ ≤ (l2.length : Int)
  · rw [if_pos c_] at h
    obtain ⟨c1_, c2_, c3_⟩ := c_
    obtain ⟨r_, h1_, h2_⟩ := Option.map_eq_some_iff.mp h
    clear h
    subst h2_
    obtain ⟨g_, cap_, hu_, _⟩ := Kd.R_form ho2 (by omega)
    subst hu_
    have hcap_ := (Kd.R_reads' ho2).2.1
    obtain ⟨s_, hs_, hx_⟩ := XW_of_R ho2 lo_.toNat hi_.toNat (by omega) (by omega)
    subst hs_
    rw [xwin_slice]
    refine (nat_Nat_row.callsX k ⟨l2.take lo_.toNat, l2.drop hi_.toNat, cap_⟩ A0_0 c0_0 l0_0 a1 P2_ (.slice (some ⟨g_, lo_.toNat, none⟩) (hi_.toNat - lo_.toNat) (cap_ - lo_.toNat)) ((l2.take hi_.toNat).drop lo_.toNat) r_ w0 w hB hr0_0 hc0_0 (hx_ _ (by omega) (by omega)) h1_).mono ?_
    rintro e w' ⟨he_, hw_, hq_⟩
    refine ⟨he_, ?_, hq_⟩
    have hl_ : hi_.toNat - lo_.toNat = (r_).length := by
      obtain ⟨A_, c_, e_⟩ := XW_slice hw_
      injection e_
    have hr_ := XW_to_R (lo := lo_.toNat) hw_
    have hn_ : (l2.take lo_.toNat ++ r_ ++ l2.drop hi_.toNat).length = l2.length := by
      simp only [List.length_append, List.length_take, List.length_drop]
      omega
    rw [hn_] at hr_
    exact hr_
  · rw [if_neg c_] at h
    cases h

end Go.Proofs.Ytebjbmgfbejapaa.F
