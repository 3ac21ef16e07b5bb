-- Joined of: F31 F32 F40 F41 F42 F43 F44 F45 F46 F47 F48 F49
import Derived.Test.YtebjbmgfbejapaaC6faJF0
import Derived.Test.YtebjbmgfbejapaaC6faS
import Derived.Test.YtebjbmgfbejapaaC6faZ
section
namespace Go.Proofs.Ytebjbmgfbejapaa.F
open Go.RowKit Go.Proofs.YtebjbmgfbejapaaW.PrintWords Go.Proofs.YtebjbmgfbejapaaW.PrintLast Go.Proofs.YtebjbmgfbejapaaW.PrintMore Go.Proofs.YtebjbmgfbejapaaX
attribute [local go_sem] max2_int cell_some xrun_add64 xrun_sub64
attribute [local go_sem] max2_int min2_int max_two min_two max_three min_three max_four min_four
set_option linter.unusedVariables false
set_option linter.unusedSimpArgs false
def chattelref01_Sub.l0 : Nat → List Int → List Int → List Int → Int → Int → Option (List Int)
 | 0, _, _, _, _, _ => none
 | k + 1, x0, x1, x5, x6, x7 => if x7 < (x0.length : Int) then ((chattelref01_at.f x1 x7).bind fun t388 => (if 0 ≤ x7 then (if (wrap64 ((wrap64 ((rd x0 x7) - t388)) - x6)) < 0 then (if x5.length < 17592186044416 then (chattelref01_Sub.l0 k x0 x1 (x5 ++ [wrap64 ((wrap64 ((wrap64 ((rd x0 x7) - t388)) - x6)) + 10000)]) 1 (wrap64 (x7 + 1))) else (none)) else (if x5.length < 17592186044416 then (chattelref01_Sub.l0 k x0 x1 (x5 ++ [wrap64 ((wrap64 ((rd x0 x7) - t388)) - x6)]) 0 (wrap64 (x7 + 1))) else (none))) else (none))) else ((chattelref01_Trim.f k x5).bind fun t396 => (some t396))
def chattelref01_Sub.f (k : Nat) (l0 : List Int) (l1 : List Int) : Option (List Int) := chattelref01_Sub.l0 k l0 l1 ([] : List Int) 0 0
set_option maxHeartbeats 8000000 in
set_option maxRecDepth 100000 in
theorem chattelref01_Sub.calls (k : Nat) (A0 : Option Addr) (c0 : Nat) (l0 : List Int) (A1 : Option Addr) (c1 : Nat) (l1 : List Int) (r : List Int) (w : World) (hr0 : Kd.C (Kd.int .i64) w A0 l0.length l0) (hc0 : l0.length ≤ c0) (hr1 : Kd.C (Kd.int .i64) w A1 l1.length l1) (hc1 : l1.length ≤ c1) (h : chattelref01_Sub.f k l0 l1 = some r) :
  Calls Try.prog 27 #[.slice A0 l0.length c0, .slice A1 l1.length c1] w fun e w' => ∃ v0_ : Value, e = .returned (v0_) ∧ Kd.V (Kd.int .i64) 3 w' w.heap.size (fun k_ => (w.heap.size ≤ k_)) v0_ r ∧ Below w.heap.size w w' := by
 have HR0 := m0 hr0; have HC0 := m0 hc0; clear hr0 hc0; have HR1 := m0 hr1; have HC1 := m0 hc1; clear hr1 hc1; have HB := m0 (Below.refl w.heap.size w); have H : (chattelref01_Sub.l0 k l0 l1 ([] : List Int) 0 0) = some r := h; clear h; have H' := m0 H; clear H
 go_enter Try.func27, Try.ntmps27
 go_wp2
 go_loopg [5, 6, 7] k (fun kq v5 v6 v7 w' => ∃ (x5_1 : List Int) (x6_1 : Int) (x7_1 : Int), v6 = .int .i64 x6_1 ∧ v7 = .int .i64 x7_1 ∧ Aside0 (chattelref01_Sub.l0 kq l0 l1 x5_1 x6_1 x7_1 = some r) ∧ Aside0 (kq ≤ k) ∧ Aside0 (Kd.R (Kd.int .i64) 3 w' w.heap.size (fun k_ => (w.heap.size ≤ k_)) v5 x5_1) ∧ Aside0 (Below w.heap.size w w'))
 case atStart => exact ⟨(([] : List Int)), (0), (0), (by first | rfl | (simp; done) | (simp [*]; done)), (by first | rfl | (simp; done) | (simp [*]; done)), H', ⟨Nat.le_refl _⟩, ⟨by first | exact Kd.R_nil _ _ _ _ _ | exact Kd.N_nil _ _ _ _ _ | exact Kd.V_nil _ _ _ _ _ | exact Kd.Q_nil _ _ _ _ _ | exact Kd.S_nil _ _ _ _ _⟩, ⟨by repeat (first | (with_reducible first | exact HB.1 | apply below_alloc | apply pw_below_drewN | apply below_drew1) | exact HB.1)⟩⟩
 case round =>
  clear H'; (try clear c1); (try clear c2); (try clear p2); obtain ⟨x5_1, x6_1, x7_1, rfl, rfl, HA, HK1, HO_5, HB⟩ := hrel; cases gk with
  | zero => exact absurd HA.out (by simp [chattelref01_Sub.l0])
  | succ k1 =>
   have H := HA.out; clear HA; simp only [chattelref01_Sub.l0] at H
   by_cases c3 : x7_1 < (l0.length : Int)
   ·rw [if_pos c3] at H; have c3b0 : decide (x7_1 < (l0.length : Int)) = true := decide_eq_true c3; clear c3; replace H := Option.bind_eq_some_iff.mp H; obtain ⟨t388, A40, H⟩ := H; (try dsimp only at H); have A4 := m0 A40; clear A40
    by_cases c5 : 0 ≤ x7_1
    rotate_left
    ·rw [if_neg c5] at H; exact absurd H (by simp)
    rw [if_pos c5] at H; have c5b0 : decide (0 ≤ x7_1) = true := decide_eq_true c5; clear c5
    by_cases c6 : (wrap64 ((wrap64 ((rd l0 x7_1) - t388)) - x6_1)) < 0
    ·rw [if_pos c6] at H; have c6b0 : decide ((wrap64 ((wrap64 ((rd l0 x7_1) - t388)) - x6_1)) < 0) = true := decide_eq_true c6; clear c6
     by_cases c7 : x5_1.length < 17592186044416
     rotate_left
     ·rw [if_neg c7] at H; exact absurd H (by simp)
     rw [if_pos c7] at H; have LMc7 := m0 c7; clear c7; obtain ⟨y390, hy390⟩ : ∃ y_ : List Int, y_ = (x5_1 ++ [wrap64 ((wrap64 ((wrap64 ((rd l0 x7_1) - t388)) - x6_1)) + 10000)]) := ⟨_, rfl⟩; (replace H : (chattelref01_Sub.l0 k1 l0 l1 y390 1 (wrap64 (x7_1 + 1))) = some r := by first | (rw [hy390]; with_reducible exact H) | (have H2_ := (Option.bind_some _ _).symm.trans H; rw [hy390]; with_reducible exact H2_) | (have H2_ := (Option.bind_some _ _).symm.trans H; with_reducible exact H2_) | with_reducible exact H | (rw [hy390]; exact H) | exact H); have Ny390 := m0 hy390; clear hy390; have H' := m0 H; clear H
     go_wp2_with (first | ((with_reducible refine gate_callee (f := 51) rfl ?_); refine goesL_ (some 18) rfl rfl Try.func51 kr rfl #[.slice A1 l1.length c1, .int .i64 x7_1] rfl gm ?_; (with_reducible refine (chattelref01_at.calls _ _ l1 x7_1 t388 _ ?side1 ?side2 A4.1).mono ?_); (case side1 => repeat (first | exact (Kd.C_below HR1.1 HB.1) | (with_reducible refine Kd.C_alloc ?_ _) | (with_reducible refine Kd.C_drewN ?_ _) | (with_reducible refine Kd.C_drew ?_))); (case side2 => exact HC1.1); rintro e w' ⟨rfl, ⟨nd, rfl⟩⟩; refine ⟨_, rfl, ?_⟩; have p389 : 0 ≤ (x7_1 : Int) := of_decide_eq_true (by first | (with_reducible assumption) | assumption); have q389 : x7_1 < (l0.length : Int) := of_decide_eq_true (by first | (with_reducible assumption) | assumption); obtain ⟨ad389, e389, hx389_0⟩ := Kd.at_int HR0.1 x7_1 p389 q389; cases e389; replace hx389_0 := (HB.1.cell (World.block_lt_of_cell? w _ hx389_0)).trans hx389_0; replace p389 := eq_true p389; replace q389 := eq_true q389) | ((with_reducible refine gate_builtin (b := .append) (xs := #[.tmp 31, .tmp 33]) rfl ?_); at_builtin; refine Kd.R_append (Kd.int .i64) (w0 := w) w.heap.size rfl (.tmp 31) (.tmp 33) 35 3 (.int .i64 0) 8 rfl Try.underlying35 info3 rfl (by decide) (by omega) u5 x5_1 (wrap64 ((wrap64 ((wrap64 ((rd l0 x7_1) - t388)) - x6_1)) + 10000)) [.int .i64 (wrap64 ((wrap64 ((wrap64 ((rd l0 x7_1) - t388)) - x6_1)) + 10000))] (fun k_ => (w.heap.size ≤ k_)) (fun _ => False) rfl rfl ?aP (fun _ hk => hk.elim) ?aF ?aO ?aB ?aS ?aL ?_; (case aP => exact rfl); (case aB => exact (bf HB)); (case aF => exact (fun k_ hk => (Nat.le_trans (bz HB.1) hk))); (case aO => exact HO_5.out); (case aS => exact (bz HB.1)); (case aL => have := LMc7.out; omega); intro v391 w8 ho hb hg hat; rw [← Ny390.out] at ho; replace HB := m0 (hb); have a2 := m0 (ho); clear HO_5 ho hb hg hat))
     go_roundg k1
     case measure => have := HK1.out; omega
     case rel => exact ⟨(y390), (1), (wrap64 (x7_1 + 1)), (by first | rfl | (simp; done) | (simp [*]; done)), (by first | rfl | (simp; done) | (simp [*]; done)), H', ⟨by have := HK1.out; omega⟩, ⟨by (with_reducible repeat (first | apply Kd.R_alloc | apply Kd.R_drewN | apply Kd.R_drew)); exact a2.1⟩, ⟨by repeat (first | (with_reducible first | exact HB.1 | apply below_alloc | apply pw_below_drewN | apply below_drew1) | exact HB.1)⟩⟩
    ·rw [if_neg c6] at H; have c6b0 : decide ((wrap64 ((wrap64 ((rd l0 x7_1) - t388)) - x6_1)) < 0) = false := decide_eq_false c6; clear c6
     by_cases c9 : x5_1.length < 17592186044416
     rotate_left
     ·rw [if_neg c9] at H; exact absurd H (by simp)
     rw [if_pos c9] at H; have LMc9 := m0 c9; clear c9; obtain ⟨y393, hy393⟩ : ∃ y_ : List Int, y_ = (x5_1 ++ [wrap64 ((wrap64 ((rd l0 x7_1) - t388)) - x6_1)]) := ⟨_, rfl⟩; (replace H : (chattelref01_Sub.l0 k1 l0 l1 y393 0 (wrap64 (x7_1 + 1))) = some r := by first | (rw [hy393]; with_reducible exact H) | (have H2_ := (Option.bind_some _ _).symm.trans H; rw [hy393]; with_reducible exact H2_) | (have H2_ := (Option.bind_some _ _).symm.trans H; with_reducible exact H2_) | with_reducible exact H | (rw [hy393]; exact H) | exact H); have Ny393 := m0 hy393; clear hy393; have H' := m0 H; clear H
     go_wp2_with (first | ((with_reducible refine gate_callee (f := 51) rfl ?_); refine goesL_ (some 18) rfl rfl Try.func51 kr rfl #[.slice A1 l1.length c1, .int .i64 x7_1] rfl gm ?_; (with_reducible refine (chattelref01_at.calls _ _ l1 x7_1 t388 _ ?side1 ?side2 A4.1).mono ?_); (case side1 => repeat (first | exact (Kd.C_below HR1.1 HB.1) | (with_reducible refine Kd.C_alloc ?_ _) | (with_reducible refine Kd.C_drewN ?_ _) | (with_reducible refine Kd.C_drew ?_))); (case side2 => exact HC1.1); rintro e w' ⟨rfl, ⟨nd, rfl⟩⟩; refine ⟨_, rfl, ?_⟩; have p389 : 0 ≤ (x7_1 : Int) := of_decide_eq_true (by first | (with_reducible assumption) | assumption); have q389 : x7_1 < (l0.length : Int) := of_decide_eq_true (by first | (with_reducible assumption) | assumption); obtain ⟨ad389, e389, hx389_0⟩ := Kd.at_int HR0.1 x7_1 p389 q389; cases e389; replace hx389_0 := (HB.1.cell (World.block_lt_of_cell? w _ hx389_0)).trans hx389_0; replace p389 := eq_true p389; replace q389 := eq_true q389) | ((with_reducible refine gate_builtin (b := .append) (xs := #[.tmp 31, .tmp 33]) rfl ?_); at_builtin; refine Kd.R_append (Kd.int .i64) (w0 := w) w.heap.size rfl (.tmp 31) (.tmp 33) 35 3 (.int .i64 0) 8 rfl Try.underlying35 info3 rfl (by decide) (by omega) u5 x5_1 (wrap64 ((wrap64 ((rd l0 x7_1) - t388)) - x6_1)) [.int .i64 (wrap64 ((wrap64 ((rd l0 x7_1) - t388)) - x6_1))] (fun k_ => (w.heap.size ≤ k_)) (fun _ => False) rfl rfl ?aP (fun _ hk => hk.elim) ?aF ?aO ?aB ?aS ?aL ?_; (case aP => exact rfl); (case aB => exact (bf HB)); (case aF => exact (fun k_ hk => (Nat.le_trans (bz HB.1) hk))); (case aO => exact HO_5.out); (case aS => exact (bz HB.1)); (case aL => have := LMc9.out; omega); intro v394 w10 ho hb hg hat; rw [← Ny393.out] at ho; replace HB := m0 (hb); have a3 := m0 (ho); clear HO_5 ho hb hg hat))
     go_roundg k1
     case measure => have := HK1.out; omega
     case rel => exact ⟨(y393), (0), (wrap64 (x7_1 + 1)), (by first | rfl | (simp; done) | (simp [*]; done)), (by first | rfl | (simp; done) | (simp [*]; done)), H', ⟨by have := HK1.out; omega⟩, ⟨by (with_reducible repeat (first | apply Kd.R_alloc | apply Kd.R_drewN | apply Kd.R_drew)); exact a3.1⟩, ⟨by repeat (first | (with_reducible first | exact HB.1 | apply below_alloc | apply pw_below_drewN | apply below_drew1) | exact HB.1)⟩⟩
   ·rw [if_neg c3] at H; have c3b0 : decide (x7_1 < (l0.length : Int)) = false := decide_eq_false c3; clear c3; replace H := Option.bind_eq_some_iff.mp H; obtain ⟨t396, A110, H⟩ := H; (try dsimp only at H); have A11 := m0 A110; clear A110; obtain rfl := Option.some.inj H; obtain ⟨D0, K0, j0⟩ := Kd.R_slice HO_5.out; subst j0
    go_wp2_with (first | ((with_reducible refine gate_callee (f := 52) rfl ?_); refine goesL_ (some 36) rfl rfl Try.func52 kr rfl #[.slice D0 x5_1.length K0] rfl gm ?_; (with_reducible refine (chattelref01_Trim.calls k1 (fun k_ => some k_ = (.slice D0 x5_1.length K0 : Value).ownBlock) _ _ x5_1 t396 _ ?side1 A11.1).mono ?_); (case side1 => exact Kd.R_V (Kd.R_tight rfl (HO_5.out))); rintro e w13 ⟨v397, rfl, ho0, hb⟩; refine ⟨_, rfl, ?_⟩; have a4 := m0 (Kd.V_lower (Kd.V_mono (ok' := fun k_ => (w.heap.size ≤ k_)) ho0 (fun k_ hk_ => Or.elim hk_ (fun hs_ => ((HO_5.out).1 k_ hs_.symm)) (fun hn_ => (Nat.le_trans (bz HB.1) hn_)))) (bz HB.1)); replace HO_5 := ra HO_5 hb; replace HB := sa HB hb; clear hb ho0))
    go_ret
    exact ⟨_, by first | rfl | (simp [errW_none, errW_some] <;> rfl) | (simp [*, errW_none, errW_some] <;> rfl), by (with_reducible repeat (first | apply Kd.V_alloc | apply Kd.V_drewN | apply Kd.V_drew)); exact a4.1, by repeat (first | (with_reducible first | exact HB.1 | apply below_alloc | apply pw_below_drewN | apply below_drew1) | exact HB.1)⟩
def slices_Equal_int_int.l0 : Nat → List Int → List Int → Int → Int → Option (Bool)
  | 0, _, _, _, _ => none
  | k + 1, x0, x1, x12, x13 => if x13 < x12 then (if 0 ≤ x13 then (if x13 < (x0.length : Int) then (if x13 < (x1.length : Int) then (if (rd x0 x13) = (rd x1 x13) then (slices_Equal_int_int.l0 k x0 x1 x12 (wrap64 (x13 + 1))) else (some false)) else (none)) else (none)) else (none)) else (some true)
def slices_Equal_int_int.f (k : Nat) (l0 : List Int) (l1 : List Int) : Option (Bool) := if (l0.length : Int) = (l1.length : Int) then (slices_Equal_int_int.l0 k l0 l1 (l0.length : Int) 0) else (some false)
set_option maxHeartbeats 8000000 in
set_option maxRecDepth 100000 in
theorem slices_Equal_int_int.calls (k : Nat) (A0 : Option Addr) (c0 : Nat) (l0 : List Int) (A1 : Option Addr) (c1 : Nat) (l1 : List Int) (r : Bool) (w : World) (hr0 : Kd.C (Kd.int .i64) w A0 l0.length l0) (hc0 : l0.length ≤ c0) (hr1 : Kd.C (Kd.int .i64) w A1 l1.length l1) (hc1 : l1.length ≤ c1) (h : slices_Equal_int_int.f k l0 l1 = some r) :
    Calls Try.prog 53 #[.slice A0 l0.length c0, .slice A1 l1.length c1] w fun e w' => e = .returned (.bool r) ∧ Drawn0 w w' := by
  have HR0 := m0 hr0; have HC0 := m0 hc0; clear hr0 hc0; have HR1 := m0 hr1; have HC1 := m0 hc1; clear hr1 hc1; have H : (if (l0.length : Int) = (l1.length : Int) then (slices_Equal_int_int.l0 k l0 l1 (l0.length : Int) 0) else (some false)) = some r := h; clear h
  by_cases c3 : (l0.length : Int) = (l1.length : Int)
  · rw [if_pos c3] at H; have c3b0 : ((l0.length : Int) == (l1.length : Int)) = true := beq_iff_eq.mpr c3; have c3b1 : ((l0.length : Int) != (l1.length : Int)) = false := bne_eq_false_iff_eq.mpr c3; (have c3b2 : (l0.length == l1.length) = true := by first | simpa using c3 | (simp at c3 ⊢; omega)); clear c3; have H' := m0 H; clear H
    go_enter Try.func53, Try.ntmps53
    go_wp2
    repeat (go_quiet (fail); try go_wp2)
    go_loopg [13] k (fun kq v13 w' => ∃ (x13_1 : Int), v13 = .int .i64 x13_1 ∧ Aside0 (slices_Equal_int_int.l0 kq l0 l1 (l0.length : Int) x13_1 = some r) ∧ Aside0 (kq ≤ k) ∧ Drawn0 w w')
    case atStart => exact ⟨(0), (by first | rfl | (simp; done) | (simp [*]; done)), H', ⟨Nat.le_refl _⟩, by repeat (first | exact Drawn0.refl _ | apply Drawn0.step)⟩
    case round =>
      clear H'; (try clear c1); (try clear p2); (try clear c3); (try clear c3b0); (try clear c3b1); (try clear c3b2); obtain ⟨x13_1, rfl, HA, HK1, ⟨m1, rfl⟩⟩ := hrel; cases gk with
      | zero => exact absurd HA.out (by simp [slices_Equal_int_int.l0])
      | succ k1 =>
        have H := HA.out; clear HA; simp only [slices_Equal_int_int.l0] at H
        by_cases c4 : x13_1 < (l0.length : Int)
        · rw [if_pos c4] at H; have c4b0 : decide (x13_1 < (l0.length : Int)) = true := decide_eq_true c4; clear c4
          by_cases c5 : 0 ≤ x13_1
          rotate_left
          · rw [if_neg c5] at H; exact absurd H (by simp)
          rw [if_pos c5] at H; have c5b0 : decide (0 ≤ x13_1) = true := decide_eq_true c5; clear c5
          by_cases c6 : x13_1 < (l0.length : Int)
          rotate_left
          · rw [if_neg c6] at H; exact absurd H (by simp)
          rw [if_pos c6] at H; have c6b0 : decide (x13_1 < (l0.length : Int)) = true := decide_eq_true c6; clear c6
          by_cases c7 : x13_1 < (l1.length : Int)
          rotate_left
          · rw [if_neg c7] at H; exact absurd H (by simp)
          rw [if_pos c7] at H; have c7b0 : decide (x13_1 < (l1.length : Int)) = true := decide_eq_true c7; clear c7
          by_cases c8 : (rd l0 x13_1) = (rd l1 x13_1)
          · rw [if_pos c8] at H; have c8b0 : ((rd l0 x13_1) == (rd l1 x13_1)) = true := beq_iff_eq.mpr c8; have c8b1 : ((rd l0 x13_1) != (rd l1 x13_1)) = false := bne_eq_false_iff_eq.mpr c8; clear c8; have H' := m0 H; clear H; have p399 : 0 ≤ (x13_1 : Int) := of_decide_eq_true (by first | (with_reducible assumption) | assumption); have q399 : x13_1 < (l0.length : Int) := of_decide_eq_true (by first | (with_reducible assumption) | assumption); obtain ⟨ad399, e399, hx399_0⟩ := Kd.at_int HR0.1 x13_1 p399 q399; cases e399; replace p399 := eq_true p399; replace q399 := eq_true q399; have p400 : 0 ≤ (x13_1 : Int) := of_decide_eq_true (by first | (with_reducible assumption) | assumption); have q400 : x13_1 < (l1.length : Int) := of_decide_eq_true (by first | (with_reducible assumption) | assumption); obtain ⟨ad400, e400, hx400_0⟩ := Kd.at_int HR1.1 x13_1 p400 q400; cases e400; replace p400 := eq_true p400; replace q400 := eq_true q400
            go_wp2
            repeat (go_quiet (fail); try go_wp2)
            go_roundg k1
            case measure => have := HK1.out; omega
            case rel => exact ⟨(wrap64 (x13_1 + 1)), (by first | rfl | (simp; done) | (simp [*]; done)), H', ⟨by have := HK1.out; omega⟩, by repeat (first | exact Drawn0.refl _ | apply Drawn0.step)⟩
          · rw [if_neg c8] at H; have c8b0 : ((rd l0 x13_1) == (rd l1 x13_1)) = false := beq_eq_false_iff_ne.mpr c8; have c8b1 : ((rd l0 x13_1) != (rd l1 x13_1)) = true := bne_iff_ne.mpr c8; obtain rfl := Option.some.inj H; have p399 : 0 ≤ (x13_1 : Int) := of_decide_eq_true (by first | (with_reducible assumption) | assumption); have q399 : x13_1 < (l0.length : Int) := of_decide_eq_true (by first | (with_reducible assumption) | assumption); obtain ⟨ad399, e399, hx399_0⟩ := Kd.at_int HR0.1 x13_1 p399 q399; cases e399; replace p399 := eq_true p399; replace q399 := eq_true q399; have p400 : 0 ≤ (x13_1 : Int) := of_decide_eq_true (by first | (with_reducible assumption) | assumption); have q400 : x13_1 < (l1.length : Int) := of_decide_eq_true (by first | (with_reducible assumption) | assumption); obtain ⟨ad400, e400, hx400_0⟩ := Kd.at_int HR1.1 x13_1 p400 q400; cases e400; replace p400 := eq_true p400; replace q400 := eq_true q400
            go_wp2
            repeat (go_quiet (fail); try go_wp2)
            go_ret
            exact ⟨by first | rfl | (simp; done) | (simp [*]; done), by repeat (first | exact Drawn0.refl _ | apply Drawn0.step)⟩
        · rw [if_neg c4] at H; have c4b0 : decide (x13_1 < (l0.length : Int)) = false := decide_eq_false c4; clear c4; obtain rfl := Option.some.inj H
          go_wp2
          repeat (go_quiet (fail); try go_wp2)
          go_ret
          exact ⟨by first | rfl | (simp; done) | (simp [*]; done), by repeat (first | exact Drawn0.refl _ | apply Drawn0.step)⟩
  · rw [if_neg c3] at H; have c3b0 : ((l0.length : Int) == (l1.length : Int)) = false := beq_eq_false_iff_ne.mpr c3; have c3b1 : ((l0.length : Int) != (l1.length : Int)) = true := bne_iff_ne.mpr c3; (have c3b2 : (l0.length == l1.length) = false := by first | simpa using c3 | (simp at c3 ⊢; omega)); obtain rfl := Option.some.inj H
    go_enter Try.func53, Try.ntmps53
    go_wp2
    repeat (go_quiet (fail); try go_wp2)
    go_ret
    exact ⟨by first | rfl | (simp; done) | (simp [*]; done), by repeat (first | exact Drawn0.refl _ | apply Drawn0.step)⟩
def bits_LeadingZeros64.f (k : Nat) (a0 : Int) : Option (Int) := (bits_Len64.f k a0).bind fun t628 => (some (wrap64 (64 - t628)))
theorem bits_LeadingZeros64.mono : ∀ a0 k, LeO (bits_LeadingZeros64.f k a0) (bits_LeadingZeros64.f (k + 1) a0) := by
  intro a0 k; unfold bits_LeadingZeros64.f
  repeat' first
      | (with_reducible exact bits_Len64.mono _ _)
      | (with_reducible exact LeO.refl _)
      | (with_reducible exact LeO.none _)
      | (with_reducible refine LeO.ite ?_ ?_)
      | (with_reducible refine LeO.bind ?_ (fun _ => ?_))
      | exact bits_Len64.mono _ _
      | exact LeO.none _
      | refine LeO.ite ?_ ?_
      | refine LeO.bind ?_ (fun _ => ?_)
set_option maxHeartbeats 8000000 in
set_option maxRecDepth 100000 in
theorem bits_LeadingZeros64.calls (k : Nat) (a0 : Int) (r : Int) (w : World) (h : bits_LeadingZeros64.f k a0 = some r) :
    Calls Try.prog 64 #[.int .u64 a0] w fun e w' => e = .returned (.int .i64 r) ∧ Drawn0 w w' := by
  have H : ((bits_Len64.f k a0).bind fun t628 => (some (wrap64 (64 - t628)))) = some r := h; clear h; replace H := Option.bind_eq_some_iff.mp H; obtain ⟨t628, A20, H⟩ := H; replace H : (some (wrap64 (64 - t628))) = some r := H; have A2 := m0 A20; clear A20; obtain rfl := Option.some.inj H
  go_enter Try.func64, Try.ntmps64
  go_wp2_with (first | ((with_reducible refine gate_callee (f := 43) rfl ?_); refine goesL_ (some 4) rfl rfl Try.func43 kr rfl #[.int .u64 a0] rfl gm ?_; (with_reducible refine (bits_Len64.calls k a0 t628 _ A2.1).mono ?_); rintro e w' ⟨rfl, ⟨nd, rfl⟩⟩; refine ⟨_, rfl, ?_⟩))
  go_ret
  exact ⟨by first | rfl | (simp; done) | (simp [*]; done), by repeat (first | exact Drawn0.refl _ | apply Drawn0.step)⟩
end Go.Proofs.Ytebjbmgfbejapaa.F
end

section
namespace Go.Proofs.Ytebjbmgfbejapaa.F
open Go.RowKit Go.Proofs.YtebjbmgfbejapaaW.PrintWords Go.Proofs.YtebjbmgfbejapaaW.PrintLast Go.Proofs.YtebjbmgfbejapaaW.PrintMore Go.Proofs.YtebjbmgfbejapaaX
attribute [local go_sem] max2_int cell_some xrun_add64 xrun_sub64
attribute [local go_sem] max2_int min2_int max_two min_two max_three min_three max_four min_four
set_option linter.unusedVariables false
set_option linter.unusedSimpArgs false
mutual
def bits_Div64.j2 : Nat → Int → Int → Int → Int → Int → Int → Int → Int → Option (Int × Int)
 | 0, _, _, _, _, _, _, _, _ => none
 | k + 1, x2, x8, x9, x10, x11, x13, x14, x15 => if x9 = 0 then (none) else (bits_Div64.l1 k x2 x8 x9 x10 x14 x15 (IntKind.u64.wrap ((IntKind.u64.wrap ((IntKind.u64.wrap ((IntKind.u64.wrap (x11 * 4294967296)) + x13)) - (IntKind.u64.wrap (x15 * x2)))) - (IntKind.u64.wrap ((IntKind.u64.wrap (Int.tdiv (IntKind.u64.wrap ((IntKind.u64.wrap ((IntKind.u64.wrap (x11 * 4294967296)) + x13)) - (IntKind.u64.wrap (x15 * x2)))) x9)) * x9)))) (IntKind.u64.wrap ((IntKind.u64.wrap ((IntKind.u64.wrap (x11 * 4294967296)) + x13)) - (IntKind.u64.wrap (x15 * x2)))) (IntKind.u64.wrap (Int.tdiv (IntKind.u64.wrap ((IntKind.u64.wrap ((IntKind.u64.wrap (x11 * 4294967296)) + x13)) - (IntKind.u64.wrap (x15 * x2)))) x9)))
def bits_Div64.l1 : Nat → Int → Int → Int → Int → Int → Int → Int → Int → Int → Option (Int × Int)
 | 0, _, _, _, _, _, _, _, _, _ => none
 | k + 1, x2, x8, x9, x10, x14, x15, x16, x17, x18 => if x18 ≥ 4294967296 then (bits_Div64.j4 k x2 x8 x9 x10 x14 x15 x16 x17 x18 true) else (bits_Div64.j4 k x2 x8 x9 x10 x14 x15 x16 x17 x18 (decide ((IntKind.u64.wrap (x18 * x10)) > (IntKind.u64.wrap ((IntKind.u64.wrap (4294967296 * x16)) + x14)))))
def bits_Div64.j4 : Nat → Int → Int → Int → Int → Int → Int → Int → Int → Int → Bool → Option (Int × Int)
 | 0, _, _, _, _, _, _, _, _, _, _ => none
 | k + 1, x2, x8, x9, x10, x14, x15, x16, x17, x18, x113 => if x113 = true then (if (IntKind.u64.wrap (x16 + x9)) ≥ 4294967296 then (if 0 ≤ x8 then (some (IntKind.u64.wrap ((IntKind.u64.wrap (x15 * 4294967296)) + (IntKind.u64.wrap (x18 - 1))), shr .u64 (IntKind.u64.wrap ((IntKind.u64.wrap ((IntKind.u64.wrap (x17 * 4294967296)) + x14)) - (IntKind.u64.wrap ((IntKind.u64.wrap (x18 - 1)) * x2)))) x8)) else (none)) else (bits_Div64.l1 k x2 x8 x9 x10 x14 x15 (IntKind.u64.wrap (x16 + x9)) x17 (IntKind.u64.wrap (x18 - 1)))) else (if 0 ≤ x8 then (some (IntKind.u64.wrap ((IntKind.u64.wrap (x15 * 4294967296)) + x18), shr .u64 (IntKind.u64.wrap ((IntKind.u64.wrap ((IntKind.u64.wrap (x17 * 4294967296)) + x14)) - (IntKind.u64.wrap (x18 * x2)))) x8)) else (none))
def bits_Div64.l0 : Nat → Int → Int → Int → Int → Int → Int → Int → Int → Int → Option (Int × Int)
 | 0, _, _, _, _, _, _, _, _, _ => none
 | k + 1, x2, x8, x9, x10, x11, x13, x14, x15, x16 => if x15 ≥ 4294967296 then (bits_Div64.j1 k x2 x8 x9 x10 x11 x13 x14 x15 x16 true) else (bits_Div64.j1 k x2 x8 x9 x10 x11 x13 x14 x15 x16 (decide ((IntKind.u64.wrap (x15 * x10)) > (IntKind.u64.wrap ((IntKind.u64.wrap (4294967296 * x16)) + x13)))))
def bits_Div64.j1 : Nat → Int → Int → Int → Int → Int → Int → Int → Int → Int → Bool → Option (Int × Int)
 | 0, _, _, _, _, _, _, _, _, _, _ => none
 | k + 1, x2, x8, x9, x10, x11, x13, x14, x15, x16, x78 => if x78 = true then (if (IntKind.u64.wrap (x16 + x9)) ≥ 4294967296 then (bits_Div64.j2 k x2 x8 x9 x10 x11 x13 x14 (IntKind.u64.wrap (x15 - 1))) else (bits_Div64.l0 k x2 x8 x9 x10 x11 x13 x14 (IntKind.u64.wrap (x15 - 1)) (IntKind.u64.wrap (x16 + x9)))) else (bits_Div64.j2 k x2 x8 x9 x10 x11 x13 x14 x15)
end
def bits_Div64.f (k : Nat) (a0 : Int) (a1 : Int) (a2 : Int) : Option (Int × Int) := if a2 = 0 then (none) else (if a2 ≤ a0 then (none) else (if a0 = 0 then (some (IntKind.u64.wrap (Int.tdiv a1 a2), Int.tmod a1 a2)) else ((bits_LeadingZeros64.f k a2).bind fun t629 => (if 0 ≤ (IntKind.u64.wrap (t629)) then (if 0 ≤ (IntKind.u64.wrap (64 - (IntKind.u64.wrap (t629)))) then (if ((shl .u64 a2 (IntKind.u64.wrap (t629))) / 4294967296) = 0 then (none) else (bits_Div64.l0 k (shl .u64 a2 (IntKind.u64.wrap (t629))) (IntKind.u64.wrap (t629)) ((shl .u64 a2 (IntKind.u64.wrap (t629))) / 4294967296) (Go.bits .and .u64 (shl .u64 a2 (IntKind.u64.wrap (t629))) 4294967295) (Go.bits .or .u64 (shl .u64 a0 (IntKind.u64.wrap (t629))) (shr .u64 a1 (IntKind.u64.wrap (64 - (IntKind.u64.wrap (t629)))))) ((shl .u64 a1 (IntKind.u64.wrap (t629))) / 4294967296) (Go.bits .and .u64 (shl .u64 a1 (IntKind.u64.wrap (t629))) 4294967295) (IntKind.u64.wrap (Int.tdiv (Go.bits .or .u64 (shl .u64 a0 (IntKind.u64.wrap (t629))) (shr .u64 a1 (IntKind.u64.wrap (64 - (IntKind.u64.wrap (t629)))))) ((shl .u64 a2 (IntKind.u64.wrap (t629))) / 4294967296))) (IntKind.u64.wrap ((Go.bits .or .u64 (shl .u64 a0 (IntKind.u64.wrap (t629))) (shr .u64 a1 (IntKind.u64.wrap (64 - (IntKind.u64.wrap (t629)))))) - (IntKind.u64.wrap ((IntKind.u64.wrap (Int.tdiv (Go.bits .or .u64 (shl .u64 a0 (IntKind.u64.wrap (t629))) (shr .u64 a1 (IntKind.u64.wrap (64 - (IntKind.u64.wrap (t629)))))) ((shl .u64 a2 (IntKind.u64.wrap (t629))) / 4294967296))) * ((shl .u64 a2 (IntKind.u64.wrap (t629))) / 4294967296))))))) else (none)) else (none)))))
theorem bits_Div64.mono_l : ∀ k, (∀ y0 y1 y2 y3 y4 y5 y6 y7, LeO (bits_Div64.j2 k y0 y1 y2 y3 y4 y5 y6 y7) (bits_Div64.j2 (k + 1) y0 y1 y2 y3 y4 y5 y6 y7)) ∧ (∀ y0 y1 y2 y3 y4 y5 y6 y7 y8, LeO (bits_Div64.l1 k y0 y1 y2 y3 y4 y5 y6 y7 y8) (bits_Div64.l1 (k + 1) y0 y1 y2 y3 y4 y5 y6 y7 y8)) ∧ (∀ y0 y1 y2 y3 y4 y5 y6 y7 y8 y9, LeO (bits_Div64.j4 k y0 y1 y2 y3 y4 y5 y6 y7 y8 y9) (bits_Div64.j4 (k + 1) y0 y1 y2 y3 y4 y5 y6 y7 y8 y9)) ∧ (∀ y0 y1 y2 y3 y4 y5 y6 y7 y8, LeO (bits_Div64.l0 k y0 y1 y2 y3 y4 y5 y6 y7 y8) (bits_Div64.l0 (k + 1) y0 y1 y2 y3 y4 y5 y6 y7 y8)) ∧ (∀ y0 y1 y2 y3 y4 y5 y6 y7 y8 y9, LeO (bits_Div64.j1 k y0 y1 y2 y3 y4 y5 y6 y7 y8 y9) (bits_Div64.j1 (k + 1) y0 y1 y2 y3 y4 y5 y6 y7 y8 y9))
 | 0 => ⟨fun _ _ _ _ _ _ _ _ r h => by simp [bits_Div64.j2] at h, fun _ _ _ _ _ _ _ _ _ r h => by simp [bits_Div64.l1] at h, fun _ _ _ _ _ _ _ _ _ _ r h => by simp [bits_Div64.j4] at h, fun _ _ _ _ _ _ _ _ _ r h => by simp [bits_Div64.l0] at h, fun _ _ _ _ _ _ _ _ _ _ r h => by simp [bits_Div64.j1] at h⟩
 | k + 1 => by
  obtain ⟨ih0, ih1, ih2, ih3, ih4⟩ := bits_Div64.mono_l k; refine ⟨?_, ?_, ?_, ?_, ?_⟩
  ·intro y0 y1 y2 y3 y4 y5 y6 y7; unfold bits_Div64.j2
   repeat' first
   | (with_reducible exact ih0 _ _ _ _ _ _ _ _)
   | (with_reducible exact ih1 _ _ _ _ _ _ _ _ _)
   | (with_reducible exact ih2 _ _ _ _ _ _ _ _ _ _)
   | (with_reducible exact ih3 _ _ _ _ _ _ _ _ _)
   | (with_reducible exact ih4 _ _ _ _ _ _ _ _ _ _)
   | (with_reducible exact bits_LeadingZeros64.mono _ _)
   | (with_reducible exact LeO.refl _)
   | (with_reducible exact LeO.none _)
   | (with_reducible refine LeO.ite ?_ ?_)
   | (with_reducible refine LeO.bind ?_ (fun _ => ?_))
   | exact ih0 _ _ _ _ _ _ _ _
   | exact ih1 _ _ _ _ _ _ _ _ _
   | exact ih2 _ _ _ _ _ _ _ _ _ _
   | exact ih3 _ _ _ _ _ _ _ _ _
   | exact ih4 _ _ _ _ _ _ _ _ _ _
   | exact bits_LeadingZeros64.mono _ _
   | exact LeO.none _
   | refine LeO.ite ?_ ?_
   | refine LeO.bind ?_ (fun _ => ?_)
  ·intro y0 y1 y2 y3 y4 y5 y6 y7 y8; unfold bits_Div64.l1
   repeat' first
   | (with_reducible exact ih0 _ _ _ _ _ _ _ _)
   | (with_reducible exact ih1 _ _ _ _ _ _ _ _ _)
   | (with_reducible exact ih2 _ _ _ _ _ _ _ _ _ _)
   | (with_reducible exact ih3 _ _ _ _ _ _ _ _ _)
   | (with_reducible exact ih4 _ _ _ _ _ _ _ _ _ _)
   | (with_reducible exact bits_LeadingZeros64.mono _ _)
   | (with_reducible exact LeO.refl _)
   | (with_reducible exact LeO.none _)
   | (with_reducible refine LeO.ite ?_ ?_)
   | (with_reducible refine LeO.bind ?_ (fun _ => ?_))
   | exact ih0 _ _ _ _ _ _ _ _
   | exact ih1 _ _ _ _ _ _ _ _ _
   | exact ih2 _ _ _ _ _ _ _ _ _ _
   | exact ih3 _ _ _ _ _ _ _ _ _
   | exact ih4 _ _ _ _ _ _ _ _ _ _
   | exact bits_LeadingZeros64.mono _ _
   | exact LeO.none _
   | refine LeO.ite ?_ ?_
   | refine LeO.bind ?_ (fun _ => ?_)
  ·intro y0 y1 y2 y3 y4 y5 y6 y7 y8 y9; unfold bits_Div64.j4
   repeat' first
   | (with_reducible exact ih0 _ _ _ _ _ _ _ _)
   | (with_reducible exact ih1 _ _ _ _ _ _ _ _ _)
   | (with_reducible exact ih2 _ _ _ _ _ _ _ _ _ _)
   | (with_reducible exact ih3 _ _ _ _ _ _ _ _ _)
   | (with_reducible exact ih4 _ _ _ _ _ _ _ _ _ _)
   | (with_reducible exact bits_LeadingZeros64.mono _ _)
   | (with_reducible exact LeO.refl _)
   | (with_reducible exact LeO.none _)
   | (with_reducible refine LeO.ite ?_ ?_)
   | (with_reducible refine LeO.bind ?_ (fun _ => ?_))
   | exact ih0 _ _ _ _ _ _ _ _
   | exact ih1 _ _ _ _ _ _ _ _ _
   | exact ih2 _ _ _ _ _ _ _ _ _ _
   | exact ih3 _ _ _ _ _ _ _ _ _
   | exact ih4 _ _ _ _ _ _ _ _ _ _
   | exact bits_LeadingZeros64.mono _ _
   | exact LeO.none _
   | refine LeO.ite ?_ ?_
   | refine LeO.bind ?_ (fun _ => ?_)
  ·intro y0 y1 y2 y3 y4 y5 y6 y7 y8; unfold bits_Div64.l0
   repeat' first
   | (with_reducible exact ih0 _ _ _ _ _ _ _ _)
   | (with_reducible exact ih1 _ _ _ _ _ _ _ _ _)
   | (with_reducible exact ih2 _ _ _ _ _ _ _ _ _ _)
   | (with_reducible exact ih3 _ _ _ _ _ _ _ _ _)
   | (with_reducible exact ih4 _ _ _ _ _ _ _ _ _ _)
   | (with_reducible exact bits_LeadingZeros64.mono _ _)
   | (with_reducible exact LeO.refl _)
   | (with_reducible exact LeO.none _)
   | (with_reducible refine LeO.ite ?_ ?_)
   | (with_reducible refine LeO.bind ?_ (fun _ => ?_))
   | exact ih0 _ _ _ _ _ _ _ _
   | exact ih1 _ _ _ _ _ _ _ _ _
   | exact ih2 _ _ _ _ _ _ _ _ _ _
   | exact ih3 _ _ _ _ _ _ _ _ _
   | exact ih4 _ _ _ _ _ _ _ _ _ _
   | exact bits_LeadingZeros64.mono _ _
   | exact LeO.none _
   | refine LeO.ite ?_ ?_
   | refine LeO.bind ?_ (fun _ => ?_)
  ·intro y0 y1 y2 y3 y4 y5 y6 y7 y8 y9; unfold bits_Div64.j1
   repeat' first
   | (with_reducible exact ih0 _ _ _ _ _ _ _ _)
   | (with_reducible exact ih1 _ _ _ _ _ _ _ _ _)
   | (with_reducible exact ih2 _ _ _ _ _ _ _ _ _ _)
   | (with_reducible exact ih3 _ _ _ _ _ _ _ _ _)
   | (with_reducible exact ih4 _ _ _ _ _ _ _ _ _ _)
   | (with_reducible exact bits_LeadingZeros64.mono _ _)
   | (with_reducible exact LeO.refl _)
   | (with_reducible exact LeO.none _)
   | (with_reducible refine LeO.ite ?_ ?_)
   | (with_reducible refine LeO.bind ?_ (fun _ => ?_))
   | exact ih0 _ _ _ _ _ _ _ _
   | exact ih1 _ _ _ _ _ _ _ _ _
   | exact ih2 _ _ _ _ _ _ _ _ _ _
   | exact ih3 _ _ _ _ _ _ _ _ _
   | exact ih4 _ _ _ _ _ _ _ _ _ _
   | exact bits_LeadingZeros64.mono _ _
   | exact LeO.none _
   | refine LeO.ite ?_ ?_
   | refine LeO.bind ?_ (fun _ => ?_)
theorem bits_Div64.mono : ∀ a0 a1 a2 k, LeO (bits_Div64.f k a0 a1 a2) (bits_Div64.f (k + 1) a0 a1 a2) := by
 intro a0 a1 a2 k; obtain ⟨ih0, ih1, ih2, ih3, ih4⟩ := bits_Div64.mono_l k; unfold bits_Div64.f
 repeat' first
   | (with_reducible exact ih0 _ _ _ _ _ _ _ _)
   | (with_reducible exact ih1 _ _ _ _ _ _ _ _ _)
   | (with_reducible exact ih2 _ _ _ _ _ _ _ _ _ _)
   | (with_reducible exact ih3 _ _ _ _ _ _ _ _ _)
   | (with_reducible exact ih4 _ _ _ _ _ _ _ _ _ _)
   | (with_reducible exact bits_LeadingZeros64.mono _ _)
   | (with_reducible exact LeO.refl _)
   | (with_reducible exact LeO.none _)
   | (with_reducible refine LeO.ite ?_ ?_)
   | (with_reducible refine LeO.bind ?_ (fun _ => ?_))
   | exact ih0 _ _ _ _ _ _ _ _
   | exact ih1 _ _ _ _ _ _ _ _ _
   | exact ih2 _ _ _ _ _ _ _ _ _ _
   | exact ih3 _ _ _ _ _ _ _ _ _
   | exact ih4 _ _ _ _ _ _ _ _ _ _
   | exact bits_LeadingZeros64.mono _ _
   | exact LeO.none _
   | refine LeO.ite ?_ ?_
   | refine LeO.bind ?_ (fun _ => ?_)
set_option maxHeartbeats 8000000 in
set_option maxRecDepth 100000 in
theorem bits_Div64.calls (k : Nat) (a0 : Int) (a1 : Int) (a2 : Int) (r1 : Int) (r2 : Int) (w : World) (h : bits_Div64.f k a0 a1 a2 = some (r1, r2)) :
  Calls Try.prog 63 #[.int .u64 a0, .int .u64 a1, .int .u64 a2] w fun e w' => e = .returned (.tuple #[.int .u64 r1, .int .u64 r2]) ∧ Drawn0 w w' := by
 have H : (if a2 = 0 then (none) else (if a2 ≤ a0 then (none) else (if a0 = 0 then (some (IntKind.u64.wrap (Int.tdiv a1 a2), Int.tmod a1 a2)) else ((bits_LeadingZeros64.f k a2).bind fun t629 => (if 0 ≤ (IntKind.u64.wrap (t629)) then (if 0 ≤ (IntKind.u64.wrap (64 - (IntKind.u64.wrap (t629)))) then (if ((shl .u64 a2 (IntKind.u64.wrap (t629))) / 4294967296) = 0 then (none) else (bits_Div64.l0 k (shl .u64 a2 (IntKind.u64.wrap (t629))) (IntKind.u64.wrap (t629)) ((shl .u64 a2 (IntKind.u64.wrap (t629))) / 4294967296) (Go.bits .and .u64 (shl .u64 a2 (IntKind.u64.wrap (t629))) 4294967295) (Go.bits .or .u64 (shl .u64 a0 (IntKind.u64.wrap (t629))) (shr .u64 a1 (IntKind.u64.wrap (64 - (IntKind.u64.wrap (t629)))))) ((shl .u64 a1 (IntKind.u64.wrap (t629))) / 4294967296) (Go.bits .and .u64 (shl .u64 a1 (IntKind.u64.wrap (t629))) 4294967295) (IntKind.u64.wrap (Int.tdiv (Go.bits .or .u64 (shl .u64 a0 (IntKind.u64.wrap (t629))) (shr .u64 a1 (IntKind.u64.wrap (64 - (IntKind.u64.wrap (t629)))))) ((shl .u64 a2 (IntKind.u64.wrap (t629))) / 4294967296))) (IntKind.u64.wrap ((Go.bits .or .u64 (shl .u64 a0 (IntKind.u64.wrap (t629))) (shr .u64 a1 (IntKind.u64.wrap (64 - (IntKind.u64.wrap (t629)))))) - (IntKind.u64.wrap ((IntKind.u64.wrap (Int.tdiv (Go.bits .or .u64 (shl .u64 a0 (IntKind.u64.wrap (t629))) (shr .u64 a1 (IntKind.u64.wrap (64 - (IntKind.u64.wrap (t629)))))) ((shl .u64 a2 (IntKind.u64.wrap (t629))) / 4294967296))) * ((shl .u64 a2 (IntKind.u64.wrap (t629))) / 4294967296))))))) else (none)) else (none)))))) = some (r1, r2) := h; clear h
 by_cases c4 : a2 = 0
 ·rw [if_pos c4] at H; exact absurd H (by simp)
 ·rw [if_neg c4] at H; have c4b0 : (a2 == 0) = false := beq_eq_false_iff_ne.mpr c4; have c4b1 : (a2 != 0) = true := bne_iff_ne.mpr c4
  by_cases c5 : a2 ≤ a0
  ·rw [if_pos c5] at H; exact absurd H (by simp)
  ·rw [if_neg c5] at H; have c5b0 : decide (a2 ≤ a0) = false := decide_eq_false c5; clear c5
   by_cases c6 : a0 = 0
   ·rw [if_pos c6] at H; have c6b0 : (a0 == 0) = true := beq_iff_eq.mpr c6; have c6b1 : (a0 != 0) = false := bne_eq_false_iff_eq.mpr c6; clear c6; simp only [Option.some.injEq, Prod.mk.injEq] at H; obtain ⟨rfl, rfl⟩ := H
    go_enter Try.func63, Try.ntmps63
    go_wp2
    repeat (go_quiet (fail); try go_wp2)
    go_ret2
    exact ⟨by first | rfl | (simp; done) | (simp [*]; done), by repeat (first | exact Drawn0.refl _ | apply Drawn0.step)⟩
   ·rw [if_neg c6] at H; have c6b0 : (a0 == 0) = false := beq_eq_false_iff_ne.mpr c6; have c6b1 : (a0 != 0) = true := bne_iff_ne.mpr c6; replace H := Option.bind_eq_some_iff.mp H; obtain ⟨t629, A70, H⟩ := H; (try dsimp only at H); have A7 := m0 A70; clear A70; obtain ⟨ji8, hji8⟩ : ∃ j_ : Int, (IntKind.u64.wrap (t629)) = j_ := ⟨_, rfl⟩; (replace H : (if 0 ≤ (ji8) then (if 0 ≤ (IntKind.u64.wrap (64 - (ji8))) then (if ((shl .u64 a2 (ji8)) / 4294967296) = 0 then (none) else (bits_Div64.l0 k (shl .u64 a2 (ji8)) ji8 ((shl .u64 a2 (ji8)) / 4294967296) (Go.bits .and .u64 (shl .u64 a2 (ji8)) 4294967295) (Go.bits .or .u64 (shl .u64 a0 (ji8)) (shr .u64 a1 (IntKind.u64.wrap (64 - (ji8))))) ((shl .u64 a1 (ji8)) / 4294967296) (Go.bits .and .u64 (shl .u64 a1 (ji8)) 4294967295) (IntKind.u64.wrap (Int.tdiv (Go.bits .or .u64 (shl .u64 a0 (ji8)) (shr .u64 a1 (IntKind.u64.wrap (64 - (ji8))))) ((shl .u64 a2 (ji8)) / 4294967296))) (IntKind.u64.wrap ((Go.bits .or .u64 (shl .u64 a0 (ji8)) (shr .u64 a1 (IntKind.u64.wrap (64 - (ji8))))) - (IntKind.u64.wrap ((IntKind.u64.wrap (Int.tdiv (Go.bits .or .u64 (shl .u64 a0 (ji8)) (shr .u64 a1 (IntKind.u64.wrap (64 - (ji8))))) ((shl .u64 a2 (ji8)) / 4294967296))) * ((shl .u64 a2 (ji8)) / 4294967296))))))) else (none)) else (none)) = some (r1, r2) := by first | (rw [hji8] at H; exact H) | (simp only [hji8] at H ⊢; exact H)); (try rw [hji8] at A7)
    by_cases c9 : 0 ≤ (ji8)
    rotate_left
    ·rw [if_neg c9] at H; exact absurd H (by simp)
    rw [if_pos c9] at H; have c9b0 := eq_true c9; have c9b1 : decide (0 ≤ (ji8)) = true := decide_eq_true c9; clear c9; obtain ⟨ji10, hji10⟩ : ∃ j_ : Int, (shl .u64 a2 (ji8)) = j_ := ⟨_, rfl⟩; (replace H : (if 0 ≤ (IntKind.u64.wrap (64 - (ji8))) then (if ((ji10) / 4294967296) = 0 then (none) else (bits_Div64.l0 k ji10 ji8 ((ji10) / 4294967296) (Go.bits .and .u64 (ji10) 4294967295) (Go.bits .or .u64 (shl .u64 a0 (ji8)) (shr .u64 a1 (IntKind.u64.wrap (64 - (ji8))))) ((shl .u64 a1 (ji8)) / 4294967296) (Go.bits .and .u64 (shl .u64 a1 (ji8)) 4294967295) (IntKind.u64.wrap (Int.tdiv (Go.bits .or .u64 (shl .u64 a0 (ji8)) (shr .u64 a1 (IntKind.u64.wrap (64 - (ji8))))) ((ji10) / 4294967296))) (IntKind.u64.wrap ((Go.bits .or .u64 (shl .u64 a0 (ji8)) (shr .u64 a1 (IntKind.u64.wrap (64 - (ji8))))) - (IntKind.u64.wrap ((IntKind.u64.wrap (Int.tdiv (Go.bits .or .u64 (shl .u64 a0 (ji8)) (shr .u64 a1 (IntKind.u64.wrap (64 - (ji8))))) ((ji10) / 4294967296))) * ((ji10) / 4294967296))))))) else (none)) = some (r1, r2) := by first | (rw [hji10] at H; exact H) | (simp only [hji10] at H ⊢; exact H)); (try rw [hji10] at A7); have hji10_ : (IntKind.u64.wrap (a2 * 2 ^ min (ji8).toNat 64)) = ji10 := hji10; have hji10z : (ji8) ≤ 64 → (IntKind.u64.wrap (a2 * 2 ^ (ji8).toNat)) = ji10 := shl_small hji10; have c11b0 := eq_true (of_decide_eq_true (by first | (with_reducible assumption) | assumption) : 0 ≤ (ji8)); obtain ⟨ji12, hji12⟩ : ∃ j_ : Int, (shl .u64 a0 (ji8)) = j_ := ⟨_, rfl⟩; (replace H : (if 0 ≤ (IntKind.u64.wrap (64 - (ji8))) then (if ((ji10) / 4294967296) = 0 then (none) else (bits_Div64.l0 k ji10 ji8 ((ji10) / 4294967296) (Go.bits .and .u64 (ji10) 4294967295) (Go.bits .or .u64 (ji12) (shr .u64 a1 (IntKind.u64.wrap (64 - (ji8))))) ((shl .u64 a1 (ji8)) / 4294967296) (Go.bits .and .u64 (shl .u64 a1 (ji8)) 4294967295) (IntKind.u64.wrap (Int.tdiv (Go.bits .or .u64 (ji12) (shr .u64 a1 (IntKind.u64.wrap (64 - (ji8))))) ((ji10) / 4294967296))) (IntKind.u64.wrap ((Go.bits .or .u64 (ji12) (shr .u64 a1 (IntKind.u64.wrap (64 - (ji8))))) - (IntKind.u64.wrap ((IntKind.u64.wrap (Int.tdiv (Go.bits .or .u64 (ji12) (shr .u64 a1 (IntKind.u64.wrap (64 - (ji8))))) ((ji10) / 4294967296))) * ((ji10) / 4294967296))))))) else (none)) = some (r1, r2) := by first | (rw [hji12] at H; exact H) | (simp only [hji12] at H ⊢; exact H)); (try rw [hji12] at A7); have hji12_ : (IntKind.u64.wrap (a0 * 2 ^ min (ji8).toNat 64)) = ji12 := hji12; have hji12z : (ji8) ≤ 64 → (IntKind.u64.wrap (a0 * 2 ^ (ji8).toNat)) = ji12 := shl_small hji12; obtain ⟨ji13, hji13⟩ : ∃ j_ : Int, (IntKind.u64.wrap (64 - (ji8))) = j_ := ⟨_, rfl⟩; (replace H : (if 0 ≤ (ji13) then (if ((ji10) / 4294967296) = 0 then (none) else (bits_Div64.l0 k ji10 ji8 ((ji10) / 4294967296) (Go.bits .and .u64 (ji10) 4294967295) (Go.bits .or .u64 (ji12) (shr .u64 a1 (ji13))) ((shl .u64 a1 (ji8)) / 4294967296) (Go.bits .and .u64 (shl .u64 a1 (ji8)) 4294967295) (IntKind.u64.wrap (Int.tdiv (Go.bits .or .u64 (ji12) (shr .u64 a1 (ji13))) ((ji10) / 4294967296))) (IntKind.u64.wrap ((Go.bits .or .u64 (ji12) (shr .u64 a1 (ji13))) - (IntKind.u64.wrap ((IntKind.u64.wrap (Int.tdiv (Go.bits .or .u64 (ji12) (shr .u64 a1 (ji13))) ((ji10) / 4294967296))) * ((ji10) / 4294967296))))))) else (none)) = some (r1, r2) := by first | (rw [hji13] at H; exact H) | (simp only [hji13] at H ⊢; exact H)); (try rw [hji13] at A7)
    by_cases c14 : 0 ≤ (ji13)
    rotate_left
    ·rw [if_neg c14] at H; exact absurd H (by simp)
    rw [if_pos c14] at H; have c14b0 := eq_true c14; have c14b1 : decide (0 ≤ (ji13)) = true := decide_eq_true c14; clear c14; obtain ⟨ji15, hji15⟩ : ∃ j_ : Int, (shr .u64 a1 (ji13)) = j_ := ⟨_, rfl⟩; (replace H : (if ((ji10) / 4294967296) = 0 then (none) else (bits_Div64.l0 k ji10 ji8 ((ji10) / 4294967296) (Go.bits .and .u64 (ji10) 4294967295) (Go.bits .or .u64 (ji12) (ji15)) ((shl .u64 a1 (ji8)) / 4294967296) (Go.bits .and .u64 (shl .u64 a1 (ji8)) 4294967295) (IntKind.u64.wrap (Int.tdiv (Go.bits .or .u64 (ji12) (ji15)) ((ji10) / 4294967296))) (IntKind.u64.wrap ((Go.bits .or .u64 (ji12) (ji15)) - (IntKind.u64.wrap ((IntKind.u64.wrap (Int.tdiv (Go.bits .or .u64 (ji12) (ji15)) ((ji10) / 4294967296))) * ((ji10) / 4294967296))))))) = some (r1, r2) := by first | (rw [hji15] at H; exact H) | (simp only [hji15] at H ⊢; exact H)); (try rw [hji15] at A7); have hji15_ : (a1 / 2 ^ min (ji13).toNat 64) = ji15 := hji15; have hji15z : (ji13) ≤ 64 → (a1 / 2 ^ (ji13).toNat) = ji15 := shr_small hji15; have c16b0 := eq_true (of_decide_eq_true (by first | (with_reducible assumption) | assumption) : 0 ≤ (ji8)); obtain ⟨ji17, hji17⟩ : ∃ j_ : Int, (shl .u64 a1 (ji8)) = j_ := ⟨_, rfl⟩; (replace H : (if ((ji10) / 4294967296) = 0 then (none) else (bits_Div64.l0 k ji10 ji8 ((ji10) / 4294967296) (Go.bits .and .u64 (ji10) 4294967295) (Go.bits .or .u64 (ji12) (ji15)) ((ji17) / 4294967296) (Go.bits .and .u64 (ji17) 4294967295) (IntKind.u64.wrap (Int.tdiv (Go.bits .or .u64 (ji12) (ji15)) ((ji10) / 4294967296))) (IntKind.u64.wrap ((Go.bits .or .u64 (ji12) (ji15)) - (IntKind.u64.wrap ((IntKind.u64.wrap (Int.tdiv (Go.bits .or .u64 (ji12) (ji15)) ((ji10) / 4294967296))) * ((ji10) / 4294967296))))))) = some (r1, r2) := by first | (rw [hji17] at H; exact H) | (simp only [hji17] at H ⊢; exact H)); (try rw [hji17] at A7); have hji17_ : (IntKind.u64.wrap (a1 * 2 ^ min (ji8).toNat 64)) = ji17 := hji17; have hji17z : (ji8) ≤ 64 → (IntKind.u64.wrap (a1 * 2 ^ (ji8).toNat)) = ji17 := shl_small hji17
    by_cases c18 : ((ji10) / 4294967296) = 0
    ·rw [if_pos c18] at H; exact absurd H (by simp)
    ·rw [if_neg c18] at H; have c18b0 : (((ji10) / 4294967296) == 0) = false := beq_eq_false_iff_ne.mpr c18; have c18b1 : (((ji10) / 4294967296) != 0) = true := bne_iff_ne.mpr c18; have HC19 := m0 H; clear H
     go_enter Try.func63, Try.ntmps63
     go_upto_block 0 with (first | (go_at_call 64; (with_reducible refine (bits_LeadingZeros64.calls k a2 t629 _ A7.1).mono ?_); rintro e w' ⟨rfl, ⟨nd, rfl⟩⟩; (try first | exact ⟨rfl, _, World.drewN_drewN _ _ _⟩ | exact ⟨rfl, _, Eq.trans (World.drewN_drewN _ _ _) (congrArg (World.drewN _) (Nat.add_assoc _ _ _))⟩)))
     repeat (go_quiet (first | (go_at_call 64; (with_reducible refine (bits_LeadingZeros64.calls k a2 t629 _ A7.1).mono ?_); rintro e w' ⟨rfl, ⟨nd, rfl⟩⟩; (try first | exact ⟨rfl, _, World.drewN_drewN _ _ _⟩ | exact ⟨rfl, _, Eq.trans (World.drewN_drewN _ _ _) (congrArg (World.drewN _) (Nat.add_assoc _ _ _))⟩))); go_upto_block 0 with (first | (go_at_call 64; (with_reducible refine (bits_LeadingZeros64.calls k a2 t629 _ A7.1).mono ?_); rintro e w' ⟨rfl, ⟨nd, rfl⟩⟩; (try first | exact ⟨rfl, _, World.drewN_drewN _ _ _⟩ | exact ⟨rfl, _, Eq.trans (World.drewN_drewN _ _ _) (congrArg (World.drewN _) (Nat.add_assoc _ _ _))⟩))))
     (try simp only [Act.put, sA, sB, sC])
     go_cut [15] (fun v15 wc => ∃ (kq : Nat) (x15_18 : Int), v15 = .int .u64 x15_18 ∧ Aside0 (bits_Div64.j2 kq ji10 ji8 ((ji10) / 4294967296) (Go.bits .and .u64 (ji10) 4294967295) (Go.bits .or .u64 (ji12) (ji15)) ((ji17) / 4294967296) (Go.bits .and .u64 (ji17) 4294967295) x15_18 = some (r1, r2)) ∧ Aside0 (kq ≤ k) ∧ Drawn0 w wc)
     case first =>
      have H := HC19.1; clear HC19; have H' := m0 H; clear H
      go_wp2
      repeat (go_quiet (fail); try go_wp2)
      go_loopg [15, 16] k (fun kq v15 v16 w' => ∃ (x15_1 : Int) (x16_1 : Int), v15 = .int .u64 x15_1 ∧ v16 = .int .u64 x16_1 ∧ Aside0 (bits_Div64.l0 kq ji10 ji8 ((ji10) / 4294967296) (Go.bits .and .u64 (ji10) 4294967295) (Go.bits .or .u64 (ji12) (ji15)) ((ji17) / 4294967296) (Go.bits .and .u64 (ji17) 4294967295) x15_1 x16_1 = some (r1, r2)) ∧ Aside0 (kq ≤ k) ∧ Drawn0 w w')
      case atStart => exact ⟨(IntKind.u64.wrap (Int.tdiv (Go.bits .or .u64 (ji12) (ji15)) ((ji10) / 4294967296))), (IntKind.u64.wrap ((Go.bits .or .u64 (ji12) (ji15)) - (IntKind.u64.wrap ((IntKind.u64.wrap (Int.tdiv (Go.bits .or .u64 (ji12) (ji15)) ((ji10) / 4294967296))) * ((ji10) / 4294967296))))), (by first | rfl | (simp; done) | (simp only [← hji10, ← hji12, ← hji15] <;> (first | rfl | simp)) | (simp [*]; done)), (by first | rfl | (simp; done) | (simp only [← hji10, ← hji12, ← hji15] <;> (first | rfl | simp)) | (simp [*]; done)), H', ⟨Nat.le_refl _⟩, by repeat (first | exact Drawn0.refl _ | apply Drawn0.step)⟩
      case round =>
       clear H'; (try clear c1); (try clear p2); (try clear c4); (try clear c4b0); (try clear c4b1); (try clear c5); (try clear c5b0); (try clear c6); (try clear c6b0); (try clear c6b1); (try clear c9); (try clear c9b0); (try clear c9b1); (try clear c11); (try clear c11b0); (try clear c14); (try clear c14b0); (try clear c14b1); (try clear c16); (try clear c16b0); (try clear c18); (try clear c18b0); (try clear c18b1); obtain ⟨x15_1, x16_1, rfl, rfl, HA, HK1, ⟨m1, rfl⟩⟩ := hrel; cases gk with
       | zero => exact absurd HA.out (by simp [bits_Div64.l0])
       | succ k1 =>
        have H := HA.out; clear HA; simp only [bits_Div64.l0] at H; have HC20 := m0 H; clear H
        go_upto_region 17 with (fail)
        repeat (go_quiet (fail); go_upto_region 17 with (fail))
        go_cut [78] (fun v78 wc => ∃ (kq : Nat) (x78_19 : Bool), v78 = .bool x78_19 ∧ Aside0 (bits_Div64.j1 kq ji10 ji8 ((ji10) / 4294967296) (Go.bits .and .u64 (ji10) 4294967295) (Go.bits .or .u64 (ji12) (ji15)) ((ji17) / 4294967296) (Go.bits .and .u64 (ji17) 4294967295) x15_1 x16_1 x78_19 = some (r1, r2)) ∧ Aside0 (kq ≤ k1) ∧ Drawn0 w wc)
        case first =>
         have H := HC20.1; clear HC20
         by_cases c21 : x15_1 ≥ 4294967296
         ·rw [if_pos c21] at H; have c21b0 : decide (4294967296 ≤ x15_1) = true := decide_eq_true c21; clear c21; (first | rw [c21b0] | (simp only [i64_w, i32_w]; rw [c21b0]) | skip); have H' := m0 H; clear H
          go_wp2
          repeat (go_quiet (fail); try go_wp2)
          (refine Met.intro ?_; go_step; (repeat apply Exists.intro); refine ⟨?rel, ?frame⟩)
          case frame => first | rfl | (rw [c21b0]; first | done | rfl) | (rw [c18b1]; first | done | rfl) | (rw [c18b0]; first | done | rfl) | (rw [c14b1]; first | done | rfl) | (simp only [c4b0, c4b1, c5b0, c6b0, c6b1, c9b1, c14b1, c18b0, c18b1, c21b0]; first | done | rfl)
          case rel => exact ⟨_, (true), (by first | rfl | (simp; done) | (simp [*]; done)), H', ⟨by have := HK1.out; first | omega | exact Nat.le_refl _⟩, by repeat (first | exact Drawn0.refl _ | apply Drawn0.step)⟩
         ·rw [if_neg c21] at H; have c21b0 : decide (4294967296 ≤ x15_1) = false := decide_eq_false c21; clear c21; (first | rw [c21b0] | (simp only [i64_w, i32_w]; rw [c21b0]) | skip); have H' := m0 H; clear H
          go_wp2
          repeat (go_quiet (fail); try go_wp2)
          (refine Met.intro ?_; go_step; (repeat apply Exists.intro); refine ⟨?rel, ?frame⟩)
          case frame => first | rfl | (rw [c21b0]; first | done | rfl) | (rw [c18b1]; first | done | rfl) | (rw [c18b0]; first | done | rfl) | (rw [c14b1]; first | done | rfl) | (simp only [c4b0, c4b1, c5b0, c6b0, c6b1, c9b1, c14b1, c18b0, c18b1, c21b0]; first | done | rfl)
          case rel => exact ⟨_, (decide ((IntKind.u64.wrap (x15_1 * (Go.bits .and .u64 (ji10) 4294967295))) > (IntKind.u64.wrap ((IntKind.u64.wrap (4294967296 * x16_1)) + ((ji17) / 4294967296))))), (by first | rfl | (simp; done) | (simp only [← hji10, ← hji17] <;> (first | rfl | simp)) | (simp [*]; done)), H', ⟨by have := HK1.out; first | omega | exact Nat.le_refl _⟩, by repeat (first | exact Drawn0.refl _ | apply Drawn0.step)⟩
        case rest =>
         clear HC20; (try clear c1); (try clear c2); (try clear p2); (try clear c4); (try clear c4b0); (try clear c4b1); (try clear c5); (try clear c5b0); (try clear c6); (try clear c6b0); (try clear c6b1); (try clear c9); (try clear c9b0); (try clear c9b1); (try clear c11); (try clear c11b0); (try clear c14); (try clear c14b0); (try clear c14b1); (try clear c16); (try clear c16b0); (try clear c18); (try clear c18b0); (try clear c18b1); (try clear c21); (try clear c21b0); (try clear p2); obtain ⟨kq, x78_19, rfl, HA, HJ19, ⟨mc19, rfl⟩⟩ := hcut; cases kq with
         | zero => exact absurd HA.out (by simp [bits_Div64.j1])
         | succ kj19 =>
          have H := HA.out; clear HA; simp only [bits_Div64.j1] at H
          by_cases c22 : x78_19 = true
          ·subst c22; (have H1 : (if (IntKind.u64.wrap (x16_1 + ((ji10) / 4294967296))) ≥ 4294967296 then (bits_Div64.j2 kj19 ji10 ji8 ((ji10) / 4294967296) (Go.bits .and .u64 (ji10) 4294967295) (Go.bits .or .u64 (ji12) (ji15)) ((ji17) / 4294967296) (Go.bits .and .u64 (ji17) 4294967295) (IntKind.u64.wrap (x15_1 - 1))) else (bits_Div64.l0 kj19 ji10 ji8 ((ji10) / 4294967296) (Go.bits .and .u64 (ji10) 4294967295) (Go.bits .or .u64 (ji12) (ji15)) ((ji17) / 4294967296) (Go.bits .and .u64 (ji17) 4294967295) (IntKind.u64.wrap (x15_1 - 1)) (IntKind.u64.wrap (x16_1 + ((ji10) / 4294967296))))) = some (r1, r2) := by rw [if_pos rfl] at H; exact H); clear H; have H := H1; clear H1
           by_cases c23 : (IntKind.u64.wrap (x16_1 + ((ji10) / 4294967296))) ≥ 4294967296
           ·rw [if_pos c23] at H; have c23b0 : decide (4294967296 ≤ (IntKind.u64.wrap (x16_1 + ((ji10) / 4294967296)))) = true := decide_eq_true c23; clear c23; have H' := m0 H; clear H
            go_wp2
            repeat (go_quiet (fail); try go_wp2)
            (refine Met.intro ?_; go_step; (repeat apply Exists.intro); refine ⟨?rel, ?frame⟩)
            case frame => first | rfl | (rw [c23b0]; first | done | rfl) | (rw [c18b1]; first | done | rfl) | (rw [c18b0]; first | done | rfl) | (rw [c14b1]; first | done | rfl) | (simp only [c4b0, c4b1, c5b0, c6b0, c6b1, c9b1, c14b1, c18b0, c18b1, c23b0]; first | done | rfl)
            case rel => exact ⟨_, (IntKind.u64.wrap (x15_1 - 1)), (by first | rfl | (simp; done) | (simp [*]; done)), H', ⟨by have := HK1.out; have := HJ19.out; first | omega | exact Nat.le_refl _⟩, by repeat (first | exact Drawn0.refl _ | apply Drawn0.step)⟩
           ·rw [if_neg c23] at H; have c23b0 : decide (4294967296 ≤ (IntKind.u64.wrap (x16_1 + ((ji10) / 4294967296)))) = false := decide_eq_false c23; clear c23; have H' := m0 H; clear H
            go_wp2
            repeat (go_quiet (fail); try go_wp2)
            go_roundg kj19
            case measure => have := HK1.out; have := HJ19.out; omega
            case rel => exact ⟨(IntKind.u64.wrap (x15_1 - 1)), (IntKind.u64.wrap (x16_1 + ((ji10) / 4294967296))), (by first | rfl | (simp; done) | (simp [*]; done)), (by first | rfl | (simp; done) | (simp only [← hji10] <;> (first | rfl | simp)) | (simp [*]; done)), H', ⟨by have := HK1.out; have := HJ19.out; omega⟩, by repeat (first | exact Drawn0.refl _ | apply Drawn0.step)⟩
          ·replace c22 := Bool.eq_false_iff.mpr c22; subst c22; (have H1 : (bits_Div64.j2 kj19 ji10 ji8 ((ji10) / 4294967296) (Go.bits .and .u64 (ji10) 4294967295) (Go.bits .or .u64 (ji12) (ji15)) ((ji17) / 4294967296) (Go.bits .and .u64 (ji17) 4294967295) x15_1) = some (r1, r2) := by rw [if_neg (show ¬ (false = true) by decide)] at H; exact H); clear H; have H := H1; clear H1; have H' := m0 H; clear H
           go_wp2
           repeat (go_quiet (fail); try go_wp2)
           (refine Met.intro ?_; go_step; (repeat apply Exists.intro); refine ⟨?rel, ?frame⟩)
           case frame => first | rfl | (rw [c18b1]; first | done | rfl) | (rw [c18b0]; first | done | rfl) | (rw [c14b1]; first | done | rfl) | (rw [c9b1]; first | done | rfl) | (simp only [c4b0, c4b1, c5b0, c6b0, c6b1, c9b1, c14b1, c18b0, c18b1]; first | done | rfl)
           case rel => exact ⟨_, (x15_1), (by first | rfl | (simp; done) | (simp [*]; done)), H', ⟨by have := HK1.out; have := HJ19.out; first | omega | exact Nat.le_refl _⟩, by repeat (first | exact Drawn0.refl _ | apply Drawn0.step)⟩
     case rest =>
      clear HC19; (try clear c1); (try clear c2); (try clear p2); (try clear c4); (try clear c4b0); (try clear c4b1); (try clear c5); (try clear c5b0); (try clear c6); (try clear c6b0); (try clear c6b1); (try clear c9); (try clear c9b0); (try clear c9b1); (try clear c11); (try clear c11b0); (try clear c14); (try clear c14b0); (try clear c14b1); (try clear c16); (try clear c16b0); (try clear c18); (try clear c18b0); (try clear c18b1); (try clear c19); (try clear c21); (try clear c21b0); (try clear c22); (try clear c23); (try clear c23b0); (try clear p2); obtain ⟨kq, x15_18, rfl, HA, HJ18, ⟨mc18, rfl⟩⟩ := hcut; cases kq with
      | zero => exact absurd HA.out (by simp [bits_Div64.j2])
      | succ kj18 =>
       have H := HA.out; clear HA; simp only [bits_Div64.j2] at H
       by_cases c24 : ((ji10) / 4294967296) = 0
       ·rw [if_pos c24] at H; exact absurd H (by simp)
       ·rw [if_neg c24] at H; have c24b0 : (((ji10) / 4294967296) == 0) = false := beq_eq_false_iff_ne.mpr c24; have c24b1 : (((ji10) / 4294967296) != 0) = true := bne_iff_ne.mpr c24; have H' := m0 H; clear H
        go_wp2
        repeat (go_quiet (fail); try go_wp2)
        go_loopg [16, 18] kj18 (fun kq v16 v18 w' => ∃ (x16_2 : Int) (x18_2 : Int), v16 = .int .u64 x16_2 ∧ v18 = .int .u64 x18_2 ∧ Aside0 (bits_Div64.l1 kq ji10 ji8 ((ji10) / 4294967296) (Go.bits .and .u64 (ji10) 4294967295) (Go.bits .and .u64 (ji17) 4294967295) x15_18 x16_2 (IntKind.u64.wrap ((IntKind.u64.wrap ((IntKind.u64.wrap ((Go.bits .or .u64 (ji12) (ji15)) * 4294967296)) + ((ji17) / 4294967296))) - (IntKind.u64.wrap (x15_18 * ji10)))) x18_2 = some (r1, r2)) ∧ Aside0 (kq ≤ kj18) ∧ Drawn0 w w')
        case atStart => exact ⟨(IntKind.u64.wrap ((IntKind.u64.wrap ((IntKind.u64.wrap ((IntKind.u64.wrap ((Go.bits .or .u64 (ji12) (ji15)) * 4294967296)) + ((ji17) / 4294967296))) - (IntKind.u64.wrap (x15_18 * ji10)))) - (IntKind.u64.wrap ((IntKind.u64.wrap (Int.tdiv (IntKind.u64.wrap ((IntKind.u64.wrap ((IntKind.u64.wrap ((Go.bits .or .u64 (ji12) (ji15)) * 4294967296)) + ((ji17) / 4294967296))) - (IntKind.u64.wrap (x15_18 * ji10)))) ((ji10) / 4294967296))) * ((ji10) / 4294967296))))), (IntKind.u64.wrap (Int.tdiv (IntKind.u64.wrap ((IntKind.u64.wrap ((IntKind.u64.wrap ((Go.bits .or .u64 (ji12) (ji15)) * 4294967296)) + ((ji17) / 4294967296))) - (IntKind.u64.wrap (x15_18 * ji10)))) ((ji10) / 4294967296))), (by first | rfl | (simp; done) | (simp only [← hji10, ← hji12, ← hji15, ← hji17] <;> (first | rfl | simp)) | (simp [*]; done)), (by first | rfl | (simp; done) | (simp only [← hji10, ← hji12, ← hji15, ← hji17] <;> (first | rfl | simp)) | (simp [*]; done)), H', ⟨Nat.le_refl _⟩, by repeat (first | exact Drawn0.refl _ | apply Drawn0.step)⟩
        case round =>
         clear H'; (try clear c1); (try clear c2); (try clear p2); (try clear c4); (try clear c4b0); (try clear c4b1); (try clear c5); (try clear c5b0); (try clear c6); (try clear c6b0); (try clear c6b1); (try clear c9); (try clear c9b0); (try clear c9b1); (try clear c11); (try clear c11b0); (try clear c14); (try clear c14b0); (try clear c14b1); (try clear c16); (try clear c16b0); (try clear c18); (try clear c18b0); (try clear c18b1); (try clear c19); (try clear c21); (try clear c21b0); (try clear c22); (try clear c23); (try clear c23b0); (try clear c24); (try clear c24b0); (try clear c24b1); (try clear p2); obtain ⟨x16_2, x18_2, rfl, rfl, HA, HK2, ⟨m2, rfl⟩⟩ := hrel; cases gk with
         | zero => exact absurd HA.out (by simp [bits_Div64.l1])
         | succ k2 =>
          have H := HA.out; clear HA; simp only [bits_Div64.l1] at H; have HC25 := m0 H; clear H
          go_upto_region 24 with (fail)
          repeat (go_quiet (fail); go_upto_region 24 with (fail))
          go_cut [113] (fun v113 wc => ∃ (kq : Nat) (x113_24 : Bool), v113 = .bool x113_24 ∧ Aside0 (bits_Div64.j4 kq ji10 ji8 ((ji10) / 4294967296) (Go.bits .and .u64 (ji10) 4294967295) (Go.bits .and .u64 (ji17) 4294967295) x15_18 x16_2 (IntKind.u64.wrap ((IntKind.u64.wrap ((IntKind.u64.wrap ((Go.bits .or .u64 (ji12) (ji15)) * 4294967296)) + ((ji17) / 4294967296))) - (IntKind.u64.wrap (x15_18 * ji10)))) x18_2 x113_24 = some (r1, r2)) ∧ Aside0 (kq ≤ k2) ∧ Drawn0 w wc)
          case first =>
           have H := HC25.1; clear HC25
           by_cases c26 : x18_2 ≥ 4294967296
           ·rw [if_pos c26] at H; have c26b0 : decide (4294967296 ≤ x18_2) = true := decide_eq_true c26; clear c26; (first | rw [c26b0] | (simp only [i64_w, i32_w]; rw [c26b0]) | skip); have H' := m0 H; clear H
            go_wp2
            repeat (go_quiet (fail); try go_wp2)
            (refine Met.intro ?_; go_step; (repeat apply Exists.intro); refine ⟨?rel, ?frame⟩)
            case frame => first | rfl | (rw [c26b0]; first | done | rfl) | (rw [c24b1]; first | done | rfl) | (rw [c24b0]; first | done | rfl) | (rw [c18b1]; first | done | rfl) | (simp only [c4b0, c4b1, c5b0, c6b0, c6b1, c9b1, c14b1, c18b0, c18b1, c24b0, c24b1, c26b0]; first | done | rfl)
            case rel => exact ⟨_, (true), (by first | rfl | (simp; done) | (simp [*]; done)), H', ⟨by have := HJ18.out; have := HK2.out; first | omega | exact Nat.le_refl _⟩, by repeat (first | exact Drawn0.refl _ | apply Drawn0.step)⟩
           ·rw [if_neg c26] at H; have c26b0 : decide (4294967296 ≤ x18_2) = false := decide_eq_false c26; clear c26; (first | rw [c26b0] | (simp only [i64_w, i32_w]; rw [c26b0]) | skip); have H' := m0 H; clear H
            go_wp2
            repeat (go_quiet (fail); try go_wp2)
            (refine Met.intro ?_; go_step; (repeat apply Exists.intro); refine ⟨?rel, ?frame⟩)
            case frame => first | rfl | (rw [c26b0]; first | done | rfl) | (rw [c24b1]; first | done | rfl) | (rw [c24b0]; first | done | rfl) | (rw [c18b1]; first | done | rfl) | (simp only [c4b0, c4b1, c5b0, c6b0, c6b1, c9b1, c14b1, c18b0, c18b1, c24b0, c24b1, c26b0]; first | done | rfl)
            case rel => exact ⟨_, (decide ((IntKind.u64.wrap (x18_2 * (Go.bits .and .u64 (ji10) 4294967295))) > (IntKind.u64.wrap ((IntKind.u64.wrap (4294967296 * x16_2)) + (Go.bits .and .u64 (ji17) 4294967295))))), (by first | rfl | (simp; done) | (simp only [← hji10, ← hji17] <;> (first | rfl | simp)) | (simp [*]; done)), H', ⟨by have := HJ18.out; have := HK2.out; first | omega | exact Nat.le_refl _⟩, by repeat (first | exact Drawn0.refl _ | apply Drawn0.step)⟩
          case rest =>
           clear HC25; (try clear c1); (try clear c2); (try clear p2); (try clear c4); (try clear c4b0); (try clear c4b1); (try clear c5); (try clear c5b0); (try clear c6); (try clear c6b0); (try clear c6b1); (try clear c9); (try clear c9b0); (try clear c9b1); (try clear c11); (try clear c11b0); (try clear c14); (try clear c14b0); (try clear c14b1); (try clear c16); (try clear c16b0); (try clear c18); (try clear c18b0); (try clear c18b1); (try clear c19); (try clear c21); (try clear c21b0); (try clear c22); (try clear c23); (try clear c23b0); (try clear c24); (try clear c24b0); (try clear c24b1); (try clear c26); (try clear c26b0); (try clear p2); obtain ⟨kq, x113_24, rfl, HA, HJ24, ⟨mc24, rfl⟩⟩ := hcut; cases kq with
           | zero => exact absurd HA.out (by simp [bits_Div64.j4])
           | succ kj24 =>
            have H := HA.out; clear HA; simp only [bits_Div64.j4] at H
            by_cases c27 : x113_24 = true
            ·subst c27; (have H1 : (if (IntKind.u64.wrap (x16_2 + ((ji10) / 4294967296))) ≥ 4294967296 then (if 0 ≤ ji8 then (some (IntKind.u64.wrap ((IntKind.u64.wrap (x15_18 * 4294967296)) + (IntKind.u64.wrap (x18_2 - 1))), shr .u64 (IntKind.u64.wrap ((IntKind.u64.wrap ((IntKind.u64.wrap ((IntKind.u64.wrap ((IntKind.u64.wrap ((IntKind.u64.wrap ((Go.bits .or .u64 (ji12) (ji15)) * 4294967296)) + ((ji17) / 4294967296))) - (IntKind.u64.wrap (x15_18 * ji10)))) * 4294967296)) + (Go.bits .and .u64 (ji17) 4294967295))) - (IntKind.u64.wrap ((IntKind.u64.wrap (x18_2 - 1)) * ji10)))) ji8)) else (none)) else (bits_Div64.l1 kj24 ji10 ji8 ((ji10) / 4294967296) (Go.bits .and .u64 (ji10) 4294967295) (Go.bits .and .u64 (ji17) 4294967295) x15_18 (IntKind.u64.wrap (x16_2 + ((ji10) / 4294967296))) (IntKind.u64.wrap ((IntKind.u64.wrap ((IntKind.u64.wrap ((Go.bits .or .u64 (ji12) (ji15)) * 4294967296)) + ((ji17) / 4294967296))) - (IntKind.u64.wrap (x15_18 * ji10)))) (IntKind.u64.wrap (x18_2 - 1)))) = some (r1, r2) := by rw [if_pos rfl] at H; exact H); clear H; have H := H1; clear H1
             by_cases c28 : (IntKind.u64.wrap (x16_2 + ((ji10) / 4294967296))) ≥ 4294967296
             ·rw [if_pos c28] at H; have c28b0 : decide (4294967296 ≤ (IntKind.u64.wrap (x16_2 + ((ji10) / 4294967296)))) = true := decide_eq_true c28; clear c28
              by_cases c29 : 0 ≤ ji8
              rotate_left
              ·rw [if_neg c29] at H; exact absurd H (by simp)
              rw [if_pos c29] at H; have c29b0 := eq_true c29; have c29b1 : decide (0 ≤ ji8) = true := decide_eq_true c29; clear c29; obtain ⟨ji30, hji30⟩ : ∃ j_ : Int, (shr .u64 (IntKind.u64.wrap ((IntKind.u64.wrap ((IntKind.u64.wrap ((IntKind.u64.wrap ((IntKind.u64.wrap ((IntKind.u64.wrap ((Go.bits .or .u64 (ji12) (ji15)) * 4294967296)) + ((ji17) / 4294967296))) - (IntKind.u64.wrap (x15_18 * ji10)))) * 4294967296)) + (Go.bits .and .u64 (ji17) 4294967295))) - (IntKind.u64.wrap ((IntKind.u64.wrap (x18_2 - 1)) * ji10)))) ji8) = j_ := ⟨_, rfl⟩; (replace H : (some (IntKind.u64.wrap ((IntKind.u64.wrap (x15_18 * 4294967296)) + (IntKind.u64.wrap (x18_2 - 1))), ji30)) = some (r1, r2) := by first | (rw [hji30] at H; exact H) | (simp only [hji30] at H ⊢; exact H)); have hji30_ : ((IntKind.u64.wrap ((IntKind.u64.wrap ((IntKind.u64.wrap ((IntKind.u64.wrap ((IntKind.u64.wrap ((IntKind.u64.wrap ((Go.bits .or .u64 (ji12) (ji15)) * 4294967296)) + ((ji17) / 4294967296))) - (IntKind.u64.wrap (x15_18 * ji10)))) * 4294967296)) + (Go.bits .and .u64 (ji17) 4294967295))) - (IntKind.u64.wrap ((IntKind.u64.wrap (x18_2 - 1)) * ji10)))) / 2 ^ min ji8.toNat 64) = ji30 := hji30; have hji30z : ji8 ≤ 64 → ((IntKind.u64.wrap ((IntKind.u64.wrap ((IntKind.u64.wrap ((IntKind.u64.wrap ((IntKind.u64.wrap ((IntKind.u64.wrap ((Go.bits .or .u64 (ji12) (ji15)) * 4294967296)) + ((ji17) / 4294967296))) - (IntKind.u64.wrap (x15_18 * ji10)))) * 4294967296)) + (Go.bits .and .u64 (ji17) 4294967295))) - (IntKind.u64.wrap ((IntKind.u64.wrap (x18_2 - 1)) * ji10)))) / 2 ^ ji8.toNat) = ji30 := shr_small hji30; simp only [Option.some.injEq, Prod.mk.injEq] at H; obtain ⟨rfl, rfl⟩ := H
              go_wp2
              repeat (go_quiet (fail); try go_wp2)
              go_ret2
              exact ⟨by first | rfl | (simp; done) | (simp only [← hji8, ← hji10, ← hji12, ← hji13, ← hji15, ← hji17, ← hji30] <;> (first | rfl | simp)) | (simp [*]; done), by repeat (first | exact Drawn0.refl _ | apply Drawn0.step)⟩
             ·rw [if_neg c28] at H; have c28b0 : decide (4294967296 ≤ (IntKind.u64.wrap (x16_2 + ((ji10) / 4294967296)))) = false := decide_eq_false c28; clear c28; have H' := m0 H; clear H
              go_wp2
              repeat (go_quiet (fail); try go_wp2)
              go_roundg kj24
              case measure => have := HJ18.out; have := HK2.out; have := HJ24.out; omega
              case rel => exact ⟨(IntKind.u64.wrap (x16_2 + ((ji10) / 4294967296))), (IntKind.u64.wrap (x18_2 - 1)), (by first | rfl | (simp; done) | (simp only [← hji10] <;> (first | rfl | simp)) | (simp [*]; done)), (by first | rfl | (simp; done) | (simp [*]; done)), H', ⟨by have := HJ18.out; have := HK2.out; have := HJ24.out; omega⟩, by repeat (first | exact Drawn0.refl _ | apply Drawn0.step)⟩
            ·replace c27 := Bool.eq_false_iff.mpr c27; subst c27; (have H1 : (if 0 ≤ ji8 then (some (IntKind.u64.wrap ((IntKind.u64.wrap (x15_18 * 4294967296)) + x18_2), shr .u64 (IntKind.u64.wrap ((IntKind.u64.wrap ((IntKind.u64.wrap ((IntKind.u64.wrap ((IntKind.u64.wrap ((IntKind.u64.wrap ((Go.bits .or .u64 (ji12) (ji15)) * 4294967296)) + ((ji17) / 4294967296))) - (IntKind.u64.wrap (x15_18 * ji10)))) * 4294967296)) + (Go.bits .and .u64 (ji17) 4294967295))) - (IntKind.u64.wrap (x18_2 * ji10)))) ji8)) else (none)) = some (r1, r2) := by rw [if_neg (show ¬ (false = true) by decide)] at H; exact H); clear H; have H := H1; clear H1
             by_cases c31 : 0 ≤ ji8
             rotate_left
             ·rw [if_neg c31] at H; exact absurd H (by simp)
             rw [if_pos c31] at H; have c31b0 := eq_true c31; have c31b1 : decide (0 ≤ ji8) = true := decide_eq_true c31; clear c31; obtain ⟨ji32, hji32⟩ : ∃ j_ : Int, (shr .u64 (IntKind.u64.wrap ((IntKind.u64.wrap ((IntKind.u64.wrap ((IntKind.u64.wrap ((IntKind.u64.wrap ((IntKind.u64.wrap ((Go.bits .or .u64 (ji12) (ji15)) * 4294967296)) + ((ji17) / 4294967296))) - (IntKind.u64.wrap (x15_18 * ji10)))) * 4294967296)) + (Go.bits .and .u64 (ji17) 4294967295))) - (IntKind.u64.wrap (x18_2 * ji10)))) ji8) = j_ := ⟨_, rfl⟩; (replace H : (some (IntKind.u64.wrap ((IntKind.u64.wrap (x15_18 * 4294967296)) + x18_2), ji32)) = some (r1, r2) := by first | (rw [hji32] at H; exact H) | (simp only [hji32] at H ⊢; exact H)); have hji32_ : ((IntKind.u64.wrap ((IntKind.u64.wrap ((IntKind.u64.wrap ((IntKind.u64.wrap ((IntKind.u64.wrap ((IntKind.u64.wrap ((Go.bits .or .u64 (ji12) (ji15)) * 4294967296)) + ((ji17) / 4294967296))) - (IntKind.u64.wrap (x15_18 * ji10)))) * 4294967296)) + (Go.bits .and .u64 (ji17) 4294967295))) - (IntKind.u64.wrap (x18_2 * ji10)))) / 2 ^ min ji8.toNat 64) = ji32 := hji32; have hji32z : ji8 ≤ 64 → ((IntKind.u64.wrap ((IntKind.u64.wrap ((IntKind.u64.wrap ((IntKind.u64.wrap ((IntKind.u64.wrap ((IntKind.u64.wrap ((Go.bits .or .u64 (ji12) (ji15)) * 4294967296)) + ((ji17) / 4294967296))) - (IntKind.u64.wrap (x15_18 * ji10)))) * 4294967296)) + (Go.bits .and .u64 (ji17) 4294967295))) - (IntKind.u64.wrap (x18_2 * ji10)))) / 2 ^ ji8.toNat) = ji32 := shr_small hji32; simp only [Option.some.injEq, Prod.mk.injEq] at H; obtain ⟨rfl, rfl⟩ := H
             go_wp2
             repeat (go_quiet (fail); try go_wp2)
             go_ret2
             exact ⟨by first | rfl | (simp; done) | (simp only [← hji8, ← hji10, ← hji12, ← hji13, ← hji15, ← hji17, ← hji32] <;> (first | rfl | simp)) | (simp [*]; done), by repeat (first | exact Drawn0.refl _ | apply Drawn0.step)⟩
end Go.Proofs.Ytebjbmgfbejapaa.F
end

section
namespace Go.Proofs.Ytebjbmgfbejapaa.F
open Go.RowKit Go.Proofs.YtebjbmgfbejapaaW.PrintWords Go.Proofs.YtebjbmgfbejapaaW.PrintLast Go.Proofs.YtebjbmgfbejapaaW.PrintMore Go.Proofs.YtebjbmgfbejapaaX
attribute [local go_sem] max2_int cell_some xrun_add64 xrun_sub64
attribute [local go_sem] max2_int min2_int max_two min_two max_three min_three max_four min_four
set_option linter.unusedVariables false
set_option linter.unusedSimpArgs false
def quot_by.l0 : Nat → List Int → Int → List Int → Int → Int → Option (List Int × Int)
 | 0, _, _, _, _, _ => none
 | k + 1, x0, x1, x6, x7, x8 => if x8 ≥ 0 then (if 0 ≤ x8 then (if x8 < (x0.length : Int) then ((bits_Div64.f k x7 (rd x0 x8) x1).bind fun bt634 => (if x8 < (x6.length : Int) then (quot_by.l0 k x0 x1 (x6.set (x8 : Int).toNat bt634.1) bt634.2 (wrap64 (x8 - 1))) else (none))) else (none)) else (none)) else (some (x6, x7))
def quot_by.f (k : Nat) (l0 : List Int) (a1 : Int) : Option (List Int × Int) := if 0 ≤ (l0.length : Int) then (if ((l0.length : Int) : Int).toNat ≤ 35184372088832 then (quot_by.l0 k l0 a1 (List.replicate ((l0.length : Int) : Int).toNat 0) 0 (wrap64 ((l0.length : Int) - 1))) else (none)) else (none)
theorem quot_by.mono_l : ∀ k, (∀ y0 y1 y2 y3 y4, LeO (quot_by.l0 k y0 y1 y2 y3 y4) (quot_by.l0 (k + 1) y0 y1 y2 y3 y4))
 | 0 => fun _ _ _ _ _ r h => by simp [quot_by.l0] at h
 | k + 1 => by
  have ih0 := quot_by.mono_l k
  ·intro y0 y1 y2 y3 y4; unfold quot_by.l0
   repeat' first
   | (with_reducible exact ih0 _ _ _ _ _)
   | (with_reducible exact bits_Div64.mono _ _ _ _)
   | (with_reducible exact LeO.refl _)
   | (with_reducible exact LeO.none _)
   | (with_reducible refine LeO.ite ?_ ?_)
   | (with_reducible refine LeO.bind ?_ (fun _ => ?_))
   | exact ih0 _ _ _ _ _
   | exact bits_Div64.mono _ _ _ _
   | exact LeO.none _
   | refine LeO.ite ?_ ?_
   | refine LeO.bind ?_ (fun _ => ?_)
theorem quot_by.mono : ∀ a0 a1 k, LeO (quot_by.f k a0 a1) (quot_by.f (k + 1) a0 a1) := by
 intro a0 a1 k; have ih0 := quot_by.mono_l k; unfold quot_by.f
 repeat' first
   | (with_reducible exact ih0 _ _ _ _ _)
   | (with_reducible exact bits_Div64.mono _ _ _ _)
   | (with_reducible exact LeO.refl _)
   | (with_reducible exact LeO.none _)
   | (with_reducible refine LeO.ite ?_ ?_)
   | (with_reducible refine LeO.bind ?_ (fun _ => ?_))
   | exact ih0 _ _ _ _ _
   | exact bits_Div64.mono _ _ _ _
   | exact LeO.none _
   | refine LeO.ite ?_ ?_
   | refine LeO.bind ?_ (fun _ => ?_)
set_option maxHeartbeats 8000000 in
set_option maxRecDepth 100000 in
theorem quot_by.calls (k : Nat) (A0 : Option Addr) (c0 : Nat) (l0 : List Int) (a1 : Int) (r1 : List Int) (r2 : Int) (w : World) (hr0 : Kd.C (Kd.int .u64) w A0 l0.length l0) (hc0 : l0.length ≤ c0) (h : quot_by.f k l0 a1 = some (r1, r2)) :
  Calls Try.prog 55 #[.slice A0 l0.length c0, .int .u64 a1] w fun e w' => ∃ v0_ : Value, e = .returned (.tuple #[v0_, .int .u64 r2]) ∧ Kd.R (Kd.int .u64) 27 w' w.heap.size (fun _ => True) v0_ r1 ∧ Below w.heap.size w w' := by
 have HR0 := m0 hr0; have HC0 := m0 hc0; clear hr0 hc0; have HB := m0 (Below.refl w.heap.size w); have H : (if 0 ≤ (l0.length : Int) then (if ((l0.length : Int) : Int).toNat ≤ 35184372088832 then (quot_by.l0 k l0 a1 (List.replicate ((l0.length : Int) : Int).toNat 0) 0 (wrap64 ((l0.length : Int) - 1))) else (none)) else (none)) = some (r1, r2) := h; clear h
 by_cases c3 : 0 ≤ (l0.length : Int)
 rotate_left
 ·rw [if_neg c3] at H; exact absurd H (by simp)
 rw [if_pos c3] at H; have c3b0 := eq_true c3; have c3b1 : decide (0 ≤ (l0.length : Int)) = true := decide_eq_true c3; clear c3
 by_cases c4 : ((l0.length : Int) : Int).toNat ≤ 35184372088832
 rotate_left
 ·rw [if_neg c4] at H; exact absurd H (by simp)
 rw [if_pos c4] at H; have c4b0 := eq_true c4; have c4b1 : decide (((l0.length : Int) : Int).toNat ≤ 35184372088832) = true := decide_eq_true c4; clear c4; obtain ⟨y630, hy630⟩ : ∃ y_ : List Int, y_ = (List.replicate ((l0.length : Int) : Int).toNat 0) := ⟨_, rfl⟩; (replace H : (quot_by.l0 k l0 a1 y630 0 (wrap64 ((l0.length : Int) - 1))) = some (r1, r2) := by first | (rw [hy630]; with_reducible exact H) | (have H2_ := (Option.bind_some _ _).symm.trans H; rw [hy630]; with_reducible exact H2_) | (have H2_ := (Option.bind_some _ _).symm.trans H; with_reducible exact H2_) | with_reducible exact H | (rw [hy630]; exact H) | exact H); have Ny630 := m0 hy630; clear hy630; have H' := m0 H; clear H
 go_enter Try.func55, Try.ntmps55
 go_wp2_with (first | ((with_reducible refine gate_dst (N := 11) rfl ?_); refine Kd.R_make (Kd.int .u64) _ 27 rfl (N := 11) rfl 22 _ _ rfl (l0.length : Int) rfl rfl Try.underlying22 (.int .u64 0) 8 info27 rfl (by decide) (by omega) 0 (ok := fun _ => True) (okp := fun _ => True) rfl (fun _ hk => hk) trivial (of_decide_eq_true (by first | (with_reducible assumption) | assumption)) (Nat.le_trans (Nat.mul_le_mul_right _ (of_decide_eq_true (by first | (with_reducible assumption) | assumption) : (l0.length : Int).toNat ≤ 35184372088832)) (by omega)) (Below.refl _ _) (Nat.le_refl _) ?_; intro v631 w5 ho6 hb hg_ hnew_; clear hg_ hnew_; (first | rw [← Ny630.out] at ho6 | (simp only [Int.reduceToNat] at ho6; rw [← Ny630.out] at ho6)); have a2 := m0 (Kd.R_lower ho6 (bz HB.1)); replace HB := sa HB hb; clear hb ho6))
 go_loopg [7, 8] k (fun kq v7 v8 w' => ∃ (x6_1 : List Int) (x7_1 : Int) (x8_1 : Int), v7 = .int .u64 x7_1 ∧ v8 = .int .i64 x8_1 ∧ Aside0 (quot_by.l0 kq l0 a1 x6_1 x7_1 x8_1 = some (r1, r2)) ∧ Aside0 (kq ≤ k) ∧ Aside0 (Kd.R (Kd.int .u64) 27 w' w.heap.size (fun _ => True) v631 x6_1) ∧ Aside0 (Below w.heap.size w w'))
 case atStart => exact ⟨(y630), (0), (wrap64 ((l0.length : Int) - 1)), (by first | rfl | (simp; done) | (simp [*]; done)), (by first | rfl | (simp; done) | (simp [*]; done)), H', ⟨Nat.le_refl _⟩, ⟨by (with_reducible repeat (first | apply Kd.R_alloc | apply Kd.R_drewN | apply Kd.R_drew)); exact a2.1⟩, ⟨by repeat (first | (with_reducible first | exact HB.1 | apply below_alloc | apply pw_below_drewN | apply below_drew1) | exact HB.1)⟩⟩
 case round =>
  clear H'; (try clear p2); (try clear c3); (try clear c3b0); (try clear c3b1); (try clear c4); (try clear c4b0); (try clear c4b1); (try clear c5); (try clear p6); obtain ⟨x6_1, x7_1, x8_1, rfl, rfl, HA, HK1, HO_6, HB⟩ := hrel; cases gk with
  | zero => exact absurd HA.out (by simp [quot_by.l0])
  | succ k1 =>
   have H := HA.out; clear HA; simp only [quot_by.l0] at H
   by_cases c7 : x8_1 ≥ 0
   ·rw [if_pos c7] at H; have c7b0 : decide (0 ≤ x8_1) = true := decide_eq_true c7; clear c7
    by_cases c8 : 0 ≤ x8_1
    rotate_left
    ·rw [if_neg c8] at H; exact absurd H (by simp)
    rw [if_pos c8] at H; have c8b0 : decide (0 ≤ x8_1) = true := decide_eq_true c8; clear c8
    by_cases c9 : x8_1 < (l0.length : Int)
    rotate_left
    ·rw [if_neg c9] at H; exact absurd H (by simp)
    rw [if_pos c9] at H; have c9b0 : decide (x8_1 < (l0.length : Int)) = true := decide_eq_true c9; clear c9; replace H := Option.bind_eq_some_iff.mp H; obtain ⟨⟨t634, t635⟩, A100, H⟩ := H; (try dsimp only at H); have A10 := m0 A100; clear A100
    by_cases c11 : x8_1 < (x6_1.length : Int)
    rotate_left
    ·rw [if_neg c11] at H; exact absurd H (by simp)
    rw [if_pos c11] at H; have c11b0 : decide (x8_1 < (x6_1.length : Int)) = true := decide_eq_true c11; clear c11; obtain ⟨y636, hy636⟩ : ∃ y_ : List Int, y_ = (x6_1.set (x8_1 : Int).toNat t634) := ⟨_, rfl⟩; (replace H : (quot_by.l0 k1 l0 a1 y636 t635 (wrap64 (x8_1 - 1))) = some (r1, r2) := by first | (rw [hy636]; with_reducible exact H) | (have H2_ := (Option.bind_some _ _).symm.trans H; rw [hy636]; with_reducible exact H2_) | (have H2_ := (Option.bind_some _ _).symm.trans H; with_reducible exact H2_) | with_reducible exact H | (rw [hy636]; exact H) | exact H); have Ny636 := m0 hy636; clear hy636; have H' := m0 H; clear H; have p633 : 0 ≤ (x8_1 : Int) := of_decide_eq_true (by first | (with_reducible assumption) | assumption); have q633 : x8_1 < (l0.length : Int) := of_decide_eq_true (by first | (with_reducible assumption) | assumption); obtain ⟨ad633, e633, hx633_0⟩ := Kd.at_int HR0.1 x8_1 p633 q633; cases e633; replace hx633_0 := (HB.1.cell (World.block_lt_of_cell? w _ hx633_0)).trans hx633_0; replace p633 := eq_true p633; replace q633 := eq_true q633
    go_wp2_with (first | ((with_reducible refine gate_callee (f := 63) rfl ?_); refine goesL_ (some 28) rfl rfl Try.func63 kr rfl #[.int .u64 x7_1, .int .u64 (rd l0 x8_1), .int .u64 a1] rfl gm ?_; (with_reducible refine (bits_Div64.calls k1 x7_1 (rd l0 x8_1) a1 t634 t635 _ A10.1).mono ?_); rintro e w' ⟨rfl, ⟨nd, rfl⟩⟩; refine ⟨_, rfl, ?_⟩; (try (rw [drewN_self wr]; generalize hq_ : World.drewN wr _ = wr; have n0_ : Aside0 (Kd.R (Kd.int .u64) 27 wr w.heap.size (fun _ => True) v631 x6_1) := ⟨by rw [← hq_]; exact HO_6.out⟩; have n1_ : Aside0 (Below w.heap.size w wr) := ⟨by rw [← hq_]; exact (bf HB)⟩; clear HO_6 HB hq_; have HO_6 := n0_; have HB := n1_; clear n0_ n1_)); have p12 : 0 ≤ (x8_1 : Int) := of_decide_eq_true (by first | (with_reducible assumption) | assumption); have q12 : (x8_1 : Int) < ((x6_1.length : Int) : Int) := of_decide_eq_true (by first | (with_reducible assumption) | assumption); obtain ⟨go12, K0, j0, g0, gl12, cl12, HG12⟩ := Kd.R_form HO_6.out (by omega); (first | cases j0 | (injection j0 with ea_ en_ ec_; (first | subst ea_ | (injection ea_ with ea_; subst ea_)); subst ec_; clear en_)); have GB12 := m0 g0; have GG12 := m0 HG12; clear g0 gl12 HG12; obtain ⟨hx12_0, hf12_0⟩ := Kd.R_celln 0 HO_6.out (x8_1 : Int) p12 q12; replace p12 := eq_true p12; replace q12 := eq_true q12; obtain ⟨hy13_, hz13_⟩ := Kd.R_celln 0 HO_6.out (x8_1 : Int) (of_decide_eq_true (by first | (with_reducible assumption) | assumption)) (of_decide_eq_true (by first | (with_reducible assumption) | assumption)); have HP13 := Kd.R_putg HO_6.out (x8_1 : Int) t634) | ((with_reducible refine gate_store (t := 27) (p := 31) rfl ?_); refine store_event (t := 27) (p := 31) (v := ?vo_w14) (w1 := (wr.setCell ⟨go12, (x8_1 : Int).toNat, none⟩ (.int .u64 t634))) ?hg ?ho ?hn ?hr ?_; (case ho => rfl); (case hg => rfl); (case hn => rfl); (case hr => first | (go_simp; done) | (go_simp; rfl)); intro w14 hw; have hg : wr.grownBy w14 (some go12) := (by rw [hw]; exact HP13.2); have hp_ : Kd.R (Kd.int .u64) 27 w14 w.heap.size (fun _ => True) (.slice (some ⟨go12, 0, none⟩) x6_1.length K0) y636 := (by rw [hw, Ny636.out]; exact HP13.1); clear HP13; replace HO_6 := m0 (hp_); replace HB := m0 ((by rw [hw]; exact below_set (HB.1) GB12.out : Below w.heap.size w w14)); clear hg hw hp_))
    go_roundg k1
    case measure => have := HK1.out; omega
    case rel => exact ⟨(y636), (t635), (wrap64 (x8_1 - 1)), (by first | rfl | (simp; done) | (simp [*]; done)), (by first | rfl | (simp; done) | (simp [*]; done)), H', ⟨by have := HK1.out; omega⟩, ⟨by (with_reducible repeat (first | apply Kd.R_alloc | apply Kd.R_drewN | apply Kd.R_drew)); exact HO_6.out⟩, ⟨by repeat (first | (with_reducible first | exact HB.1 | apply below_alloc | apply pw_below_drewN | apply below_drew1) | exact HB.1)⟩⟩
   ·rw [if_neg c7] at H; have c7b0 : decide (0 ≤ x8_1) = false := decide_eq_false c7; clear c7; simp only [Option.some.injEq, Prod.mk.injEq] at H; obtain ⟨rfl, rfl⟩ := H
    go_wp2
    go_ret2
    exact ⟨_, by first | rfl | (simp [errW_none, errW_some] <;> rfl) | (simp [*, errW_none, errW_some] <;> rfl), by (with_reducible repeat (first | apply Kd.R_alloc | apply Kd.R_drewN | apply Kd.R_drew)); exact HO_6.out, by repeat (first | (with_reducible first | exact HB.1 | apply below_alloc | apply pw_below_drewN | apply below_drew1) | exact HB.1)⟩
def quot_wrong.f (a0 : Int) : Option (Bool) := if a0 < 0 then (some true) else (some (decide (a0 > 262144)))
set_option maxHeartbeats 8000000 in
set_option maxRecDepth 100000 in
theorem quot_wrong.calls (a0 : Int) (r : Bool) (w : World) (h : quot_wrong.f a0 = some r) :
    Calls Try.prog 57 #[.int .i64 a0] w fun e w' => e = .returned (.bool r) ∧ Drawn0 w w' := by
  have H : (if a0 < 0 then (some true) else (some (decide (a0 > 262144)))) = some r := h; clear h
  by_cases c2 : a0 < 0
  · rw [if_pos c2] at H; have c2b0 : decide (a0 < 0) = true := decide_eq_true c2; clear c2; obtain rfl := Option.some.inj H
    go_enter Try.func57, Try.ntmps57
    go_wp2
    go_ret
    exact ⟨by first | rfl | (simp; done) | (simp [*]; done), by repeat (first | exact Drawn0.refl _ | apply Drawn0.step)⟩
  · rw [if_neg c2] at H; have c2b0 : decide (a0 < 0) = false := decide_eq_false c2; clear c2; obtain rfl := Option.some.inj H
    go_enter Try.func57, Try.ntmps57
    go_wp2
    go_ret
    exact ⟨by first | rfl | (simp; done) | (simp [*]; done), by repeat (first | exact Drawn0.refl _ | apply Drawn0.step)⟩
def quot_Shr.l0 : Nat → List Int → Int → Int → Int → Option (List Int × Int)
 | 0, _, _, _, _ => none
 | k + 1, x6, x7, x25, x26 => if x26 < x25 then (if 0 ≤ x26 then (if x26 < (x6.length : Int) then (if 0 ≤ x7 then ((some (x6.set (x26 : Int).toNat (shr .u64 (rd x6 x26) x7) : List Int)).bind fun y647 => (if (wrap64 (x26 + 1)) < (x6.length : Int) then (if 0 ≤ (wrap64 (x26 + 1)) then (if 0 ≤ (IntKind.u64.wrap (64 - x7)) then (quot_Shr.l0 k (y647.set (x26 : Int).toNat (Go.bits .or .u64 (rd y647 x26) (shl .u64 (rd y647 (wrap64 (x26 + 1))) (IntKind.u64.wrap (64 - x7))))) x7 x25 (wrap64 (x26 + 1))) else (none)) else (none)) else (quot_Shr.l0 k y647 x7 x25 (wrap64 (x26 + 1))))) else (none)) else (none)) else (none)) else ((nat_Of.f k x6).bind fun t651 => (some (t651, 0)))
def quot_Shr.f (k : Nat) (l0_0 : List Int) (a1 : Int) : Option (List Int × Int) := (quot_wrong.f a1).bind fun t639 => (if t639 = true then (some (([] : List Int), 2)) else ((nat_Nat_Limbs.f l0_0).bind fun t640 => (if 0 ≤ (mn (wrap64 (Int.tdiv a1 64)) (t640.length : Int)) then (if (mn (wrap64 (Int.tdiv a1 64)) (t640.length : Int)) ≤ (t640.length : Int) then ((some (t640.drop ((mn (wrap64 (Int.tdiv a1 64)) (t640.length : Int)) : Int).toNat : List Int)).bind fun y643 => (quot_Shr.l0 k y643 (IntKind.u64.wrap (Int.tmod a1 64)) (y643.length : Int) 0)) else (none)) else (none))))
theorem quot_Shr.mono_l : ∀ k, (∀ y0 y1 y2 y3, LeO (quot_Shr.l0 k y0 y1 y2 y3) (quot_Shr.l0 (k + 1) y0 y1 y2 y3))
 | 0 => fun _ _ _ _ r h => by simp [quot_Shr.l0] at h
 | k + 1 => by
  have ih0 := quot_Shr.mono_l k
  ·intro y0 y1 y2 y3; unfold quot_Shr.l0
   repeat' first
   | (with_reducible exact ih0 _ _ _ _)
   | (with_reducible exact nat_Of.mono _ _)
   | (with_reducible exact LeO.refl _)
   | (with_reducible exact LeO.none _)
   | (with_reducible refine LeO.ite ?_ ?_)
   | (with_reducible refine LeO.bind ?_ (fun _ => ?_))
   | exact ih0 _ _ _ _
   | exact nat_Of.mono _ _
   | exact LeO.none _
   | refine LeO.ite ?_ ?_
   | refine LeO.bind ?_ (fun _ => ?_)
theorem quot_Shr.mono : ∀ a0 a1 k, LeO (quot_Shr.f k a0 a1) (quot_Shr.f (k + 1) a0 a1) := by
 intro a0 a1 k; have ih0 := quot_Shr.mono_l k; unfold quot_Shr.f
 repeat' first
   | (with_reducible exact ih0 _ _ _ _)
   | (with_reducible exact nat_Of.mono _ _)
   | (with_reducible exact LeO.refl _)
   | (with_reducible exact LeO.none _)
   | (with_reducible refine LeO.ite ?_ ?_)
   | (with_reducible refine LeO.bind ?_ (fun _ => ?_))
   | exact ih0 _ _ _ _
   | exact nat_Of.mono _ _
   | exact LeO.none _
   | refine LeO.ite ?_ ?_
   | refine LeO.bind ?_ (fun _ => ?_)
def quot_Shr.T11 : Bool × List (List Nat × List Nat) := (true, [([], []), ([], []), ([0, 1], [0, 1]), ([2], [2]), ([], []), ([], []), ([5], [5]), ([4, 6], [4, 6]), ([7], [7]), ([], []), ([9], [9]), ([8, 10], [8, 10]), ([3, 11], [3, 11]), ([0, 1, 0, 1, 2, 3, 4, 5, 6, 7, 8, 9, 10, 11, 12], [0, 1]), ([13, 12, 0, 1, 2, 3, 4, 5, 6, 7, 8, 9, 10, 11, 12], [12, 13])])
def quot_Shr.B11 : List Nat := [0, 0, 3, 7, 0, 0, 32, 112, 240, 0, 512, 2032, 4095, 8191, 16383]
theorem quot_Shr.tab11 : rtab .any (opsOf Try.f38 11) = quot_Shr.T11 := by kernel_rfl
theorem quot_Shr.bits11 : waitsOk quot_Shr.T11.2 quot_Shr.B11 = true := by kernel_rfl
set_option maxHeartbeats 8000000 in
set_option maxRecDepth 100000 in
theorem quot_Shr.calls (k : Nat) (A0_0 : Option Addr) (c0_0 : Nat) (l0_0 : List Int) (a1 : Int) (r1 : List Int) (r2 : Int) (w : World) (hr0_0 : Kd.C (Kd.int .u64) w A0_0 l0_0.length l0_0) (hc0_0 : l0_0.length ≤ c0_0) (h : quot_Shr.f k l0_0 a1 = some (r1, r2)) :
  Calls Try.prog 38 #[.agg #[.slice A0_0 l0_0.length c0_0], .int .i64 a1] w fun e w' => ∃ v0_ : Value, e = .returned (.tuple #[.agg #[v0_], .int .i64 r2]) ∧ Kd.V (Kd.int .u64) 27 w' w.heap.size (fun k_ => (w.heap.size ≤ k_)) v0_ r1 ∧ Below w.heap.size w w' := by
 have hu25 := Try.underlying25; have HR0_0 := m0 hr0_0; have HC0_0 := m0 hc0_0; clear hr0_0 hc0_0; have HB := m0 (Below.refl w.heap.size w); have H : ((quot_wrong.f a1).bind fun t639 => (if t639 = true then (some (([] : List Int), 2)) else ((nat_Nat_Limbs.f l0_0).bind fun t640 => (if 0 ≤ (mn (wrap64 (Int.tdiv a1 64)) (t640.length : Int)) then (if (mn (wrap64 (Int.tdiv a1 64)) (t640.length : Int)) ≤ (t640.length : Int) then ((some (t640.drop ((mn (wrap64 (Int.tdiv a1 64)) (t640.length : Int)) : Int).toNat : List Int)).bind fun y643 => (quot_Shr.l0 k y643 (IntKind.u64.wrap (Int.tmod a1 64)) (y643.length : Int) 0)) else (none)) else (none))))) = some (r1, r2) := h; clear h; replace H := Option.bind_eq_some_iff.mp H; obtain ⟨t639, A30, H⟩ := H; (try dsimp only at H); have A3 := m0 A30; clear A30
 by_cases c4 : t639 = true
 ·subst c4; (have H1 : (some (([] : List Int), 2)) = some (r1, r2) := by rw [if_pos rfl] at H; exact H); clear H; have H := H1; clear H1; simp only [Option.some.injEq, Prod.mk.injEq] at H; obtain ⟨rfl, rfl⟩ := H
  go_enter Try.func38, Try.ntmps38
  go_wp2_with (first | ((with_reducible refine gate_dst (N := 2) rfl ?_); refine box_event rz (N := 2) rz (cs := #[.slice A0_0 l0_0.length c0_0]) (t := 25) gs_ ?_; intro g0 hg w5 hbox hb; have b0 := m0 hbox; have G0 := gz_ HB hg; have e0 := gz_ HB hg; replace HB := sa HB hb; clear hb hbox hg) | ((with_reducible refine gate_dst (N := 4) rfl ?_); refine box_event rz (N := 4) rz (cs := #[.slice none 0 0]) (t := 25) gs_ ?_; intro g1 hg w6 hbox hb; have b1 := m0 hbox; have G1 := gz_ HB hg; have e1 := gz_ HB hg; replace HB := sa HB hb; have z0 := n1 b0 hg; have z1 := n2 b0 hg; replace b0 := ba b0 hb; clear hb hbox hg) | ((with_reducible refine gate_callee (f := 57) rfl ?_); refine goesL_ (some 10) rfl rfl Try.func57 kr rfl #[.int .i64 a1] rfl gm ?_; (with_reducible refine (quot_wrong.calls a1 true _ A3.1).mono ?_); rintro e w' ⟨rfl, ⟨nd, rfl⟩⟩; refine ⟨_, rfl, ?_⟩; (try (rw [drewN_self w6]; generalize hq_ : World.drewN w6 _ = w6; have n0_ : Aside0 (w6.heap[g0]? = some (.cells #[.slice A0_0 l0_0.length c0_0] 25 (0, 0))) := ⟨by rw [← hq_]; exact b0.1⟩; have n1_ : Aside0 (w6.heap[g1]? = some (.cells #[.slice none 0 0] 25 (0, 0))) := ⟨by rw [← hq_]; exact b1.1⟩; have n2_ : Aside0 (Below w.heap.size w w6) := ⟨by rw [← hq_]; exact bq⟩; clear b0 b1 HB hq_; have b0 := n0_; have b1 := n1_; have HB := n2_; clear n0_ n1_ n2_; have hygb637_0 : w6.cell? ⟨g0, 0, none⟩ = some (.slice A0_0 l0_0.length c0_0) := bc b0; have hwgb637_0 := blk_frozen b0.1 0; have hygb638_0 : w6.cell? ⟨g1, 0, none⟩ = some (.slice none 0 0) := bc b1; have hwgb638_0 := blk_frozen b1.1 0)); have hnb7 := z1.1; have hnc7 := z0.1; have hcz8_0 : w6.cell? ⟨g1, 0, none⟩ = some (.slice none 0 0) := bc b1; have hfz8_0 := blk_frozen b1.1 0))
  refine bodyPost_ret (results_ct rfl _ _ g1 25 #[.slice none 0 0] (0, 0) _ rfl (by (with_reducible repeat (first | refine blk_drewN ?_ _ | refine blk_drew ?_ | refine blk_alloc ?_ _)); refine blk_put (cs := #[.slice none 0 0]) ?_ 0 _ rfl; (with_reducible repeat (first | refine blk_drewN ?_ _ | refine blk_drew ?_ | refine blk_alloc ?_ _)); exact b1.1) Try.underlying25 rfl kr) rfl ?_; exact ⟨_, by first | rfl | (simp [errW_none, errW_some] <;> rfl) | (simp [*, errW_none, errW_some] <;> rfl), Kd.V_nil _ _ _ _ _, by repeat (first | (with_reducible first | exact HB.1 | apply below_alloc | apply pw_below_drewN | apply below_drew1 | refine below_set ?_ e0.1 | refine below_set ?_ e1.1) | exact HB.1)⟩
 ·replace c4 := Bool.eq_false_iff.mpr c4; subst c4; (have H1 : ((nat_Nat_Limbs.f l0_0).bind fun t640 => (if 0 ≤ (mn (wrap64 (Int.tdiv a1 64)) (t640.length : Int)) then (if (mn (wrap64 (Int.tdiv a1 64)) (t640.length : Int)) ≤ (t640.length : Int) then ((some (t640.drop ((mn (wrap64 (Int.tdiv a1 64)) (t640.length : Int)) : Int).toNat : List Int)).bind fun y643 => (quot_Shr.l0 k y643 (IntKind.u64.wrap (Int.tmod a1 64)) (y643.length : Int) 0)) else (none)) else (none))) = some (r1, r2) := by rw [if_neg (show ¬ (false = true) by decide)] at H; exact H); clear H; have H := H1; clear H1; replace H := Option.bind_eq_some_iff.mp H; obtain ⟨t640, A90, H⟩ := H; (try dsimp only at H); have A9 := m0 A90; clear A90; obtain ⟨ji10, hji10⟩ : ∃ j_ : Int, (mn (wrap64 (Int.tdiv a1 64)) (t640.length : Int)) = j_ := ⟨_, rfl⟩; (replace H : (if 0 ≤ (ji10) then (if (ji10) ≤ (t640.length : Int) then ((some (t640.drop ((ji10) : Int).toNat : List Int)).bind fun y643 => (quot_Shr.l0 k y643 (IntKind.u64.wrap (Int.tmod a1 64)) (y643.length : Int) 0)) else (none)) else (none)) = some (r1, r2) := by first | (rw [hji10] at H; exact H) | (simp only [hji10] at H ⊢; exact H)); (try rw [hji10] at A3); (try rw [hji10] at A9); have hji10_ : (if (t640.length : Int) < (wrap64 (Int.tdiv a1 64)) then (t640.length : Int) else (wrap64 (Int.tdiv a1 64))) = ji10 := hji10
  by_cases c11 : 0 ≤ (ji10)
  rotate_left
  ·rw [if_neg c11] at H; exact absurd H (by simp)
  rw [if_pos c11] at H; have c11b0 := eq_true c11; have c11b1 : decide (0 ≤ (ji10)) = true := decide_eq_true c11; clear c11
  by_cases c12 : (ji10) ≤ (t640.length : Int)
  rotate_left
  ·rw [if_neg c12] at H; exact absurd H (by simp)
  rw [if_pos c12] at H; have c12b0 := eq_true c12; have c12b1 : decide ((ji10) ≤ (t640.length : Int)) = true := decide_eq_true c12; clear c12; obtain ⟨y643, hy643⟩ : ∃ y_ : List Int, y_ = (t640.drop ((ji10) : Int).toNat) := ⟨_, rfl⟩; (replace H : (quot_Shr.l0 k y643 (IntKind.u64.wrap (Int.tmod a1 64)) (y643.length : Int) 0) = some (r1, r2) := by first | (rw [hy643]; with_reducible exact H) | (have H2_ := (Option.bind_some _ _).symm.trans H; rw [hy643]; with_reducible exact H2_) | (have H2_ := (Option.bind_some _ _).symm.trans H; with_reducible exact H2_) | with_reducible exact H | (rw [hy643]; exact H) | exact H); have Ny643 := m0 hy643; clear hy643; have H' := m0 H; clear H
  go_enter Try.func38, Try.ntmps38
  go_wp2_with (first | ((with_reducible refine gate_dst (N := 2) rfl ?_); refine box_event rz (N := 2) rz (cs := #[.slice A0_0 l0_0.length c0_0]) (t := 25) gs_ ?_; intro g0 hg w13 hbox hb; have b0 := m0 hbox; have G0 := gz_ HB hg; have e0 := gz_ HB hg; replace HB := sa HB hb; clear hb hbox hg) | ((with_reducible refine gate_dst (N := 4) rfl ?_); refine box_event rz (N := 4) rz (cs := #[.slice none 0 0]) (t := 25) gs_ ?_; intro g1 hg w14 hbox hb; have b1 := m0 hbox; have G1 := gz_ HB hg; have e1 := gz_ HB hg; replace HB := sa HB hb; have z0 := n1 b0 hg; have z1 := n2 b0 hg; replace b0 := ba b0 hb; clear hb hbox hg) | ((with_reducible refine gate_callee (f := 57) rfl ?_); refine goesL_ (some 10) rfl rfl Try.func57 kr rfl #[.int .i64 a1] rfl gm ?_; (with_reducible refine (quot_wrong.calls a1 false _ A3.1).mono ?_); rintro e w' ⟨rfl, ⟨nd, rfl⟩⟩; refine ⟨_, rfl, ?_⟩; have hnb15 := z0.1; have hnc15 := z1.1; have hcz16_0 : w14.cell? ⟨g0, 0, none⟩ = some (.slice A0_0 l0_0.length c0_0) := bc b0; have hfz16_0 := blk_frozen b0.1 0) | ((with_reducible refine gate_callee (f := 16) rfl ?_); refine goesL_ (some 13) rfl rfl Try.func16 kr rfl #[.agg #[.slice A0_0 l0_0.length c0_0]] rfl gm ?_; (with_reducible refine (nat_Nat_Limbs.calls _ _ l0_0 t640 _ ?side1 ?side2 A9.1).mono ?_); (case side1 => repeat (first | exact (Kd.C_below HR0_0.out bq) | (with_reducible refine Kd.C_alloc ?_ _) | (with_reducible refine Kd.C_drewN ?_ _) | (with_reducible refine Kd.C_drew ?_))); (case side2 => exact HC0_0.out); rintro e w17 ⟨v641, rfl, ho0, hb⟩; refine ⟨_, rfl, ?_⟩; have a2 := m0 (Kd.R_lower (Kd.R_newM (M := fun k_ => (w.heap.size ≤ k_)) ho0 (bz HB.1) (fun k_ h_ => h_)) (bz HB.1)); replace b0 := ba b0 hb; replace b1 := ba b1 hb; replace HB := sa HB hb; clear hb ho0; obtain ⟨D0, K0, j0⟩ := Kd.R_slice a2.1; subst j0; have n_ := m0 (Kd.R_mono (ok' := (fun k_ => (w.heap.size ≤ k_))) a2.1 (fun k_ hk => hk.1)); clear a2; have a2 := n_; clear n_; have q19 : ((ji10) : Int) ≤ ((t640.length : Int) : Int) := of_decide_eq_true (by first | (with_reducible assumption) | assumption); obtain ⟨i019, hi019, _, hsz19, _⟩ := info_parts info27; have hcut19 := cut_from (P := Try.prog) 22 27 .i64 Try.underlying22 hi019 1 hsz19 D0 t640.length K0 (ji10) (of_decide_eq_true (by first | (with_reducible assumption) | assumption)) q19; have hr19 := Kd.Q_drop (k := ((ji10) : Int).toNat) (Kd.Q_of_R a2.1) (by omega); obtain ⟨A19, hA19⟩ : ∃ A1, A1 = (if K0 = ((ji10) : Int).toNat then D0 else (D0 : Option Addr).map (·.add (((ji10) : Int).toNat * 1))) := ⟨_, rfl⟩; obtain ⟨c19, hc19⟩ : ∃ c1, c1 = K0 - ((ji10) : Int).toNat := ⟨_, rfl⟩; have hy19 : y643.length = t640.length - ((ji10) : Int).toNat := (by rw [Ny643.out, List.length_drop]); rw [← Ny643.out] at hr19; rw [← hy19, ← hA19, ← hc19] at hcut19; replace hr19 : Kd.Q (Kd.int .u64) 27 w17 w.heap.size (fun k_ => (w.heap.size ≤ k_)) (.slice A19 y643.length c19) y643 := (by rw [hA19, hc19, hy19]; exact hr19); have HE19 : Aside0 ((Value.slice A19 y643.length c19).ownBlock = (.slice D0 t640.length K0 : Value).ownBlock) := ⟨by rw [hA19]; split <;> (cases (D0 : Option Addr) <;> first | rfl | simp [Value.ownBlock, add_block])⟩; clear hy19 hi019 hsz19 a2 hA19 hc19; have a3 := m0 hr19; clear hr19; replace q19 := eq_true q19))
  go_loopg [26] k (fun kq v26 w' => ∃ (x6_1 : List Int) (x26_1 : Int), v26 = .int .i64 x26_1 ∧ Aside0 (quot_Shr.l0 kq x6_1 (IntKind.u64.wrap (Int.tmod a1 64)) (y643.length : Int) x26_1 = some (r1, r2)) ∧ Aside0 (kq ≤ k) ∧ Aside0 (Kd.Q (Kd.int .u64) 27 w' w.heap.size (fun k_ => (w.heap.size ≤ k_)) (.slice A19 y643.length c19) x6_1) ∧ Aside0 (w'.heap[g0]? = some (.cells #[(.slice A0_0 l0_0.length c0_0)] 25 (0, 0))) ∧ Aside0 (w'.heap[g1]? = some (.cells #[(.slice none 0 0)] 25 (0, 0))) ∧ Aside0 (Below w.heap.size w w'))
  case atStart => exact ⟨(y643), (0), (by first | rfl | (simp; done) | (simp [*]; done)), H', ⟨Nat.le_refl _⟩, ⟨by (with_reducible repeat (first | apply Kd.Q_alloc | apply Kd.Q_drewN | apply Kd.Q_drew)); exact a3.1⟩, ⟨by (with_reducible repeat (first | refine blk_drewN ?_ _ | refine blk_drew ?_ | refine blk_alloc ?_ _)); exact b0.1⟩, ⟨by (with_reducible repeat (first | refine blk_drewN ?_ _ | refine blk_drew ?_ | refine blk_alloc ?_ _)); exact b1.1⟩, ⟨by repeat (first | (with_reducible first | exact HB.1 | apply below_alloc | apply pw_below_drewN | apply below_drew1 | refine below_set ?_ e0.1 | refine below_set ?_ e1.1) | exact HB.1)⟩⟩
  case round =>
   clear H'; (try clear c1); (try clear q1); (try clear p2); (try clear c3); (try clear c4); (try clear c5); (try clear p6); (try clear c7); (try clear c11); (try clear c11b0); (try clear c11b1); (try clear c12); (try clear c12b0); (try clear c12b1); (try clear c15); (try clear c16); (try clear c19); (try clear q19); (try clear hcz16_0); (try clear hcz8_0); (try clear hfz16_0); (try clear hfz8_0); (try clear q19); obtain ⟨x6_1, x26_1, rfl, HA, HK1, HO_6, b0, b1, HB⟩ := hrel; have hl6_1 := (Kd.Q_reads' HO_6.out).1; rw [hl6_1] at HO_6; (try simp only [hl6_1]); (try simp only [hl6_1] at b0); (try simp only [hl6_1] at b1); cases gk with
   | zero => exact absurd HA.out (by simp [quot_Shr.l0])
   | succ k1 =>
    have H := HA.out; clear HA; simp only [quot_Shr.l0] at H
    by_cases c20 : x26_1 < (y643.length : Int)
    ·rw [if_pos c20] at H; have c20b0 : decide (x26_1 < (y643.length : Int)) = true := decide_eq_true c20; have c20b0x := c20b0; (try simp only [hl6_1] at c20b0x); clear c20
     by_cases c21 : 0 ≤ x26_1
     rotate_left
     ·rw [if_neg c21] at H; exact absurd H (by simp)
     rw [if_pos c21] at H; have c21b0 : decide (0 ≤ x26_1) = true := decide_eq_true c21; clear c21
     by_cases c22 : x26_1 < (x6_1.length : Int)
     rotate_left
     ·rw [if_neg c22] at H; exact absurd H (by simp)
     rw [if_pos c22] at H; have c22b0 : decide (x26_1 < (x6_1.length : Int)) = true := decide_eq_true c22; have c22b0x := c22b0; (try simp only [hl6_1] at c22b0x); clear c22; obtain ⟨ji23, hji23⟩ : ∃ j_ : Int, (IntKind.u64.wrap (Int.tmod a1 64)) = j_ := ⟨_, rfl⟩; replace H : (if 0 ≤ (ji23) then ((some (x6_1.set (x26_1 : Int).toNat (shr .u64 (rd x6_1 x26_1) (ji23)) : List Int)).bind fun y647 => (if (wrap64 (x26_1 + 1)) < (x6_1.length : Int) then (if 0 ≤ (wrap64 (x26_1 + 1)) then (if 0 ≤ (IntKind.u64.wrap (64 - (ji23))) then (quot_Shr.l0 k1 (y647.set (x26_1 : Int).toNat (Go.bits .or .u64 (rd y647 x26_1) (shl .u64 (rd y647 (wrap64 (x26_1 + 1))) (IntKind.u64.wrap (64 - (ji23)))))) (ji23) (y643.length : Int) (wrap64 (x26_1 + 1))) else (none)) else (none)) else (quot_Shr.l0 k1 y647 (ji23) (y643.length : Int) (wrap64 (x26_1 + 1))))) else (none)) = some (r1, r2) := by first | (rw [hji23] at H; exact H) | (simp only [hji23] at H ⊢; exact H)
     by_cases c24 : 0 ≤ (ji23)
     rotate_left
     ·rw [if_neg c24] at H; exact absurd H (by simp)
     rw [if_pos c24] at H; have c24b0 := eq_true c24; have c24b1 : decide (0 ≤ (ji23)) = true := decide_eq_true c24; clear c24; obtain ⟨ji25, hji25⟩ : ∃ j_ : Int, (shr .u64 (rd x6_1 x26_1) (ji23)) = j_ := ⟨_, rfl⟩; (replace H : ((some (x6_1.set (x26_1 : Int).toNat (ji25) : List Int)).bind fun y647 => (if (wrap64 (x26_1 + 1)) < (x6_1.length : Int) then (if 0 ≤ (wrap64 (x26_1 + 1)) then (if 0 ≤ (IntKind.u64.wrap (64 - (ji23))) then (quot_Shr.l0 k1 (y647.set (x26_1 : Int).toNat (Go.bits .or .u64 (rd y647 x26_1) (shl .u64 (rd y647 (wrap64 (x26_1 + 1))) (IntKind.u64.wrap (64 - (ji23)))))) (ji23) (y643.length : Int) (wrap64 (x26_1 + 1))) else (none)) else (none)) else (quot_Shr.l0 k1 y647 (ji23) (y643.length : Int) (wrap64 (x26_1 + 1))))) = some (r1, r2) := by first | (rw [hji25] at H; exact H) | (simp only [hji25] at H ⊢; exact H)); have hji25_ : ((rd x6_1 x26_1) / 2 ^ min (ji23).toNat 64) = ji25 := hji25; have hji25z : (ji23) ≤ 64 → ((rd x6_1 x26_1) / 2 ^ (ji23).toNat) = ji25 := shr_small hji25; obtain ⟨y647, hy647⟩ : ∃ y_ : List Int, y_ = (x6_1.set (x26_1 : Int).toNat (ji25)) := ⟨_, rfl⟩; (replace H : (if (wrap64 (x26_1 + 1)) < (x6_1.length : Int) then (if 0 ≤ (wrap64 (x26_1 + 1)) then (if 0 ≤ (IntKind.u64.wrap (64 - (ji23))) then (quot_Shr.l0 k1 (y647.set (x26_1 : Int).toNat (Go.bits .or .u64 (rd y647 x26_1) (shl .u64 (rd y647 (wrap64 (x26_1 + 1))) (IntKind.u64.wrap (64 - (ji23)))))) (ji23) (y643.length : Int) (wrap64 (x26_1 + 1))) else (none)) else (none)) else (quot_Shr.l0 k1 y647 (ji23) (y643.length : Int) (wrap64 (x26_1 + 1)))) = some (r1, r2) := by first | (rw [hy647]; with_reducible exact H) | (have H2_ := (Option.bind_some _ _).symm.trans H; rw [hy647]; with_reducible exact H2_) | (have H2_ := (Option.bind_some _ _).symm.trans H; with_reducible exact H2_) | with_reducible exact H | (rw [hy647]; exact H) | exact H); have Ny647 := m0 hy647; clear hy647
     by_cases c27 : (wrap64 (x26_1 + 1)) < (x6_1.length : Int)
     ·rw [if_pos c27] at H; have c27b0 : decide ((wrap64 (x26_1 + 1)) < (x6_1.length : Int)) = true := decide_eq_true c27; have c27b0x := c27b0; (try simp only [hl6_1] at c27b0x); clear c27; obtain ⟨ji28, hji28⟩ : ∃ j_ : Int, (wrap64 (x26_1 + 1)) = j_ := ⟨_, rfl⟩; (replace H : (if 0 ≤ (ji28) then (if 0 ≤ (IntKind.u64.wrap (64 - (ji23))) then (quot_Shr.l0 k1 (y647.set (x26_1 : Int).toNat (Go.bits .or .u64 (rd y647 x26_1) (shl .u64 (rd y647 (ji28)) (IntKind.u64.wrap (64 - (ji23)))))) (ji23) (y643.length : Int) ji28) else (none)) else (none)) = some (r1, r2) := by first | (rw [hji28] at H; exact H) | (simp only [hji28] at H ⊢; exact H)); (try rw [hji28] at c27b0); have hji28w : (IntKind.i64.wrap (x26_1 + 1)) = ji28 := (i64_w _).trans hji28
      by_cases c29 : 0 ≤ (ji28)
      rotate_left
      ·rw [if_neg c29] at H; exact absurd H (by simp)
      rw [if_pos c29] at H; have c29b0 : decide (0 ≤ (ji28)) = true := decide_eq_true c29; clear c29; obtain ⟨ji30, hji30⟩ : ∃ j_ : Int, (IntKind.u64.wrap (64 - (ji23))) = j_ := ⟨_, rfl⟩; replace H : (if 0 ≤ (ji30) then (quot_Shr.l0 k1 (y647.set (x26_1 : Int).toNat (Go.bits .or .u64 (rd y647 x26_1) (shl .u64 (rd y647 (ji28)) (ji30)))) (ji23) (y643.length : Int) ji28) else (none)) = some (r1, r2) := by first | (rw [hji30] at H; exact H) | (simp only [hji30] at H ⊢; exact H)
      by_cases c31 : 0 ≤ (ji30)
      rotate_left
      ·rw [if_neg c31] at H; exact absurd H (by simp)
      rw [if_pos c31] at H; have c31b0 := eq_true c31; have c31b1 : decide (0 ≤ (ji30)) = true := decide_eq_true c31; clear c31; obtain ⟨ji32, hji32⟩ : ∃ j_ : Int, (shl .u64 (rd y647 (ji28)) (ji30)) = j_ := ⟨_, rfl⟩; (replace H : (quot_Shr.l0 k1 (y647.set (x26_1 : Int).toNat (Go.bits .or .u64 (rd y647 x26_1) (ji32))) (ji23) (y643.length : Int) ji28) = some (r1, r2) := by first | (rw [hji32] at H; exact H) | (simp only [hji32] at H ⊢; exact H)); have hji32_ : (IntKind.u64.wrap ((rd y647 (ji28)) * 2 ^ min (ji30).toNat 64)) = ji32 := hji32; have hji32z : (ji30) ≤ 64 → (IntKind.u64.wrap ((rd y647 (ji28)) * 2 ^ (ji30).toNat)) = ji32 := shl_small hji32; obtain ⟨y650, hy650⟩ : ∃ y_ : List Int, y_ = (y647.set (x26_1 : Int).toNat (Go.bits .or .u64 (rd y647 x26_1) (ji32))) := ⟨_, rfl⟩; (replace H : (quot_Shr.l0 k1 y650 (ji23) (y643.length : Int) ji28) = some (r1, r2) := by first | (rw [hy650]; with_reducible exact H) | (have H2_ := (Option.bind_some _ _).symm.trans H; rw [hy650]; with_reducible exact H2_) | (have H2_ := (Option.bind_some _ _).symm.trans H; with_reducible exact H2_) | with_reducible exact H | (rw [hy650]; exact H) | exact H); have Ny650 := m0 hy650; clear hy650; have H' := m0 H; clear H; have p646 : 0 ≤ (x26_1 : Int) := of_decide_eq_true (by first | (with_reducible assumption) | assumption); have q646 : x26_1 < (x6_1.length : Int) := of_decide_eq_true (by first | (with_reducible assumption) | assumption); obtain ⟨ad646, e646, hx646_0⟩ := Kd.at_int (Kd.Q_reads' HO_6.out).2.2 x26_1 p646 q646; cases e646; replace p646 := eq_true p646; replace q646 := eq_true q646; have p26 : 0 ≤ (x26_1 : Int) := of_decide_eq_true (by first | (with_reducible assumption) | assumption); have q26 : (x26_1 : Int) < ((x6_1.length : Int) : Int) := of_decide_eq_true (by first | (with_reducible assumption) | assumption); obtain ⟨go26, oo26, K1, j1, g2, gl26, cl26, HG26⟩ := Kd.Q_form HO_6.out (by omega); (first | cases j1 | (injection j1 with ea_ en_ ec_; (first | subst ea_ | (injection ea_ with ea_; subst ea_)); subst ec_; clear en_)); have GB26 := m0 g2; have GG26 := m0 HG26; clear g2 gl26 HG26; (first | simp only [add_at] at hx646_0 | skip); obtain ⟨hx26_0, hf26_0⟩ := Kd.Q_cell 0 HO_6.out (x26_1 : Int) p26 q26; replace p26 := eq_true p26; replace q26 := eq_true q26; have HP34 := Kd.Q_putg HO_6.out (x26_1 : Int) (of_decide_eq_true (by first | (with_reducible assumption) | assumption)) (by have h_ : (x26_1 : Int) < ((x6_1.length : Int) : Int) := of_decide_eq_true (by first | (with_reducible assumption) | assumption); first | exact h_ | (have e_ := (Kd.Q_reads' HO_6.out).1; omega) | simpa using h_) ji25
      try go_wp2_with (first | ((with_reducible refine gate_store (t := 27) (p := 35) rfl ?_); refine store_event (t := 27) (p := 35) (v := ?vo_w35) (w1 := (wr.setCell ⟨go26, oo26 + (x26_1 : Int).toNat, none⟩ (.int .u64 ji25))) ?hg ?ho ?hn ?hr ?_; (case ho => rfl); (case hg => rfl); (case hn => rfl); (case hr => first | (go_simp; done) | (go_simp; rfl)); intro w35 hw; have hg : wr.grownBy w35 (some go26) := (by rw [hw]; exact HP34.2); have hp_ : Kd.Q (Kd.int .u64) 27 w35 w.heap.size (fun k_ => (w.heap.size ≤ k_)) (.slice (some ⟨go26, oo26, none⟩) x6_1.length c19) y647 := (by rw [hw, Ny647.out]; exact HP34.1); clear HP34; replace b0 := m0 (blk_grown (g := g0) (o := .cells #[.slice A0_0 l0_0.length c0_0] 25 (0, 0)) b0.1 hg (Kd.Q_ne HO_6.out b0.1 (by decide))); replace b1 := m0 (blk_grown (g := g1) (o := .cells #[.slice none 0 0] 25 (0, 0)) b1.1 hg (Kd.Q_ne HO_6.out b1.1 (by decide))); replace HO_6 := m0 (hp_); replace HB := m0 ((by rw [hw]; exact below_set (HB.1) GB26.out : Below w.heap.size w w35)); clear hg hw hp_))
      replace HO_6 := m0 (Kd.Q_drew HO_6.out); replace b0 := bd b0; replace b1 := bd b1; replace HB := sd HB; have p648 : 0 ≤ (x26_1 : Int) := of_decide_eq_true (by first | (with_reducible assumption) | assumption); have q648 : x26_1 < (y647.length : Int) := (by have h_ : (x26_1 : Int) < ((x6_1.length : Int) : Int) := of_decide_eq_true (by first | (with_reducible assumption) | assumption); first | (have e_ := (Kd.Q_reads' HO_6.out).1; omega) | simpa only [Ny647.out, List.length_set] using h_); have ql648 : ((x26_1 : Int) < ((x6_1.length : Int) : Int)) = True := eq_true (of_decide_eq_true (by first | (with_reducible assumption) | assumption)); obtain ⟨ad648, e648, hx648_0⟩ := Kd.at_int (Kd.Q_reads' HO_6.out).2.2 x26_1 p648 q648; obtain rfl : (⟨go26, oo26, none⟩ : Addr) = ad648 := (by injection e648); (first | simp only [add_plain] at hx648_0 | simp only [add_at] at hx648_0 | simp only [Addr.add, Nat.zero_add] at hx648_0 | skip); replace p648 := eq_true p648; replace q648 := eq_true q648; have p649 : 0 ≤ ((ji28) : Int) := of_decide_eq_true (by first | (with_reducible assumption) | assumption); have q649 : (ji28) < (y647.length : Int) := (by have h_ : ((ji28) : Int) < ((x6_1.length : Int) : Int) := of_decide_eq_true (by first | (with_reducible assumption) | assumption); first | (have e_ := (Kd.Q_reads' HO_6.out).1; omega) | simpa only [Ny647.out, List.length_set] using h_); have ql649 : (((ji28) : Int) < ((x6_1.length : Int) : Int)) = True := eq_true (of_decide_eq_true (by first | (with_reducible assumption) | assumption)); obtain ⟨ad649, e649, hx649_0⟩ := Kd.at_int (Kd.Q_reads' HO_6.out).2.2 (ji28) p649 q649; obtain rfl : (⟨go26, oo26, none⟩ : Addr) = ad649 := (by injection e649); (first | simp only [add_plain] at hx649_0 | simp only [add_at] at hx649_0 | simp only [Addr.add, Nat.zero_add] at hx649_0 | skip); replace p649 := eq_true p649; replace q649 := eq_true q649; have p33 : 0 ≤ (x26_1 : Int) := of_decide_eq_true (by first | (with_reducible assumption) | assumption); have q33 : (x26_1 : Int) < ((x6_1.length : Int) : Int) := of_decide_eq_true (by first | (with_reducible assumption) | assumption); obtain ⟨hx33_0, hf33_0⟩ := Kd.Q_cell 0 HO_6.out (x26_1 : Int) p33 q33; replace p33 := eq_true p33; replace q33 := eq_true q33; have HP37 := (Kd.Q_putg HO_6.out (x26_1 : Int) (of_decide_eq_true (by first | (with_reducible assumption) | assumption)) (by have h_ : (x26_1 : Int) < ((x6_1.length : Int) : Int) := of_decide_eq_true (by first | (with_reducible assumption) | assumption); first | exact h_ | (have e_ := (Kd.Q_reads' HO_6.out).1; omega) | simpa using h_) (Go.bits .or .u64 (rd y647 x26_1) (ji32))).1; rw [← Ny650.out] at HP37; have HQ37 := m0 HP37; clear HP37; refine start_ (n := 15) (S := fun w' => w'.cell? ⟨go26, oo26 + (x26_1).toNat, none⟩ = some (.int .u64 (rd y647 x26_1)) ∧ w'.cell? ⟨go26, oo26 + ((ji28)).toNat, none⟩ = some (.int .u64 (rd y647 (ji28)))) (ds := [14]) (fl 0 15 []) kr rfl rfl ⟨hx648_0, hx649_0⟩ (fun hHeld => ?_); refine with_tabW quot_Shr.tab11 quot_Shr.bits11 (fun HT_ HW_ => ?_)
      generalize w35.drew = w36 at HO_6 b0 b1 HB HQ37 hf33_0 hx33_0 hx648_0 hx649_0 hHeld ⊢
      refine pure_ (i := 0) (N := some 41) (v := ?_) (a' := ?_) (fl 1 15 []) rfl rfl (any_of HT_.1 kr) (fun _ _ _ h => h) (Or.inl ⟨by rfl, ?_⟩) ?_ ?_; rotate_left
      ·intro w'; go_simp; with_reducible rfl
      rotate_left
      ·simp only [Act.put, sA, sB, sC, i64_w, i32_w]; rfl
      refine pure_ (i := 1) (N := some 42) (v := ?_) (a' := ?_) (fl 2 15 []) rfl rfl (any_of HT_.1 kr) (fun _ _ _ h => h) (Or.inl ⟨by rfl, ?_⟩) ?_ ?_; rotate_left
      ·intro w'; go_simp; with_reducible rfl
      rotate_left
      ·simp only [Act.put, sA, sB, sC, i64_w, i32_w]; rfl
      refine pure_ (i := 2) (N := some 43) (v := ?_) (a' := ?_) (fl 3 15 []) rfl rfl (any_of HT_.1 kr) (fun _ _ _ h => h) (Or.inl ⟨by rfl, ?_⟩) ?_ ?_; rotate_left
      ·intro w'; go_simp; with_reducible rfl
      rotate_left
      ·simp only [Act.put, sA, sB, sC, i64_w, i32_w]; rfl
      refine pure_ (i := 4) (N := some 45) (v := ?_) (a' := ?_) (fl 3 15 [4]) rfl rfl (any_of HT_.1 kr) (fun _ _ _ h => h) (Or.inl ⟨by rfl, ?_⟩) ?_ ?_; rotate_left
      ·intro w'; go_simp; with_reducible rfl
      rotate_left
      ·simp only [Act.put, sA, sB, sC, i64_w, i32_w]; rfl
      refine pure_ (i := 5) (N := some 46) (v := ?_) (a' := ?_) (fl 3 15 [4, 5]) rfl rfl (any_of HT_.1 kr) (fun _ _ _ h => h) (Or.inl ⟨by rfl, ?_⟩) ?_ ?_; rotate_left
      ·intro w'; go_simp; with_reducible rfl
      rotate_left
      ·simp only [Act.put, sA, sB, sC, i64_w, i32_w]; rfl
      refine pure_ (i := 6) (N := some 47) (v := ?_) (a' := ?_) (fl 3 15 [4, 5, 6]) rfl rfl (any_of HT_.1 kr) (fun _ _ _ h => h) (Or.inl ⟨by rfl, ?_⟩) ?_ ?_; rotate_left
      ·intro w'; go_simp; with_reducible rfl
      rotate_left
      ·simp only [Act.put, sA, sB, sC, i64_w, i32_w]; rfl
      refine pure_ (i := 7) (N := some 48) (v := ?_) (a' := ?_) (fl 3 15 [4, 5, 6, 7]) rfl rfl (any_of HT_.1 kr) (fun _ _ _ h => h) (Or.inl ⟨by rfl, ?_⟩) ?_ ?_; rotate_left
      ·intro w'; go_simp; with_reducible rfl
      rotate_left
      ·simp only [Act.put, sA, sB, sC, i64_w, i32_w]; rfl
      refine pure_ (i := 9) (N := some 50) (v := ?_) (a' := ?_) (fl 3 15 [4, 5, 6, 7, 9]) rfl rfl (any_of HT_.1 kr) (fun _ _ _ h => h) (Or.inl ⟨by rfl, ?_⟩) ?_ ?_; rotate_left
      ·intro w'; go_simp; with_reducible rfl
      rotate_left
      ·simp only [Act.put, sA, sB, sC, i64_w, i32_w]; rfl
      refine pure_ (i := 10) (N := some 51) (v := ?_) (a' := ?_) (fl 3 15 [4, 5, 6, 7, 9, 10]) rfl rfl (any_of HT_.1 kr) (fun _ _ _ h => h) (Or.inl ⟨by rfl, ?_⟩) ?_ ?_; rotate_left
      ·intro w'; go_simp; with_reducible rfl
      rotate_left
      ·simp only [Act.put, sA, sB, sC, i64_w, i32_w]; rfl
      refine take_ (i := 3) (N := some 44) (v := ?_) (a' := ?_) (fl 8 15 [9, 10]) rfl rfl (take_ofW HT_.1 HW_.1 kr) (fun _ _ _ h => h) (Or.inl ⟨by rfl, ?_⟩) hHeld ?_ ?_; rotate_left
      ·rintro w' ⟨s0, s1⟩; go_simp; with_reducible rfl
      rotate_left
      ·simp only [Act.put, sA, sB, sC, i64_w, i32_w]; rfl
      refine take_ (i := 8) (N := some 49) (v := ?_) (a' := ?_) (fl 11 15 []) rfl rfl (take_ofW HT_.1 HW_.1 kr) (fun _ _ _ h => h) (Or.inl ⟨by rfl, ?_⟩) hHeld ?_ ?_; rotate_left
      ·rintro w' ⟨s0, s1⟩; go_simp; with_reducible rfl
      rotate_left
      ·simp only [Act.put, sA, sB, sC, i64_w, i32_w]; rfl
      refine pure_ (i := 11) (N := some 52) (v := ?_) (a' := ?_) (fl 12 15 []) rfl rfl (any_of HT_.1 kr) (fun _ _ _ h => h) (Or.inl ⟨by rfl, ?_⟩) ?_ ?_; rotate_left
      ·intro w'; go_simp; with_reducible rfl
      rotate_left
      ·simp only [Act.put, sA, sB, sC, i64_w, i32_w]; rfl
      refine pure_ (i := 12) (N := some 53) (v := ?_) (a' := ?_) (fl 13 15 []) rfl rfl (any_of HT_.1 kr) (fun _ _ _ h => h) (Or.inl ⟨by rfl, ?_⟩) ?_ ?_; rotate_left
      ·intro w'; go_simp; with_reducible rfl
      rotate_left
      ·simp only [Act.put, sA, sB, sC, i64_w, i32_w]; rfl
      refine pure_ (i := 13) (N := some 54) (v := ?_) (a' := ?_) (fl 14 15 []) rfl rfl (any_of HT_.1 kr) (fun _ _ _ h => h) (Or.inl ⟨by rfl, ?_⟩) ?_ ?_; rotate_left
      ·intro w'; go_simp; with_reducible rfl
      rotate_left
      ·simp only [Act.put, sA, sB, sC, i64_w, i32_w]; rfl
      refine last_ (i := 14) (N := none) (fl 15 15 []) rfl rfl (one_of HT_.1 kr) (by decide) (fun K hK => ?_); refine skip_ (w1 := ?_) (by rfl) rfl ?_ ?_; rotate_left
      ·go_simp; rfl
      refine hK.out _ _ ?_; clear hK K; refine done_ (done_of HT_.1 kr) ?_
      try go_wp2
      (try simp only [← hl6_1]); (try simp only [← hji23] at H' ⊢)
      go_roundg k1
      case measure => have := HK1.out; omega
      case rel => exact ⟨(y650), (ji28), (by first | rfl | (simp; done) | (simp only [← hji28] <;> (first | rfl | simp)) | (simp [*]; done)), H', ⟨by have := HK1.out; omega⟩, ⟨by (try simp only [hl6_1]); (with_reducible repeat (first | apply Kd.Q_alloc | apply Kd.Q_drewN | apply Kd.Q_drew)); exact HQ37.out⟩, ⟨by (try simp only [hl6_1]); (with_reducible repeat (first | refine blk_drewN ?_ _ | refine blk_drew ?_ | refine blk_alloc ?_ _)); refine blk_far ?_ (by have h_ := Kd.Q_ne HO_6.out b0.1 (by decide); intro e_; exact h_ (by rw [e_]; rfl)) _; (with_reducible repeat (first | refine blk_drewN ?_ _ | refine blk_drew ?_ | refine blk_alloc ?_ _)); exact b0.1⟩, ⟨by (try simp only [hl6_1]); (with_reducible repeat (first | refine blk_drewN ?_ _ | refine blk_drew ?_ | refine blk_alloc ?_ _)); refine blk_far ?_ (by have h_ := Kd.Q_ne HO_6.out b1.1 (by decide); intro e_; exact h_ (by rw [e_]; rfl)) _; (with_reducible repeat (first | refine blk_drewN ?_ _ | refine blk_drew ?_ | refine blk_alloc ?_ _)); exact b1.1⟩, ⟨by repeat (first | (with_reducible first | exact HB.1 | apply below_alloc | apply pw_below_drewN | apply below_drew1 | refine below_set ?_ GB26.out | refine below_set ?_ e0.1 | refine below_set ?_ e1.1) | exact HB.1)⟩⟩
     ·rw [if_neg c27] at H; have c27b0 : decide ((wrap64 (x26_1 + 1)) < (x6_1.length : Int)) = false := decide_eq_false c27; have c27b0x := c27b0; (try simp only [hl6_1] at c27b0x); clear c27; have H' := m0 H; clear H; have p646 : 0 ≤ (x26_1 : Int) := of_decide_eq_true (by first | (with_reducible assumption) | assumption); have q646 : x26_1 < (x6_1.length : Int) := of_decide_eq_true (by first | (with_reducible assumption) | assumption); obtain ⟨ad646, e646, hx646_0⟩ := Kd.at_int (Kd.Q_reads' HO_6.out).2.2 x26_1 p646 q646; cases e646; replace p646 := eq_true p646; replace q646 := eq_true q646; have p26 : 0 ≤ (x26_1 : Int) := of_decide_eq_true (by first | (with_reducible assumption) | assumption); have q26 : (x26_1 : Int) < ((x6_1.length : Int) : Int) := of_decide_eq_true (by first | (with_reducible assumption) | assumption); obtain ⟨go26, oo26, K1, j1, g2, gl26, cl26, HG26⟩ := Kd.Q_form HO_6.out (by omega); (first | cases j1 | (injection j1 with ea_ en_ ec_; (first | subst ea_ | (injection ea_ with ea_; subst ea_)); subst ec_; clear en_)); have GB26 := m0 g2; have GG26 := m0 HG26; clear g2 gl26 HG26; (first | simp only [add_at] at hx646_0 | skip); obtain ⟨hx26_0, hf26_0⟩ := Kd.Q_cell 0 HO_6.out (x26_1 : Int) p26 q26; replace p26 := eq_true p26; replace q26 := eq_true q26; have HP38 := Kd.Q_putg HO_6.out (x26_1 : Int) (of_decide_eq_true (by first | (with_reducible assumption) | assumption)) (by have h_ : (x26_1 : Int) < ((x6_1.length : Int) : Int) := of_decide_eq_true (by first | (with_reducible assumption) | assumption); first | exact h_ | (have e_ := (Kd.Q_reads' HO_6.out).1; omega) | simpa using h_) ji25
      go_wp2_with (first | ((with_reducible refine gate_store (t := 27) (p := 35) rfl ?_); refine store_event (t := 27) (p := 35) (v := ?vo_w39) (w1 := (wr.setCell ⟨go26, oo26 + (x26_1 : Int).toNat, none⟩ (.int .u64 ji25))) ?hg ?ho ?hn ?hr ?_; (case ho => rfl); (case hg => rfl); (case hn => rfl); (case hr => first | (go_simp; done) | (go_simp; rfl)); intro w39 hw; have hg : wr.grownBy w39 (some go26) := (by rw [hw]; exact HP38.2); have hp_ : Kd.Q (Kd.int .u64) 27 w39 w.heap.size (fun k_ => (w.heap.size ≤ k_)) (.slice (some ⟨go26, oo26, none⟩) x6_1.length c19) y647 := (by rw [hw, Ny647.out]; exact HP38.1); clear HP38; replace b0 := m0 (blk_grown (g := g0) (o := .cells #[.slice A0_0 l0_0.length c0_0] 25 (0, 0)) b0.1 hg (Kd.Q_ne HO_6.out b0.1 (by decide))); replace b1 := m0 (blk_grown (g := g1) (o := .cells #[.slice none 0 0] 25 (0, 0)) b1.1 hg (Kd.Q_ne HO_6.out b1.1 (by decide))); replace HO_6 := m0 (hp_); replace HB := m0 ((by rw [hw]; exact below_set (HB.1) GB26.out : Below w.heap.size w w39)); clear hg hw hp_))
      (try simp only [← hl6_1]); (try simp only [← hji23] at H' ⊢)
      go_roundg k1
      case measure => have := HK1.out; omega
      case rel => exact ⟨(y647), (wrap64 (x26_1 + 1)), (by first | rfl | (simp; done) | (simp [*]; done)), H', ⟨by have := HK1.out; omega⟩, ⟨by (try simp only [hl6_1]); (with_reducible repeat (first | apply Kd.Q_alloc | apply Kd.Q_drewN | apply Kd.Q_drew)); exact HO_6.out⟩, ⟨by (try simp only [hl6_1]); (with_reducible repeat (first | refine blk_drewN ?_ _ | refine blk_drew ?_ | refine blk_alloc ?_ _)); exact b0.1⟩, ⟨by (try simp only [hl6_1]); (with_reducible repeat (first | refine blk_drewN ?_ _ | refine blk_drew ?_ | refine blk_alloc ?_ _)); exact b1.1⟩, ⟨by repeat (first | (with_reducible first | exact HB.1 | apply below_alloc | apply pw_below_drewN | apply below_drew1 | refine below_set ?_ e0.1 | refine below_set ?_ e1.1) | exact HB.1)⟩⟩
    ·rw [if_neg c20] at H; have c20b0 : decide (x26_1 < (y643.length : Int)) = false := decide_eq_false c20; have c20b0x := c20b0; (try simp only [hl6_1] at c20b0x); clear c20; replace H := Option.bind_eq_some_iff.mp H; obtain ⟨t651, A400, H⟩ := H; (try dsimp only at H); have A40 := m0 A400; clear A400; simp only [Option.some.injEq, Prod.mk.injEq] at H; obtain ⟨rfl, rfl⟩ := H
     go_wp2_with (first | ((with_reducible refine gate_callee (f := 14) rfl ?_); refine goesL_ (some 57) rfl rfl Try.func14 kr rfl #[.slice A19 x6_1.length c19] rfl gm ?_; (with_reducible refine (nat_Of.calls k1 _ _ x6_1 t651 _ ?side1 ?side2 A40.1).mono ?_); (case side1 => repeat (first | exact (Kd.Q_reads' HO_6.out).2.2 | (with_reducible refine Kd.C_alloc ?_ _) | (with_reducible refine Kd.C_drewN ?_ _) | (with_reducible refine Kd.C_drew ?_))); (case side2 => exact (Kd.Q_reads' HO_6.out).2.1); rintro e w41 ⟨v652, rfl, ho0, hb⟩; refine ⟨_, rfl, ?_⟩; have a4 := m0 (Kd.V_lower (Kd.V_mono (ok' := fun k_ => (w.heap.size ≤ k_) ∧ some k_ ≠ (.slice A19 x6_1.length c19 : Value).ownBlock ∧ k_ ≠ g0 ∧ k_ ≠ g1) ho0 (fun k_ hk_ => ⟨(Nat.le_trans (bz HB.1) hk_), (Kd.fresh' (Kd.Q_lt (by (with_reducible repeat (first | apply Kd.Q_alloc | apply Kd.Q_drewN | apply Kd.Q_drew)); exact HO_6.out)) k_ hk_), fb b0.1 k_ hk_, fb b1.1 k_ hk_⟩)) (bz HB.1)); replace HO_6 := m0 (Kd.Q_below (by (with_reducible repeat (first | apply Kd.Q_alloc | apply Kd.Q_drewN | apply Kd.Q_drew)); exact HO_6.out) hb); replace b0 := ba b0 hb; replace b1 := ba b1 hb; replace HB := sa HB hb; clear hb ho0; obtain ⟨D1, K2, j2⟩ := Kd.V_slice a4.1; subst j2; have hnb43 := z1.1; have hnc43 := z0.1; have hcz44_0 : w41.cell? ⟨g1, 0, none⟩ = some (.slice none 0 0) := bc b1; have hfz44_0 := blk_frozen b1.1 0))
     refine bodyPost_ret (results_ct rfl _ _ g1 25 #[.slice D1 t651.length K2] (0, 0) _ rfl (by (with_reducible repeat (first | refine blk_drewN ?_ _ | refine blk_drew ?_ | refine blk_alloc ?_ _)); refine blk_put (cs := #[.slice none 0 0]) ?_ 0 _ rfl; (with_reducible repeat (first | refine blk_drewN ?_ _ | refine blk_drew ?_ | refine blk_alloc ?_ _)); exact b1.1) Try.underlying25 rfl kr) rfl ?_; exact ⟨_, by first | rfl | (simp [errW_none, errW_some] <;> rfl) | (simp only [← hji10]; first | rfl | (simp [errW_none, errW_some] <;> rfl)) | (simp [*, errW_none, errW_some] <;> rfl), by (with_reducible repeat (first | apply Kd.V_alloc | apply Kd.V_drewN | apply Kd.V_drew)); exact Kd.V_mono (Kd.V_far (p := ⟨g1, 0, none⟩) (Kd.V_mono a4.1 (fun _ hk => And.intro hk hk.2.2.2)) (fun _ hk => hk.2) (.slice D1 t651.length K2)) (fun _ hk => hk.1.1), by repeat (first | (with_reducible first | exact HB.1 | apply below_alloc | apply pw_below_drewN | apply below_drew1 | refine below_set ?_ e0.1 | refine below_set ?_ e1.1) | exact HB.1)⟩
def quot_moved.l0 : Nat → Int → List Int → List Int → Int → Int → Option (List Int)
 | 0, _, _, _, _, _ => none
 | k + 1, x1, x5, x12, x13, x14 => if x14 < x13 then (if 0 ≤ x14 then (if x14 < (x12.length : Int) then (if x14 < (x5.length : Int) then (if 0 ≤ x1 then (if 0 ≤ (IntKind.u64.wrap (64 - x1)) then (if 0 ≤ (wrap64 (x14 + 1)) then (if (wrap64 (x14 + 1)) < (x5.length : Int) then (quot_moved.l0 k x1 ((x5.set (x14 : Int).toNat (Go.bits .or .u64 (rd x5 x14) (shl .u64 (rd x12 x14) x1))).set ((wrap64 (x14 + 1)) : Int).toNat (shr .u64 (rd x12 x14) (IntKind.u64.wrap (64 - x1)))) x12 x13 (wrap64 (x14 + 1))) else (none)) else (none)) else (none)) else (none)) else (none)) else (none)) else (none)) else (some x5)
def quot_moved.f (k : Nat) (l0 : List Int) (a1 : Int) : Option (List Int) := if 0 ≤ (wrap64 ((l0.length : Int) + 1)) then (if (wrap64 ((l0.length : Int) + 1) : Int).toNat ≤ 35184372088832 then (quot_moved.l0 k a1 (List.replicate (wrap64 ((l0.length : Int) + 1) : Int).toNat 0) l0 (l0.length : Int) 0) else (none)) else (none)
theorem quot_moved.mono_l : ∀ k, (∀ y0 y1 y2 y3 y4, LeO (quot_moved.l0 k y0 y1 y2 y3 y4) (quot_moved.l0 (k + 1) y0 y1 y2 y3 y4))
 | 0 => fun _ _ _ _ _ r h => by simp [quot_moved.l0] at h
 | k + 1 => by
  have ih0 := quot_moved.mono_l k
  ·intro y0 y1 y2 y3 y4; unfold quot_moved.l0
   repeat' first
   | (with_reducible exact ih0 _ _ _ _ _)
   | (with_reducible exact LeO.refl _)
   | (with_reducible exact LeO.none _)
   | (with_reducible refine LeO.ite ?_ ?_)
   | (with_reducible refine LeO.bind ?_ (fun _ => ?_))
   | exact ih0 _ _ _ _ _
   | exact LeO.none _
   | refine LeO.ite ?_ ?_
   | refine LeO.bind ?_ (fun _ => ?_)
theorem quot_moved.mono : ∀ a0 a1 k, LeO (quot_moved.f k a0 a1) (quot_moved.f (k + 1) a0 a1) := by
 intro a0 a1 k; have ih0 := quot_moved.mono_l k; unfold quot_moved.f
 repeat' first
   | (with_reducible exact ih0 _ _ _ _ _)
   | (with_reducible exact LeO.refl _)
   | (with_reducible exact LeO.none _)
   | (with_reducible refine LeO.ite ?_ ?_)
   | (with_reducible refine LeO.bind ?_ (fun _ => ?_))
   | exact ih0 _ _ _ _ _
   | exact LeO.none _
   | refine LeO.ite ?_ ?_
   | refine LeO.bind ?_ (fun _ => ?_)
set_option maxHeartbeats 8000000 in
set_option maxRecDepth 100000 in
theorem quot_moved.calls (k : Nat) (A0 : Option Addr) (c0 : Nat) (l0 : List Int) (a1 : Int) (r : List Int) (w : World) (hr0 : Kd.C (Kd.int .u64) w A0 l0.length l0) (hc0 : l0.length ≤ c0) (h : quot_moved.f k l0 a1 = some r) :
  Calls Try.prog 58 #[.slice A0 l0.length c0, .int .u64 a1] w fun e w' => ∃ v0_ : Value, e = .returned (v0_) ∧ Kd.R (Kd.int .u64) 27 w' w.heap.size (fun _ => True) v0_ r ∧ Below w.heap.size w w' := by
 have HR0 := m0 hr0; have HC0 := m0 hc0; clear hr0 hc0; have HB := m0 (Below.refl w.heap.size w); have H : (if 0 ≤ (wrap64 ((l0.length : Int) + 1)) then (if (wrap64 ((l0.length : Int) + 1) : Int).toNat ≤ 35184372088832 then (quot_moved.l0 k a1 (List.replicate (wrap64 ((l0.length : Int) + 1) : Int).toNat 0) l0 (l0.length : Int) 0) else (none)) else (none)) = some r := h; clear h; obtain ⟨ji3, hji3⟩ : ∃ j_ : Int, (wrap64 ((l0.length : Int) + 1)) = j_ := ⟨_, rfl⟩; (replace H : (if 0 ≤ (ji3) then (if (ji3 : Int).toNat ≤ 35184372088832 then (quot_moved.l0 k a1 (List.replicate (ji3 : Int).toNat 0) l0 (l0.length : Int) 0) else (none)) else (none)) = some r := by first | (rw [hji3] at H; exact H) | (simp only [hji3] at H ⊢; exact H)); have hji3w : (IntKind.i64.wrap ((l0.length : Int) + 1)) = ji3 := (i64_w _).trans hji3
 by_cases c4 : 0 ≤ (ji3)
 rotate_left
 ·rw [if_neg c4] at H; exact absurd H (by simp)
 rw [if_pos c4] at H; have c4b0 := eq_true c4; have c4b1 : decide (0 ≤ (ji3)) = true := decide_eq_true c4; clear c4
 by_cases c5 : (ji3 : Int).toNat ≤ 35184372088832
 rotate_left
 ·rw [if_neg c5] at H; exact absurd H (by simp)
 rw [if_pos c5] at H; have c5b0 := eq_true c5; have c5b1 : decide ((ji3 : Int).toNat ≤ 35184372088832) = true := decide_eq_true c5; clear c5; obtain ⟨y654, hy654⟩ : ∃ y_ : List Int, y_ = (List.replicate (ji3 : Int).toNat 0) := ⟨_, rfl⟩; (replace H : (quot_moved.l0 k a1 y654 l0 (l0.length : Int) 0) = some r := by first | (rw [hy654]; with_reducible exact H) | (have H2_ := (Option.bind_some _ _).symm.trans H; rw [hy654]; with_reducible exact H2_) | (have H2_ := (Option.bind_some _ _).symm.trans H; with_reducible exact H2_) | with_reducible exact H | (rw [hy654]; exact H) | exact H); have Ny654 := m0 hy654; clear hy654; have H' := m0 H; clear H
 go_enter Try.func58, Try.ntmps58
 go_wp2_with (first | ((with_reducible refine gate_dst (N := 11) rfl ?_); refine Kd.R_make (Kd.int .u64) _ 27 rfl (N := 11) rfl 22 _ _ rfl ji3 rfl rfl Try.underlying22 (.int .u64 0) 8 info27 rfl (by decide) (by omega) 0 (ok := fun _ => True) (okp := fun _ => True) rfl (fun _ hk => hk) trivial (of_decide_eq_true (by first | (with_reducible assumption) | assumption)) (Nat.le_trans (Nat.mul_le_mul_right _ (of_decide_eq_true (by first | (with_reducible assumption) | assumption) : ji3.toNat ≤ 35184372088832)) (by omega)) (Below.refl _ _) (Nat.le_refl _) ?_; intro v655 w6 ho7 hb hg_ hnew_; clear hg_ hnew_; (first | rw [← Ny654.out] at ho7 | (simp only [Int.reduceToNat] at ho7; rw [← Ny654.out] at ho7)); have a2 := m0 (Kd.R_lower ho7 (bz HB.1)); replace HB := sa HB hb; clear hb ho7))
 go_loopg [14] k (fun kq v14 w' => ∃ (x5_1 : List Int) (x14_1 : Int), v14 = .int .i64 x14_1 ∧ Aside0 (quot_moved.l0 kq a1 x5_1 l0 (l0.length : Int) x14_1 = some r) ∧ Aside0 (kq ≤ k) ∧ Aside0 (Kd.R (Kd.int .u64) 27 w' w.heap.size (fun _ => True) v655 x5_1) ∧ Aside0 (Below w.heap.size w w'))
 case atStart => exact ⟨(y654), (0), (by first | rfl | (simp; done) | (simp [*]; done)), H', ⟨Nat.le_refl _⟩, ⟨by (with_reducible repeat (first | apply Kd.R_alloc | apply Kd.R_drewN | apply Kd.R_drew)); exact a2.1⟩, ⟨by repeat (first | (with_reducible first | exact HB.1 | apply below_alloc | apply pw_below_drewN | apply below_drew1) | exact HB.1)⟩⟩
 case round =>
  clear H'; (try clear p2); (try clear c4); (try clear c4b0); (try clear c4b1); (try clear c5); (try clear c5b0); (try clear c5b1); (try clear p6); obtain ⟨x5_1, x14_1, rfl, HA, HK1, HO_5, HB⟩ := hrel; cases gk with
  | zero => exact absurd HA.out (by simp [quot_moved.l0])
  | succ k1 =>
   have H := HA.out; clear HA; simp only [quot_moved.l0] at H
   by_cases c8 : x14_1 < (l0.length : Int)
   ·rw [if_pos c8] at H; have c8b0 : decide (x14_1 < (l0.length : Int)) = true := decide_eq_true c8; clear c8
    by_cases c9 : 0 ≤ x14_1
    rotate_left
    ·rw [if_neg c9] at H; exact absurd H (by simp)
    rw [if_pos c9] at H; have c9b0 : decide (0 ≤ x14_1) = true := decide_eq_true c9; clear c9
    by_cases c10 : x14_1 < (l0.length : Int)
    rotate_left
    ·rw [if_neg c10] at H; exact absurd H (by simp)
    rw [if_pos c10] at H; have c10b0 : decide (x14_1 < (l0.length : Int)) = true := decide_eq_true c10; clear c10
    by_cases c11 : x14_1 < (x5_1.length : Int)
    rotate_left
    ·rw [if_neg c11] at H; exact absurd H (by simp)
    rw [if_pos c11] at H; have c11b0 : decide (x14_1 < (x5_1.length : Int)) = true := decide_eq_true c11; clear c11
    by_cases c12 : 0 ≤ a1
    rotate_left
    ·rw [if_neg c12] at H; exact absurd H (by simp)
    rw [if_pos c12] at H; have c12b0 := eq_true c12; have c12b1 : decide (0 ≤ a1) = true := decide_eq_true c12; clear c12; obtain ⟨ji13, hji13⟩ : ∃ j_ : Int, (shl .u64 (rd l0 x14_1) a1) = j_ := ⟨_, rfl⟩; (replace H : (if 0 ≤ (IntKind.u64.wrap (64 - a1)) then (if 0 ≤ (wrap64 (x14_1 + 1)) then (if (wrap64 (x14_1 + 1)) < (x5_1.length : Int) then (quot_moved.l0 k1 a1 ((x5_1.set (x14_1 : Int).toNat (Go.bits .or .u64 (rd x5_1 x14_1) (ji13))).set ((wrap64 (x14_1 + 1)) : Int).toNat (shr .u64 (rd l0 x14_1) (IntKind.u64.wrap (64 - a1)))) l0 (l0.length : Int) (wrap64 (x14_1 + 1))) else (none)) else (none)) else (none)) = some r := by first | (rw [hji13] at H; exact H) | (simp only [hji13] at H ⊢; exact H)); have hji13_ : (IntKind.u64.wrap ((rd l0 x14_1) * 2 ^ min a1.toNat 64)) = ji13 := hji13; have hji13z : a1 ≤ 64 → (IntKind.u64.wrap ((rd l0 x14_1) * 2 ^ a1.toNat)) = ji13 := shl_small hji13; obtain ⟨y659, hy659⟩ : ∃ y_ : List Int, y_ = (x5_1.set (x14_1 : Int).toNat (Go.bits .or .u64 (rd x5_1 x14_1) (ji13))) := ⟨_, rfl⟩; (replace H : (if 0 ≤ (IntKind.u64.wrap (64 - a1)) then (if 0 ≤ (wrap64 (x14_1 + 1)) then (if (wrap64 (x14_1 + 1)) < (x5_1.length : Int) then (quot_moved.l0 k1 a1 (y659.set ((wrap64 (x14_1 + 1)) : Int).toNat (shr .u64 (rd l0 x14_1) (IntKind.u64.wrap (64 - a1)))) l0 (l0.length : Int) (wrap64 (x14_1 + 1))) else (none)) else (none)) else (none)) = some r := by first | (rw [hy659]; with_reducible exact H) | (have H2_ := (Option.bind_some _ _).symm.trans H; rw [hy659]; with_reducible exact H2_) | (have H2_ := (Option.bind_some _ _).symm.trans H; with_reducible exact H2_) | with_reducible exact H | (rw [hy659]; exact H) | exact H); have Ny659 := m0 hy659; clear hy659; obtain ⟨ji15, hji15⟩ : ∃ j_ : Int, (IntKind.u64.wrap (64 - a1)) = j_ := ⟨_, rfl⟩; replace H : (if 0 ≤ (ji15) then (if 0 ≤ (wrap64 (x14_1 + 1)) then (if (wrap64 (x14_1 + 1)) < (x5_1.length : Int) then (quot_moved.l0 k1 a1 (y659.set ((wrap64 (x14_1 + 1)) : Int).toNat (shr .u64 (rd l0 x14_1) (ji15))) l0 (l0.length : Int) (wrap64 (x14_1 + 1))) else (none)) else (none)) else (none)) = some r := by first | (rw [hji15] at H; exact H) | (simp only [hji15] at H ⊢; exact H)
    by_cases c16 : 0 ≤ (ji15)
    rotate_left
    ·rw [if_neg c16] at H; exact absurd H (by simp)
    rw [if_pos c16] at H; have c16b0 := eq_true c16; have c16b1 : decide (0 ≤ (ji15)) = true := decide_eq_true c16; clear c16; obtain ⟨ji17, hji17⟩ : ∃ j_ : Int, (shr .u64 (rd l0 x14_1) (ji15)) = j_ := ⟨_, rfl⟩; (replace H : (if 0 ≤ (wrap64 (x14_1 + 1)) then (if (wrap64 (x14_1 + 1)) < (x5_1.length : Int) then (quot_moved.l0 k1 a1 (y659.set ((wrap64 (x14_1 + 1)) : Int).toNat (ji17)) l0 (l0.length : Int) (wrap64 (x14_1 + 1))) else (none)) else (none)) = some r := by first | (rw [hji17] at H; exact H) | (simp only [hji17] at H ⊢; exact H)); have hji17_ : ((rd l0 x14_1) / 2 ^ min (ji15).toNat 64) = ji17 := hji17; have hji17z : (ji15) ≤ 64 → ((rd l0 x14_1) / 2 ^ (ji15).toNat) = ji17 := shr_small hji17; obtain ⟨ji18, hji18⟩ : ∃ j_ : Int, (wrap64 (x14_1 + 1)) = j_ := ⟨_, rfl⟩; (replace H : (if 0 ≤ (ji18) then (if (ji18) < (x5_1.length : Int) then (quot_moved.l0 k1 a1 (y659.set ((ji18) : Int).toNat (ji17)) l0 (l0.length : Int) ji18) else (none)) else (none)) = some r := by first | (rw [hji18] at H; exact H) | (simp only [hji18] at H ⊢; exact H)); have hji18w : (IntKind.i64.wrap (x14_1 + 1)) = ji18 := (i64_w _).trans hji18
    by_cases c19 : 0 ≤ (ji18)
    rotate_left
    ·rw [if_neg c19] at H; exact absurd H (by simp)
    rw [if_pos c19] at H; have c19b0 : decide (0 ≤ (ji18)) = true := decide_eq_true c19; clear c19
    by_cases c20 : (ji18) < (x5_1.length : Int)
    rotate_left
    ·rw [if_neg c20] at H; exact absurd H (by simp)
    rw [if_pos c20] at H; have c20b0 : decide ((ji18) < (x5_1.length : Int)) = true := decide_eq_true c20; clear c20; obtain ⟨y660, hy660⟩ : ∃ y_ : List Int, y_ = (y659.set ((ji18) : Int).toNat (ji17)) := ⟨_, rfl⟩; (replace H : (quot_moved.l0 k1 a1 y660 l0 (l0.length : Int) ji18) = some r := by first | (rw [hy660]; with_reducible exact H) | (have H2_ := (Option.bind_some _ _).symm.trans H; rw [hy660]; with_reducible exact H2_) | (have H2_ := (Option.bind_some _ _).symm.trans H; with_reducible exact H2_) | with_reducible exact H | (rw [hy660]; exact H) | exact H); have Ny660 := m0 hy660; clear hy660; have H' := m0 H; clear H; have p657 : 0 ≤ (x14_1 : Int) := of_decide_eq_true (by first | (with_reducible assumption) | assumption); have q657 : x14_1 < (l0.length : Int) := of_decide_eq_true (by first | (with_reducible assumption) | assumption); obtain ⟨ad657, e657, hx657_0⟩ := Kd.at_int HR0.1 x14_1 p657 q657; cases e657; replace hx657_0 := (HB.1.cell (World.block_lt_of_cell? w _ hx657_0)).trans hx657_0; replace p657 := eq_true p657; replace q657 := eq_true q657; obtain ⟨D0, K0, j0⟩ := Kd.R_slice HO_5.out; subst j0; have p658 : 0 ≤ (x14_1 : Int) := of_decide_eq_true (by first | (with_reducible assumption) | assumption); have q658 : x14_1 < (x5_1.length : Int) := of_decide_eq_true (by first | (with_reducible assumption) | assumption); obtain ⟨ad658, e658, hx658_0⟩ := Kd.at_int (Kd.R_reads' HO_5.out).2.2 x14_1 p658 q658; cases e658; replace p658 := eq_true p658; replace q658 := eq_true q658; have p14 : 0 ≤ (x14_1 : Int) := of_decide_eq_true (by first | (with_reducible assumption) | assumption); have q14 : (x14_1 : Int) < ((x5_1.length : Int) : Int) := of_decide_eq_true (by first | (with_reducible assumption) | assumption); obtain ⟨go14, K1, j1, g0, gl14, cl14, HG14⟩ := Kd.R_form HO_5.out (by omega); (first | cases j1 | (injection j1 with ea_ en_ ec_; (first | subst ea_ | (injection ea_ with ea_; subst ea_)); subst ec_; clear en_)); have GB14 := m0 g0; have GG14 := m0 HG14; clear g0 gl14 HG14; (first | simp only [add_plain] at hx658_0 | skip); obtain ⟨hx14_0, hf14_0⟩ := Kd.R_celln 0 HO_5.out (x14_1 : Int) p14 q14; replace p14 := eq_true p14; replace q14 := eq_true q14; have HP23 := Kd.R_putg HO_5.out (x14_1 : Int) (Go.bits .or .u64 (rd x5_1 x14_1) (ji13))
    go_wp2_with (first | ((with_reducible refine gate_store (t := 27) (p := 27) rfl ?_); refine store_event (t := 27) (p := 27) (v := ?vo_w24) (w1 := (wr.setCell ⟨go14, (x14_1 : Int).toNat, none⟩ (.int .u64 (Go.bits .or .u64 (rd x5_1 x14_1) (ji13))))) ?hg ?ho ?hn ?hr ?_; (case ho => rfl); (case hg => rfl); (case hn => rfl); (case hr => first | (go_simp; done) | (go_simp; rfl)); intro w24 hw; have hg : wr.grownBy w24 (some go14) := (by rw [hw]; exact HP23.2); have hp_ : Kd.R (Kd.int .u64) 27 w24 w.heap.size (fun _ => True) (.slice (some ⟨go14, 0, none⟩) x5_1.length K0) y659 := (by rw [hw, Ny659.out]; exact HP23.1); clear HP23; replace HO_5 := m0 (hp_); replace HB := m0 ((by rw [hw]; exact below_set (HB.1) GB14.out : Below w.heap.size w w24)); clear hg hw hp_; have p21 : 0 ≤ ((ji18) : Int) := of_decide_eq_true (by first | (with_reducible assumption) | assumption); have q21 : ((ji18) : Int) < ((x5_1.length : Int) : Int) := of_decide_eq_true (by first | (with_reducible assumption) | assumption); obtain ⟨hx21_0, hf21_0⟩ := Kd.R_celln 0 HO_5.out ((ji18) : Int) p21 q21; replace p21 := eq_true p21; replace q21 := eq_true q21; obtain ⟨hy25_, hz25_⟩ := Kd.R_celln 0 HO_5.out ((ji18) : Int) (of_decide_eq_true (by first | (with_reducible assumption) | assumption)) (of_decide_eq_true (by first | (with_reducible assumption) | assumption)); have HP25 := Kd.R_putg HO_5.out ((ji18) : Int) ji17) | ((with_reducible refine gate_store (t := 27) (p := 35) rfl ?_); refine store_event (t := 27) (p := 35) (v := ?vo_w26) (w1 := (w24.setCell ⟨go14, ((ji18) : Int).toNat, none⟩ (.int .u64 ji17))) ?hg ?ho ?hn ?hr ?_; (case ho => rfl); (case hg => rfl); (case hn => rfl); (case hr => first | (go_simp; done) | (go_simp; rfl)); intro w26 hw; have hg : w24.grownBy w26 (some go14) := (by rw [hw]; exact HP25.2); have hp_ : Kd.R (Kd.int .u64) 27 w26 w.heap.size (fun _ => True) (.slice (some ⟨go14, 0, none⟩) x5_1.length K0) y660 := (by rw [hw, Ny660.out]; exact HP25.1); clear HP25; replace HO_5 := m0 (hp_); replace HB := m0 ((by rw [hw]; exact below_set (HB.1) GB14.out : Below w.heap.size w w26)); clear hg hw hp_))
    (try simp only [← hji15] at H' ⊢)
    go_roundg k1
    case measure => have := HK1.out; omega
    case rel => exact ⟨(y660), (ji18), (by first | rfl | (simp; done) | (simp only [← hji18] <;> (first | rfl | simp)) | (simp [*]; done)), H', ⟨by have := HK1.out; omega⟩, ⟨by (with_reducible repeat (first | apply Kd.R_alloc | apply Kd.R_drewN | apply Kd.R_drew)); exact HO_5.out⟩, ⟨by repeat (first | (with_reducible first | exact HB.1 | apply below_alloc | apply pw_below_drewN | apply below_drew1) | exact HB.1)⟩⟩
   ·rw [if_neg c8] at H; have c8b0 : decide (x14_1 < (l0.length : Int)) = false := decide_eq_false c8; clear c8; obtain rfl := Option.some.inj H
    go_wp2
    go_ret
    exact ⟨_, by first | rfl | (simp [errW_none, errW_some] <;> rfl) | (simp only [← hji3]; first | rfl | (simp [errW_none, errW_some] <;> rfl)) | (simp [*, errW_none, errW_some] <;> rfl), by (with_reducible repeat (first | apply Kd.R_alloc | apply Kd.R_drewN | apply Kd.R_drew)); exact HO_5.out, by repeat (first | (with_reducible first | exact HB.1 | apply below_alloc | apply pw_below_drewN | apply below_drew1) | exact HB.1)⟩
end Go.Proofs.Ytebjbmgfbejapaa.F
end

section
namespace Go.Proofs.Ytebjbmgfbejapaa.F
open Go.RowKit Go.Proofs.YtebjbmgfbejapaaW.PrintWords Go.Proofs.YtebjbmgfbejapaaW.PrintLast Go.Proofs.YtebjbmgfbejapaaW.PrintMore Go.Proofs.YtebjbmgfbejapaaX
attribute [local go_sem] max2_int cell_some xrun_add64 xrun_sub64
attribute [local go_sem] max2_int min2_int max_two min_two max_three min_three max_four min_four
set_option linter.unusedVariables false
set_option linter.unusedSimpArgs false
mutual
def quot_guess.l0 : Nat → List Int → Int → Int → Int → Int → Option (Int)
 | 0, _, _, _, _, _ => none
 | k + 1, x1, x5, x8, x9, x10 => if 0 ≤ (wrap64 (x5 - 2)) then (if (wrap64 (x5 - 2)) < (x1.length : Int) then ((bits_Mul64.f x9 (rd x1 (wrap64 (x5 - 2)))).bind fun bt669 => (if bt669.1 < x10 then (quot_guess.j1 k x1 x5 x8 x9 x10 true) else (if bt669.1 = x10 then (quot_guess.j1 k x1 x5 x8 x9 x10 (decide (bt669.2 ≤ x8))) else (quot_guess.j1 k x1 x5 x8 x9 x10 false)))) else (none)) else (none)
def quot_guess.j1 : Nat → List Int → Int → Int → Int → Int → Bool → Option (Int)
 | 0, _, _, _, _, _, _ => none
 | k + 1, x1, x5, x8, x9, x10, x71 => if x71 = true then (some x9) else (if 0 ≤ (wrap64 (x5 - 1)) then (if (wrap64 (x5 - 1)) < (x1.length : Int) then (if (add64c x10 (rd x1 (wrap64 (x5 - 1))) 0) = 0 then (quot_guess.l0 k x1 x5 x8 (IntKind.u64.wrap (x9 - 1)) (add64s x10 (rd x1 (wrap64 (x5 - 1))) 0)) else (some (IntKind.u64.wrap (x9 - 1)))) else (none)) else (none))
end
def quot_guess.f (k : Nat) (l0 : List Int) (l1 : List Int) : Option (Int) := if 0 ≤ (l1.length : Int) then (if (l1.length : Int) < (l0.length : Int) then (if 0 ≤ (wrap64 ((l1.length : Int) - 1)) then (if (wrap64 ((l1.length : Int) - 1)) < (l0.length : Int) then (if 0 ≤ (wrap64 ((l1.length : Int) - 2)) then (if (wrap64 ((l1.length : Int) - 2)) < (l0.length : Int) then (if (wrap64 ((l1.length : Int) - 1)) < (l1.length : Int) then (if (rd l0 (l1.length : Int)) ≥ (rd l1 (wrap64 ((l1.length : Int) - 1))) then (some 18446744073709551615) else ((bits_Div64.f k (rd l0 (l1.length : Int)) (rd l0 (wrap64 ((l1.length : Int) - 1))) (rd l1 (wrap64 ((l1.length : Int) - 1)))).bind fun bt666 => (quot_guess.l0 k l1 (l1.length : Int) (rd l0 (wrap64 ((l1.length : Int) - 2))) bt666.1 bt666.2))) else (none)) else (none)) else (none)) else (none)) else (none)) else (none)) else (none)
theorem quot_guess.mono_l : ∀ k, (∀ y0 y1 y2 y3 y4, LeO (quot_guess.l0 k y0 y1 y2 y3 y4) (quot_guess.l0 (k + 1) y0 y1 y2 y3 y4)) ∧ (∀ y0 y1 y2 y3 y4 y5, LeO (quot_guess.j1 k y0 y1 y2 y3 y4 y5) (quot_guess.j1 (k + 1) y0 y1 y2 y3 y4 y5))
 | 0 => ⟨fun _ _ _ _ _ r h => by simp [quot_guess.l0] at h, fun _ _ _ _ _ _ r h => by simp [quot_guess.j1] at h⟩
 | k + 1 => by
  obtain ⟨ih0, ih1⟩ := quot_guess.mono_l k; refine ⟨?_, ?_⟩
  ·intro y0 y1 y2 y3 y4; unfold quot_guess.l0
   repeat' first
   | (with_reducible exact ih0 _ _ _ _ _)
   | (with_reducible exact ih1 _ _ _ _ _ _)
   | (with_reducible exact bits_Div64.mono _ _ _ _)
   | (with_reducible exact LeO.refl _)
   | (with_reducible exact LeO.none _)
   | (with_reducible refine LeO.ite ?_ ?_)
   | (with_reducible refine LeO.bind ?_ (fun _ => ?_))
   | exact ih0 _ _ _ _ _
   | exact ih1 _ _ _ _ _ _
   | exact bits_Div64.mono _ _ _ _
   | exact LeO.none _
   | refine LeO.ite ?_ ?_
   | refine LeO.bind ?_ (fun _ => ?_)
  ·intro y0 y1 y2 y3 y4 y5; unfold quot_guess.j1
   repeat' first
   | (with_reducible exact ih0 _ _ _ _ _)
   | (with_reducible exact ih1 _ _ _ _ _ _)
   | (with_reducible exact bits_Div64.mono _ _ _ _)
   | (with_reducible exact LeO.refl _)
   | (with_reducible exact LeO.none _)
   | (with_reducible refine LeO.ite ?_ ?_)
   | (with_reducible refine LeO.bind ?_ (fun _ => ?_))
   | exact ih0 _ _ _ _ _
   | exact ih1 _ _ _ _ _ _
   | exact bits_Div64.mono _ _ _ _
   | exact LeO.none _
   | refine LeO.ite ?_ ?_
   | refine LeO.bind ?_ (fun _ => ?_)
theorem quot_guess.mono : ∀ a0 a1 k, LeO (quot_guess.f k a0 a1) (quot_guess.f (k + 1) a0 a1) := by
 intro a0 a1 k; obtain ⟨ih0, ih1⟩ := quot_guess.mono_l k; unfold quot_guess.f
 repeat' first
   | (with_reducible exact ih0 _ _ _ _ _)
   | (with_reducible exact ih1 _ _ _ _ _ _)
   | (with_reducible exact bits_Div64.mono _ _ _ _)
   | (with_reducible exact LeO.refl _)
   | (with_reducible exact LeO.none _)
   | (with_reducible refine LeO.ite ?_ ?_)
   | (with_reducible refine LeO.bind ?_ (fun _ => ?_))
   | exact ih0 _ _ _ _ _
   | exact ih1 _ _ _ _ _ _
   | exact bits_Div64.mono _ _ _ _
   | exact LeO.none _
   | refine LeO.ite ?_ ?_
   | refine LeO.bind ?_ (fun _ => ?_)
set_option maxHeartbeats 8000000 in
set_option maxRecDepth 100000 in
theorem quot_guess.calls (k : Nat) (A0 : Option Addr) (c0 : Nat) (l0 : List Int) (A1 : Option Addr) (c1 : Nat) (l1 : List Int) (r : Int) (w : World) (hr0 : Kd.C (Kd.int .u64) w A0 l0.length l0) (hc0 : l0.length ≤ c0) (hr1 : Kd.C (Kd.int .u64) w A1 l1.length l1) (hc1 : l1.length ≤ c1) (h : quot_guess.f k l0 l1 = some r) :
  Calls Try.prog 65 #[.slice A0 l0.length c0, .slice A1 l1.length c1] w fun e w' => e = .returned (.int .u64 r) ∧ Drawn0 w w' := by
 have HR0 := m0 hr0; have HC0 := m0 hc0; clear hr0 hc0; have HR1 := m0 hr1; have HC1 := m0 hc1; clear hr1 hc1; have H : (if 0 ≤ (l1.length : Int) then (if (l1.length : Int) < (l0.length : Int) then (if 0 ≤ (wrap64 ((l1.length : Int) - 1)) then (if (wrap64 ((l1.length : Int) - 1)) < (l0.length : Int) then (if 0 ≤ (wrap64 ((l1.length : Int) - 2)) then (if (wrap64 ((l1.length : Int) - 2)) < (l0.length : Int) then (if (wrap64 ((l1.length : Int) - 1)) < (l1.length : Int) then (if (rd l0 (l1.length : Int)) ≥ (rd l1 (wrap64 ((l1.length : Int) - 1))) then (some 18446744073709551615) else ((bits_Div64.f k (rd l0 (l1.length : Int)) (rd l0 (wrap64 ((l1.length : Int) - 1))) (rd l1 (wrap64 ((l1.length : Int) - 1)))).bind fun bt666 => (quot_guess.l0 k l1 (l1.length : Int) (rd l0 (wrap64 ((l1.length : Int) - 2))) bt666.1 bt666.2))) else (none)) else (none)) else (none)) else (none)) else (none)) else (none)) else (none)) = some r := h; clear h
 by_cases c3 : 0 ≤ (l1.length : Int)
 rotate_left
 ·rw [if_neg c3] at H; exact absurd H (by simp)
 rw [if_pos c3] at H; have c3b0 : decide (0 ≤ (l1.length : Int)) = true := decide_eq_true c3; have c3b1 : decide (0 ≤ l1.length) = true := decide_eq_true (by omega); clear c3
 by_cases c4 : (l1.length : Int) < (l0.length : Int)
 rotate_left
 ·rw [if_neg c4] at H; exact absurd H (by simp)
 rw [if_pos c4] at H; have c4b0 : decide ((l1.length : Int) < (l0.length : Int)) = true := decide_eq_true c4; have c4b1 : decide (l1.length < l0.length) = true := decide_eq_true (Int.ofNat_lt.mp c4); clear c4; obtain ⟨ji5, hji5⟩ : ∃ j_ : Int, (wrap64 ((l1.length : Int) - 1)) = j_ := ⟨_, rfl⟩; (replace H : (if 0 ≤ (ji5) then (if (ji5) < (l0.length : Int) then (if 0 ≤ (wrap64 ((l1.length : Int) - 2)) then (if (wrap64 ((l1.length : Int) - 2)) < (l0.length : Int) then (if (ji5) < (l1.length : Int) then (if (rd l0 (l1.length : Int)) ≥ (rd l1 (ji5)) then (some 18446744073709551615) else ((bits_Div64.f k (rd l0 (l1.length : Int)) (rd l0 (ji5)) (rd l1 (ji5))).bind fun bt666 => (quot_guess.l0 k l1 (l1.length : Int) (rd l0 (wrap64 ((l1.length : Int) - 2))) bt666.1 bt666.2))) else (none)) else (none)) else (none)) else (none)) else (none)) = some r := by first | (rw [hji5] at H; exact H) | (simp only [hji5] at H ⊢; exact H)); have hji5w : (IntKind.i64.wrap ((l1.length : Int) - 1)) = ji5 := (i64_w _).trans hji5
 by_cases c6 : 0 ≤ (ji5)
 rotate_left
 ·rw [if_neg c6] at H; exact absurd H (by simp)
 rw [if_pos c6] at H; have c6b0 : decide (0 ≤ (ji5)) = true := decide_eq_true c6; clear c6
 by_cases c7 : (ji5) < (l0.length : Int)
 rotate_left
 ·rw [if_neg c7] at H; exact absurd H (by simp)
 rw [if_pos c7] at H; have c7b0 : decide ((ji5) < (l0.length : Int)) = true := decide_eq_true c7; clear c7; obtain ⟨ji8, hji8⟩ : ∃ j_ : Int, (wrap64 ((l1.length : Int) - 2)) = j_ := ⟨_, rfl⟩; (replace H : (if 0 ≤ (ji8) then (if (ji8) < (l0.length : Int) then (if (ji5) < (l1.length : Int) then (if (rd l0 (l1.length : Int)) ≥ (rd l1 (ji5)) then (some 18446744073709551615) else ((bits_Div64.f k (rd l0 (l1.length : Int)) (rd l0 (ji5)) (rd l1 (ji5))).bind fun bt666 => (quot_guess.l0 k l1 (l1.length : Int) (rd l0 (ji8)) bt666.1 bt666.2))) else (none)) else (none)) else (none)) = some r := by first | (rw [hji8] at H; exact H) | (simp only [hji8] at H ⊢; exact H)); have hji8w : (IntKind.i64.wrap ((l1.length : Int) - 2)) = ji8 := (i64_w _).trans hji8
 by_cases c9 : 0 ≤ (ji8)
 rotate_left
 ·rw [if_neg c9] at H; exact absurd H (by simp)
 rw [if_pos c9] at H; have c9b0 : decide (0 ≤ (ji8)) = true := decide_eq_true c9; clear c9
 by_cases c10 : (ji8) < (l0.length : Int)
 rotate_left
 ·rw [if_neg c10] at H; exact absurd H (by simp)
 rw [if_pos c10] at H; have c10b0 : decide ((ji8) < (l0.length : Int)) = true := decide_eq_true c10; clear c10
 by_cases c11 : (ji5) < (l1.length : Int)
 rotate_left
 ·rw [if_neg c11] at H; exact absurd H (by simp)
 rw [if_pos c11] at H; have c11b0 : decide ((ji5) < (l1.length : Int)) = true := decide_eq_true c11; clear c11
 by_cases c12 : (rd l0 (l1.length : Int)) ≥ (rd l1 (ji5))
 ·rw [if_pos c12] at H; have c12b0 : decide ((rd l1 (ji5)) ≤ (rd l0 (l1.length : Int))) = true := decide_eq_true c12; clear c12; obtain rfl := Option.some.inj H; have p661 : 0 ≤ ((l1.length : Int) : Int) := of_decide_eq_true (by first | (with_reducible assumption) | assumption); have q661 : (l1.length : Int) < (l0.length : Int) := of_decide_eq_true (by first | (with_reducible assumption) | assumption); obtain ⟨ad661, e661, hx661_0⟩ := Kd.at_int HR0.1 (l1.length : Int) p661 q661; cases e661; (try simp only [Go.IntWalk.toNatUp] at hx661_0); replace p661 := eq_true p661; replace q661 := eq_true q661; have p662 : 0 ≤ ((ji5) : Int) := of_decide_eq_true (by first | (with_reducible assumption) | assumption); have q662 : (ji5) < (l0.length : Int) := of_decide_eq_true (by first | (with_reducible assumption) | assumption); obtain ⟨ad662, e662, hx662_0⟩ := Kd.at_int HR0.1 (ji5) p662 q662; obtain rfl : ad661 = ad662 := (by injection e662); replace p662 := eq_true p662; replace q662 := eq_true q662; have p663 : 0 ≤ ((ji8) : Int) := of_decide_eq_true (by first | (with_reducible assumption) | assumption); have q663 : (ji8) < (l0.length : Int) := of_decide_eq_true (by first | (with_reducible assumption) | assumption); obtain ⟨ad663, e663, hx663_0⟩ := Kd.at_int HR0.1 (ji8) p663 q663; obtain rfl : ad661 = ad663 := (by injection e663); replace p663 := eq_true p663; replace q663 := eq_true q663; have p664 : 0 ≤ ((ji5) : Int) := of_decide_eq_true (by first | (with_reducible assumption) | assumption); have q664 : (ji5) < (l1.length : Int) := of_decide_eq_true (by first | (with_reducible assumption) | assumption); obtain ⟨ad664, e664, hx664_0⟩ := Kd.at_int HR1.1 (ji5) p664 q664; cases e664; replace p664 := eq_true p664; replace q664 := eq_true q664
  go_enter Try.func65, Try.ntmps65
  go_wp2
  refine wp_scope_label 0 (fun _ _ _ => False) rfl (fun _ _ _ h => h.elim) ?_; intro J_ hJ_
  go_wp2
  repeat (go_quiet (fail); try go_wp2)
  refine jump_ret ?_
  go_ret
  exact ⟨by first | rfl | (simp; done) | (simp only [← hji5, ← hji8] <;> (first | rfl | simp)) | (simp [*]; done), by repeat (first | exact Drawn0.refl _ | apply Drawn0.step)⟩
 ·rw [if_neg c12] at H; have c12b0 : decide ((rd l1 (ji5)) ≤ (rd l0 (l1.length : Int))) = false := decide_eq_false c12; clear c12; replace H := Option.bind_eq_some_iff.mp H; obtain ⟨⟨t666, t667⟩, A130, H⟩ := H; (try dsimp only at H); have A13 := m0 A130; clear A130; have H' := m0 H; clear H; have p661 : 0 ≤ ((l1.length : Int) : Int) := of_decide_eq_true (by first | (with_reducible assumption) | assumption); have q661 : (l1.length : Int) < (l0.length : Int) := of_decide_eq_true (by first | (with_reducible assumption) | assumption); obtain ⟨ad661, e661, hx661_0⟩ := Kd.at_int HR0.1 (l1.length : Int) p661 q661; cases e661; (try simp only [Go.IntWalk.toNatUp] at hx661_0); replace p661 := eq_true p661; replace q661 := eq_true q661; have p662 : 0 ≤ ((ji5) : Int) := of_decide_eq_true (by first | (with_reducible assumption) | assumption); have q662 : (ji5) < (l0.length : Int) := of_decide_eq_true (by first | (with_reducible assumption) | assumption); obtain ⟨ad662, e662, hx662_0⟩ := Kd.at_int HR0.1 (ji5) p662 q662; obtain rfl : ad661 = ad662 := (by injection e662); replace p662 := eq_true p662; replace q662 := eq_true q662; have p663 : 0 ≤ ((ji8) : Int) := of_decide_eq_true (by first | (with_reducible assumption) | assumption); have q663 : (ji8) < (l0.length : Int) := of_decide_eq_true (by first | (with_reducible assumption) | assumption); obtain ⟨ad663, e663, hx663_0⟩ := Kd.at_int HR0.1 (ji8) p663 q663; obtain rfl : ad661 = ad663 := (by injection e663); replace p663 := eq_true p663; replace q663 := eq_true q663; have p664 : 0 ≤ ((ji5) : Int) := of_decide_eq_true (by first | (with_reducible assumption) | assumption); have q664 : (ji5) < (l1.length : Int) := of_decide_eq_true (by first | (with_reducible assumption) | assumption); obtain ⟨ad664, e664, hx664_0⟩ := Kd.at_int HR1.1 (ji5) p664 q664; cases e664; replace p664 := eq_true p664; replace q664 := eq_true q664; have p665 : 0 ≤ ((ji5) : Int) := of_decide_eq_true (by first | (with_reducible assumption) | assumption); have q665 : (ji5) < (l1.length : Int) := of_decide_eq_true (by first | (with_reducible assumption) | assumption); obtain ⟨ad665, e665, hx665_0⟩ := Kd.at_int HR1.1 (ji5) p665 q665; obtain rfl : ad664 = ad665 := (by injection e665); replace p665 := eq_true p665; replace q665 := eq_true q665
  go_enter Try.func65, Try.ntmps65
  go_wp2
  refine wp_scope_label 0 (fun kq_ a_ w_ => ∃ (u6 u7 u9 u10 u11 u12 u13 u14 u15 u16 u17 u18 u19 u20 u21 u22 u23 u24 u25 u26 u27 u28 u29 u30 u31 u32 u33 u34 u35 u36 u37 u38 u39 u40 u41 u42 u43 u44 u45 u46 u47 u48 u49 u50 u51 u52 u53 u54 u55 u56 u57 u58 u59 u60 u61 u62 u63 u64 u65 u66 u67 u68 u69 u70 u71 u72 u73 u74 u75 u76 u77 u78 u79 u80 u81 u82 u83 u84 u85 u86 u87 u88 : Value), ((fun kq v9 v10 w' => ∃ (x9_1 : Int) (x10_1 : Int), v9 = .int .u64 x9_1 ∧ v10 = .int .u64 x10_1 ∧ Aside0 (quot_guess.l0 kq l1 (l1.length : Int) (rd l0 (ji8)) x9_1 x10_1 = some r) ∧ Aside0 (kq ≤ k) ∧ Drawn0 w w') kq_ u9 u10 w_) ∧ a_ = { tmps := #[.slice (some ad661) l0.length c0, .slice (some ad664) l1.length c1, undef, undef, .int .u64 0, .int .i64 (l1.length : Int), u6, u7, .int .u64 (rd l0 ji8), u9, u10, u11, u12, u13, u14, u15, u16, u17, u18, u19, u20, u21, u22, u23, u24, u25, u26, u27, u28, u29, u30, u31, u32, u33, u34, u35, u36, u37, u38, u39, u40, u41, u42, u43, u44, u45, u46, u47, u48, u49, u50, u51, u52, u53, u54, u55, u56, u57, u58, u59, u60, u61, u62, u63, u64, u65, u66, u67, u68, u69, u70, u71, u72, u73, u74, u75, u76, u77, u78, u79, u80, u81, u82, u83, u84, u85, u86, u87, u88], defers := [] }) rfl ?pass ?first
  case first =>
   intro J_ hJ_
   go_wp2_with (first | (go_at_call 63; (with_reducible refine (bits_Div64.calls k (rd l0 (l1.length : Int)) (rd l0 (ji5)) (rd l1 (ji5)) t666 t667 _ A13.1).mono ?_); rintro e w' ⟨rfl, ⟨nd, rfl⟩⟩; (try first | exact ⟨rfl, _, World.drewN_drewN _ _ _⟩ | exact ⟨rfl, _, Eq.trans (World.drewN_drewN _ _ _) (congrArg (World.drewN _) (Nat.add_assoc _ _ _))⟩)))
   repeat (go_quiet (first | (go_at_call 63; (with_reducible refine (bits_Div64.calls k (rd l0 (l1.length : Int)) (rd l0 (ji5)) (rd l1 (ji5)) t666 t667 _ A13.1).mono ?_); rintro e w' ⟨rfl, ⟨nd, rfl⟩⟩; (try first | exact ⟨rfl, _, World.drewN_drewN _ _ _⟩ | exact ⟨rfl, _, Eq.trans (World.drewN_drewN _ _ _) (congrArg (World.drewN _) (Nat.add_assoc _ _ _))⟩))); try go_wp2_with (first | (go_at_call 63; (with_reducible refine (bits_Div64.calls k (rd l0 (l1.length : Int)) (rd l0 (ji5)) (rd l1 (ji5)) t666 t667 _ A13.1).mono ?_); rintro e w' ⟨rfl, ⟨nd, rfl⟩⟩; (try first | exact ⟨rfl, _, World.drewN_drewN _ _ _⟩ | exact ⟨rfl, _, Eq.trans (World.drewN_drewN _ _ _) (congrArg (World.drewN _) (Nat.add_assoc _ _ _))⟩))))
   go_step3
   go_step
   go_step
   refine hJ_ k _ _ ?_; (repeat apply Exists.intro); refine ⟨?rel, rfl⟩
   case rel => exact ⟨(t666), (t667), (by first | rfl | (simp; done) | (simp [*]; done)), (by first | rfl | (simp; done) | (simp [*]; done)), H', ⟨Nat.le_refl _⟩, by repeat (first | exact Drawn0.refl _ | apply Drawn0.step)⟩
  case pass =>
   intro gk a_ wr hinv K_ hK_; obtain ⟨u6, u7, u9, u10, u11, u12, u13, u14, u15, u16, u17, u18, u19, u20, u21, u22, u23, u24, u25, u26, u27, u28, u29, u30, u31, u32, u33, u34, u35, u36, u37, u38, u39, u40, u41, u42, u43, u44, u45, u46, u47, u48, u49, u50, u51, u52, u53, u54, u55, u56, u57, u58, u59, u60, u61, u62, u63, u64, u65, u66, u67, u68, u69, u70, u71, u72, u73, u74, u75, u76, u77, u78, u79, u80, u81, u82, u83, u84, u85, u86, u87, u88, hrel, ha_⟩ := hinv; subst ha_; (try dsimp only); clear H'; (try clear c1); (try clear p2); (try clear c3); (try clear c3b0); (try clear c3b1); (try clear c4); (try clear c4b0); (try clear c4b1); (try clear c6); (try clear c6b0); (try clear p6); (try clear q6); (try clear hx6); (try clear c7); (try clear c7b0); (try clear c9); (try clear c9b0); (try clear c10); (try clear c10b0); (try clear c11); (try clear c11b0); (try clear c12); (try clear c12b0); (try clear hx661_0); (try clear hx662_0); (try clear hx663_0); (try clear hx664_0); (try clear hx665_0); (try clear p661); (try clear p662); (try clear p663); (try clear p664); (try clear p665); (try clear q661); (try clear q662); (try clear q663); (try clear q664); (try clear q665); obtain ⟨x9_1, x10_1, rfl, rfl, HA, HK1, ⟨m1, rfl⟩⟩ := hrel; cases gk with
   | zero => exact absurd HA.out (by simp [quot_guess.l0])
   | succ k1 =>
    have H := HA.out; clear HA; simp only [quot_guess.l0] at H; replace H : (if 0 ≤ (ji8) then (if (ji8) < (l1.length : Int) then ((bits_Mul64.f x9_1 (rd l1 (ji8))).bind fun bt669 => (if bt669.1 < x10_1 then (quot_guess.j1 k1 l1 (l1.length : Int) (rd l0 (ji8)) x9_1 x10_1 true) else (if bt669.1 = x10_1 then (quot_guess.j1 k1 l1 (l1.length : Int) (rd l0 (ji8)) x9_1 x10_1 (decide (bt669.2 ≤ (rd l0 (ji8))))) else (quot_guess.j1 k1 l1 (l1.length : Int) (rd l0 (ji8)) x9_1 x10_1 false)))) else (none)) else (none)) = some r := by first | (rw [hji8] at H; exact H) | (simp only [hji8] at H ⊢; exact H)
    by_cases c15 : 0 ≤ (ji8)
    rotate_left
    ·rw [if_neg c15] at H; exact absurd H (by simp)
    rw [if_pos c15] at H; have c15b0 : decide (0 ≤ (ji8)) = true := decide_eq_true c15; clear c15
    by_cases c16 : (ji8) < (l1.length : Int)
    rotate_left
    ·rw [if_neg c16] at H; exact absurd H (by simp)
    rw [if_pos c16] at H; have c16b0 : decide ((ji8) < (l1.length : Int)) = true := decide_eq_true c16; clear c16; replace H := Option.bind_eq_some_iff.mp H; obtain ⟨⟨t669, t670⟩, A170, H⟩ := H; (try dsimp only at H); have A17 := m0 A170; clear A170; have HC18 := m0 H; clear H; have p668 : 0 ≤ ((ji8) : Int) := of_decide_eq_true (by first | (with_reducible assumption) | assumption); have q668 : (ji8) < (l1.length : Int) := of_decide_eq_true (by first | (with_reducible assumption) | assumption); obtain ⟨ad668, e668, hx668_0⟩ := Kd.at_int HR1.1 (ji8) p668 q668; obtain rfl : ad664 = ad668 := (by injection e668); replace p668 := eq_true p668; replace q668 := eq_true q668
    go_upto_region 7 with (first | (go_at_call 61; (with_reducible refine (bits_Mul64.calls x9_1 (rd l1 (ji8)) t669 t670 _ A17.1).mono ?_); rintro e w' ⟨rfl, ⟨nd, rfl⟩⟩; (try first | exact ⟨rfl, _, World.drewN_drewN _ _ _⟩ | exact ⟨rfl, _, Eq.trans (World.drewN_drewN _ _ _) (congrArg (World.drewN _) (Nat.add_assoc _ _ _))⟩)))
    repeat (go_quiet (first | (go_at_call 61; (with_reducible refine (bits_Mul64.calls x9_1 (rd l1 (ji8)) t669 t670 _ A17.1).mono ?_); rintro e w' ⟨rfl, ⟨nd, rfl⟩⟩; (try first | exact ⟨rfl, _, World.drewN_drewN _ _ _⟩ | exact ⟨rfl, _, Eq.trans (World.drewN_drewN _ _ _) (congrArg (World.drewN _) (Nat.add_assoc _ _ _))⟩))); go_upto_region 7 with (first | (go_at_call 61; (with_reducible refine (bits_Mul64.calls x9_1 (rd l1 (ji8)) t669 t670 _ A17.1).mono ?_); rintro e w' ⟨rfl, ⟨nd, rfl⟩⟩; (try first | exact ⟨rfl, _, World.drewN_drewN _ _ _⟩ | exact ⟨rfl, _, Eq.trans (World.drewN_drewN _ _ _) (congrArg (World.drewN _) (Nat.add_assoc _ _ _))⟩))))
    (try simp only [Act.put, sA, sB, sC])
    go_cut [71] (fun v71 wc => ∃ (kq : Nat) (x71_17 : Bool), v71 = .bool x71_17 ∧ Aside0 (quot_guess.j1 kq l1 (l1.length : Int) (rd l0 (ji8)) x9_1 x10_1 x71_17 = some r) ∧ Aside0 (kq ≤ k1) ∧ Drawn0 w wc)
    case first =>
     have H := HC18.1; clear HC18
     by_cases c19 : t669 < x10_1
     ·rw [if_pos c19] at H; have c19b0 : decide (t669 < x10_1) = true := decide_eq_true c19; clear c19; (first | rw [c19b0] | (simp only [i64_w, i32_w]; rw [c19b0]) | skip); have H' := m0 H; clear H
      go_wp2
      repeat (go_quiet (fail); try go_wp2)
      (refine Met.intro ?_; go_step; (repeat apply Exists.intro); refine ⟨?rel, ?frame⟩)
      case frame => first | rfl | (rw [c19b0]; first | done | rfl) | (rw [c16b0]; first | done | rfl) | (rw [c15b0]; first | done | rfl) | (rw [c12b0]; first | done | rfl) | (simp only [c3b0, c3b1, c4b0, c4b1, c6b0, c7b0, c9b0, c10b0, c11b0, c12b0, c15b0, c16b0, c19b0]; first | done | rfl)
      case rel => exact ⟨_, (true), (by first | rfl | (simp; done) | (simp [*]; done)), H', ⟨by have := HK1.out; first | omega | exact Nat.le_refl _⟩, by repeat (first | exact Drawn0.refl _ | apply Drawn0.step)⟩
     ·rw [if_neg c19] at H; have c19b0 : decide (t669 < x10_1) = false := decide_eq_false c19; clear c19; (first | rw [c19b0] | (simp only [i64_w, i32_w]; rw [c19b0]) | skip)
      by_cases c20 : t669 = x10_1
      ·rw [if_pos c20] at H; have c20b0 : (t669 == x10_1) = true := beq_iff_eq.mpr c20; have c20b1 : (t669 != x10_1) = false := bne_eq_false_iff_eq.mpr c20; clear c20; have H' := m0 H; clear H
       go_wp2
       repeat (go_quiet (fail); try go_wp2)
       (refine Met.intro ?_; go_step; (repeat apply Exists.intro); refine ⟨?rel, ?frame⟩)
       case frame => first | rfl | (rw [c20b1]; first | done | rfl) | (rw [c20b0]; first | done | rfl) | (rw [c19b0]; first | done | rfl) | (rw [c16b0]; first | done | rfl) | (simp only [c3b0, c3b1, c4b0, c4b1, c6b0, c7b0, c9b0, c10b0, c11b0, c12b0, c15b0, c16b0, c19b0, c20b0, c20b1]; first | done | rfl)
       case rel => exact ⟨_, (decide (t670 ≤ (rd l0 (ji8)))), (by first | rfl | (simp; done) | (simp only [← hji8] <;> (first | rfl | simp)) | (simp [*]; done)), H', ⟨by have := HK1.out; first | omega | exact Nat.le_refl _⟩, by repeat (first | exact Drawn0.refl _ | apply Drawn0.step)⟩
      ·rw [if_neg c20] at H; have c20b0 : (t669 == x10_1) = false := beq_eq_false_iff_ne.mpr c20; have c20b1 : (t669 != x10_1) = true := bne_iff_ne.mpr c20; have H' := m0 H; clear H
       go_wp2
       repeat (go_quiet (fail); try go_wp2)
       (refine Met.intro ?_; go_step; (repeat apply Exists.intro); refine ⟨?rel, ?frame⟩)
       case frame => first | rfl | (rw [c20b1]; first | done | rfl) | (rw [c20b0]; first | done | rfl) | (rw [c19b0]; first | done | rfl) | (rw [c16b0]; first | done | rfl) | (simp only [c3b0, c3b1, c4b0, c4b1, c6b0, c7b0, c9b0, c10b0, c11b0, c12b0, c15b0, c16b0, c19b0, c20b0, c20b1]; first | done | rfl)
       case rel => exact ⟨_, (false), (by first | rfl | (simp; done) | (simp [*]; done)), H', ⟨by have := HK1.out; first | omega | exact Nat.le_refl _⟩, by repeat (first | exact Drawn0.refl _ | apply Drawn0.step)⟩
    case rest =>
     clear HC18; (try clear c1); (try clear c2); (try clear p2); (try clear c3); (try clear c3b0); (try clear c3b1); (try clear c4); (try clear c4b0); (try clear c4b1); (try clear c6); (try clear c6b0); (try clear p6); (try clear q6); (try clear hx6); (try clear c7); (try clear c7b0); (try clear c9); (try clear c9b0); (try clear c10); (try clear c10b0); (try clear c11); (try clear c11b0); (try clear c12); (try clear c12b0); (try clear c15); (try clear c15b0); (try clear c16); (try clear c16b0); (try clear c19); (try clear c19b0); (try clear c20); (try clear c20b0); (try clear c20b1); (try clear hx661_0); (try clear hx662_0); (try clear hx663_0); (try clear hx664_0); (try clear hx665_0); (try clear hx668_0); (try clear p2); (try clear p6); (try clear p661); (try clear p662); (try clear p663); (try clear p664); (try clear p665); (try clear p668); (try clear q6); (try clear q661); (try clear q662); (try clear q663); (try clear q664); (try clear q665); (try clear q668); obtain ⟨kq, x71_17, rfl, HA, HJ17, ⟨mc17, rfl⟩⟩ := hcut; cases kq with
     | zero => exact absurd HA.out (by simp [quot_guess.j1])
     | succ kj17 =>
      have H := HA.out; clear HA; simp only [quot_guess.j1] at H
      by_cases c21 : x71_17 = true
      ·subst c21; (have H1 : (some x9_1) = some r := by rw [if_pos rfl] at H; exact H); clear H; have H := H1; clear H1; obtain rfl := Option.some.inj H
       go_wp2
       repeat (go_quiet (fail); try go_wp2)
       refine jump_ret ?_
       go_ret
       exact ⟨by first | rfl | (simp; done) | (simp only [← hji5, ← hji8, ← hji8] <;> (first | rfl | simp)) | (simp [*]; done), by repeat (first | exact Drawn0.refl _ | apply Drawn0.step)⟩
      ·replace c21 := Bool.eq_false_iff.mpr c21; subst c21; (have H1 : (if 0 ≤ (wrap64 ((l1.length : Int) - 1)) then (if (wrap64 ((l1.length : Int) - 1)) < (l1.length : Int) then (if (add64c x10_1 (rd l1 (wrap64 ((l1.length : Int) - 1))) 0) = 0 then (quot_guess.l0 kj17 l1 (l1.length : Int) (rd l0 (ji8)) (IntKind.u64.wrap (x9_1 - 1)) (add64s x10_1 (rd l1 (wrap64 ((l1.length : Int) - 1))) 0)) else (some (IntKind.u64.wrap (x9_1 - 1)))) else (none)) else (none)) = some r := by rw [if_neg (show ¬ (false = true) by decide)] at H; exact H); clear H; have H := H1; clear H1; replace H : (if 0 ≤ (ji5) then (if (ji5) < (l1.length : Int) then (if (add64c x10_1 (rd l1 (ji5)) 0) = 0 then (quot_guess.l0 kj17 l1 (l1.length : Int) (rd l0 (ji8)) (IntKind.u64.wrap (x9_1 - 1)) (add64s x10_1 (rd l1 (ji5)) 0)) else (some (IntKind.u64.wrap (x9_1 - 1)))) else (none)) else (none)) = some r := by first | (rw [hji5] at H; exact H) | (simp only [hji5] at H ⊢; exact H)
       by_cases c23 : 0 ≤ (ji5)
       rotate_left
       ·rw [if_neg c23] at H; exact absurd H (by simp)
       rw [if_pos c23] at H; have c23b0 : decide (0 ≤ (ji5)) = true := decide_eq_true c23; clear c23
       by_cases c24 : (ji5) < (l1.length : Int)
       rotate_left
       ·rw [if_neg c24] at H; exact absurd H (by simp)
       rw [if_pos c24] at H; have c24b0 : decide ((ji5) < (l1.length : Int)) = true := decide_eq_true c24; clear c24
       by_cases c25 : (add64c x10_1 (rd l1 (ji5)) 0) = 0
       ·rw [if_pos c25] at H; have c25b0 : ((add64c x10_1 (rd l1 (ji5)) 0) == 0) = true := beq_iff_eq.mpr c25; have c25b1 : ((add64c x10_1 (rd l1 (ji5)) 0) != 0) = false := bne_eq_false_iff_eq.mpr c25; clear c25; have H' := m0 H; clear H; have p671 : 0 ≤ ((ji5) : Int) := of_decide_eq_true (by first | (with_reducible assumption) | assumption); have q671 : (ji5) < (l1.length : Int) := of_decide_eq_true (by first | (with_reducible assumption) | assumption); obtain ⟨ad671, e671, hx671_0⟩ := Kd.at_int HR1.1 (ji5) p671 q671; obtain rfl : ad664 = ad671 := (by injection e671); replace p671 := eq_true p671; replace q671 := eq_true q671
        go_wp2
        repeat (go_quiet (fail); try go_wp2)
        refine wp_goto (jump_goto (Q := fun _ _ _ => True) (hK_ kj17 _ _ ?measure ?_)); rotate_left; (repeat apply Exists.intro); refine ⟨?rel, rfl⟩
        case measure => have := HK1.out; have := HJ17.out; omega
        case rel => exact ⟨(IntKind.u64.wrap (x9_1 - 1)), (add64s x10_1 (rd l1 (ji5)) 0), (by first | rfl | (simp; done) | (simp [*]; done)), (by first | rfl | (simp; done) | (simp only [← hji5] <;> (first | rfl | simp)) | (simp [*]; done)), H', ⟨by have := HK1.out; have := HJ17.out; omega⟩, by repeat (first | exact Drawn0.refl _ | apply Drawn0.step)⟩
       ·rw [if_neg c25] at H; have c25b0 : ((add64c x10_1 (rd l1 (ji5)) 0) == 0) = false := beq_eq_false_iff_ne.mpr c25; have c25b1 : ((add64c x10_1 (rd l1 (ji5)) 0) != 0) = true := bne_iff_ne.mpr c25; obtain rfl := Option.some.inj H; have p671 : 0 ≤ ((ji5) : Int) := of_decide_eq_true (by first | (with_reducible assumption) | assumption); have q671 : (ji5) < (l1.length : Int) := of_decide_eq_true (by first | (with_reducible assumption) | assumption); obtain ⟨ad671, e671, hx671_0⟩ := Kd.at_int HR1.1 (ji5) p671 q671; obtain rfl : ad664 = ad671 := (by injection e671); replace p671 := eq_true p671; replace q671 := eq_true q671
        go_wp2
        repeat (go_quiet (fail); try go_wp2)
        refine jump_ret ?_
        go_ret
        exact ⟨by first | rfl | (simp; done) | (simp only [← hji5, ← hji8, ← hji8, ← hji5] <;> (first | rfl | simp)) | (simp [*]; done), by repeat (first | exact Drawn0.refl _ | apply Drawn0.step)⟩
def quot_guessW.f (k : Nat) (l0 : List Int) (lo_ hi_ : Int) (l1 : List Int) : Option (Int) := if 0 ≤ lo_ ∧ lo_ < hi_ ∧ hi_ ≤ (l0.length : Int) then quot_guess.f k ((l0.take hi_.toNat).drop lo_.toNat) l1 else none
theorem quot_guessW.mono : ∀ a0 a1 a2 a3 k, LeO (quot_guessW.f k a0 a1 a2 a3) (quot_guessW.f (k + 1) a0 a1 a2 a3) := by
 intro a0 a1 a2 a3 k; unfold quot_guessW.f; refine LeO.ite ?_ (LeO.none _); exact quot_guess.mono _ _ _
theorem quot_guessW.calls {lo_ hi_ : Int} (k : Nat) (A0 : Option Addr) (c0 : Nat) (l0 : List Int) (A1 : Option Addr) (c1 : Nat) (l1 : List Int) (r : Int) (w : World) (hr0 : Kd.C (Kd.int .u64) w A0 l0.length l0) (hc0 : l0.length ≤ c0) (hr1 : Kd.C (Kd.int .u64) w A1 l1.length l1) (hc1 : l1.length ≤ c1) (h : quot_guessW.f k l0 lo_ hi_ l1 = some r) :
  Calls Try.prog 65 #[xwin (.slice A0 l0.length c0) lo_ hi_, .slice A1 l1.length c1] w fun e w' => e = .returned (.int .u64 r) ∧ Drawn0 w w' := by
 unfold quot_guessW.f at h
 by_cases c_ : 0 ≤ lo_ ∧ lo_ < hi_ ∧ hi_ ≤ (l0.length : Int)
 ·rw [if_pos c_] at h; obtain ⟨c1_, c2_, c3_⟩ := c_; obtain ⟨ad, rfl, hw⟩ := C_win hr0 lo_.toNat hi_.toNat (by omega) (by omega); (have hlen : ((l0.take hi_.toNat).drop lo_.toNat).length = hi_.toNat - lo_.toNat := by rw [List.length_drop, List.length_take]; omega); have := quot_guess.calls k (some (ad.add lo_.toNat)) (c0 - lo_.toNat) _ A1 c1 l1 r w hw (by omega) hr1 hc1 h; rw [hlen] at this; exact this
 ·rw [if_neg c_] at h; cases h
end Go.Proofs.Ytebjbmgfbejapaa.F
end

section
namespace Go.Proofs.Ytebjbmgfbejapaa.F
open Go.RowKit Go.Proofs.YtebjbmgfbejapaaW.PrintWords Go.Proofs.YtebjbmgfbejapaaW.PrintLast Go.Proofs.YtebjbmgfbejapaaW.PrintMore Go.Proofs.YtebjbmgfbejapaaX
attribute [local go_sem] max2_int cell_some xrun_add64 xrun_sub64
attribute [local go_sem] max2_int min2_int max_two min_two max_three min_three max_four min_four
set_option linter.unusedVariables false
set_option linter.unusedSimpArgs false
def quot_less.l0 : Nat → List Int → List Int → Int → Int → Int → List Int → Int → Int → Option (Int × List Int)
 | 0, _, _, _, _, _, _, _, _ => none
 | k + 1, x0, x1, x2, x7, x8, x14, x15, x16 => if x16 < x15 then (if 0 ≤ x16 then (if x16 < (x14.length : Int) then ((bits_Mul64.f (rd x14 x16) x2).bind fun bt673 => (if x16 < (x0.length : Int) then (if x8 ≤ 1 then (quot_less.l0 k (x0.set (x16 : Int).toNat (sub64d (rd x0 x16) (add64s bt673.2 x7 0) x8)) x1 x2 (IntKind.u64.wrap (bt673.1 + (add64c bt673.2 x7 0))) (sub64b (rd x0 x16) (add64s bt673.2 x7 0) x8) x14 x15 (wrap64 (x16 + 1))) else (none)) else (none))) else (none)) else (none)) else (if 0 ≤ (x1.length : Int) then (if (x1.length : Int) < (x0.length : Int) then (if x8 ≤ 1 then (some (sub64b (rd x0 (x1.length : Int)) x7 x8, (x0.set ((x1.length : Int) : Int).toNat (sub64d (rd x0 (x1.length : Int)) x7 x8)))) else (none)) else (none)) else (none))
def quot_less.f (k : Nat) (l0 : List Int) (l1 : List Int) (a2 : Int) : Option (Int × List Int) := quot_less.l0 k l0 l1 a2 0 0 l1 (l1.length : Int) 0
theorem quot_less.mono_l : ∀ k, (∀ y0 y1 y2 y3 y4 y5 y6 y7, LeO (quot_less.l0 k y0 y1 y2 y3 y4 y5 y6 y7) (quot_less.l0 (k + 1) y0 y1 y2 y3 y4 y5 y6 y7))
 | 0 => fun _ _ _ _ _ _ _ _ r h => by simp [quot_less.l0] at h
 | k + 1 => by
  have ih0 := quot_less.mono_l k
  ·intro y0 y1 y2 y3 y4 y5 y6 y7; unfold quot_less.l0
   repeat' first
   | (with_reducible exact ih0 _ _ _ _ _ _ _ _)
   | (with_reducible exact LeO.refl _)
   | (with_reducible exact LeO.none _)
   | (with_reducible refine LeO.ite ?_ ?_)
   | (with_reducible refine LeO.bind ?_ (fun _ => ?_))
   | exact ih0 _ _ _ _ _ _ _ _
   | exact LeO.none _
   | refine LeO.ite ?_ ?_
   | refine LeO.bind ?_ (fun _ => ?_)
theorem quot_less.mono : ∀ a0 a1 a2 k, LeO (quot_less.f k a0 a1 a2) (quot_less.f (k + 1) a0 a1 a2) := by
 intro a0 a1 a2 k; have ih0 := quot_less.mono_l k; unfold quot_less.f
 repeat' first
   | (with_reducible exact ih0 _ _ _ _ _ _ _ _)
   | (with_reducible exact LeO.refl _)
   | (with_reducible exact LeO.none _)
   | (with_reducible refine LeO.ite ?_ ?_)
   | (with_reducible refine LeO.bind ?_ (fun _ => ?_))
   | exact ih0 _ _ _ _ _ _ _ _
   | exact LeO.none _
   | refine LeO.ite ?_ ?_
   | refine LeO.bind ?_ (fun _ => ?_)
set_option maxHeartbeats 8000000 in
set_option maxRecDepth 100000 in
theorem quot_less.callsX (k : Nat) (D_ : XD) (P0_ : Nat → Prop) (u9000_ : Value) (l0 : List Int) (A1 : Option Addr) (c1 : Nat) (l1 : List Int) (a2 : Int) (r1 : Int) (r2 : List Int) (w0 w : World) (hB : Below w0.heap.size w0 w) (ho0 : XW .u64 D_ 27 w w0.heap.size P0_ u9000_ l0) (hr1 : ∀ W_, Kept w W_ (fun k_ => P0_ k_) → Kd.C (Kd.int .u64) W_ A1 l1.length l1) (hc1 : l1.length ≤ c1) (h : quot_less.f k l0 l1 a2 = some (r1, r2)) :
  Calls Try.prog 66 #[u9000_, .slice A1 l1.length c1, .int .u64 a2] w fun e w' => e = .returned (.int .u64 r1) ∧ XW .u64 D_ 27 w' w0.heap.size (fun k_ => (P0_ k_ ∨ w.heap.size ≤ k_)) u9000_ r2 ∧ Below w0.heap.size w0 w' ∧ Kept w w' (fun k_ => P0_ k_) := by
 have a5 := m0 (show XW .u64 D_ 27 w w0.heap.size (fun k_ => (P0_ k_ ∨ w.heap.size ≤ k_)) u9000_ l0 from XW_mono ho0 (fun k_ hk => (.inl hk))); have HR1 := m0 hr1; have HC1 := m0 hc1; clear hr1 hc1; have HK := m0 (Kept.refl w (fun k_ => P0_ k_)); have HW0 := m0 hB.size; have HB := m0 hB; clear hB; have H : (quot_less.l0 k l0 l1 a2 0 0 l1 (l1.length : Int) 0) = some (r1, r2) := h; clear h; have H' := m0 H; clear H
 go_enter Try.func66, Try.ntmps66
 go_wp2
 go_loopg [7, 8, 16] k (fun kq v7 v8 v16 w' => ∃ (x0_1 : List Int) (x7_1 : Int) (x8_1 : Int) (x16_1 : Int), v7 = .int .u64 x7_1 ∧ v8 = .int .u64 x8_1 ∧ v16 = .int .i64 x16_1 ∧ Aside0 (quot_less.l0 kq x0_1 l1 a2 x7_1 x8_1 l1 (l1.length : Int) x16_1 = some (r1, r2)) ∧ Aside0 (kq ≤ k) ∧ Aside0 (XW .u64 D_ 27 w' w0.heap.size (fun k_ => (P0_ k_ ∨ w.heap.size ≤ k_)) u9000_ x0_1) ∧ Aside0 (Kept w w' (fun k_ => P0_ k_)) ∧ Aside0 (Below w0.heap.size w0 w'))
 case atStart => exact ⟨(l0), (0), (0), (0), (by first | rfl | (simp; done) | (simp [*]; done)), (by first | rfl | (simp; done) | (simp [*]; done)), (by first | rfl | (simp; done) | (simp [*]; done)), H', ⟨Nat.le_refl _⟩, ⟨by (with_reducible repeat (first | apply XW_alloc | apply XW_drewN | apply XW_drew)); exact a5.1⟩, ⟨by repeat (first | (with_reducible first | exact HK.out | apply Kept.alloc | apply Kept.drewN | apply Kept.drew) | exact HK.out)⟩, ⟨by repeat (first | (with_reducible first | exact HB.1 | apply below_alloc | apply pw_below_drewN | apply below_drew1) | exact HB.1)⟩⟩
 case round =>
  clear H'; (try clear c1); (try clear p2); obtain ⟨x0_1, x7_1, x8_1, x16_1, rfl, rfl, rfl, HA, HK1, HO_0, HK, HB⟩ := hrel; cases gk with
  | zero => exact absurd HA.out (by simp [quot_less.l0])
  | succ k1 =>
   have H := HA.out; clear HA; simp only [quot_less.l0] at H
   by_cases c4 : x16_1 < (l1.length : Int)
   ·rw [if_pos c4] at H; have c4b0 : decide (x16_1 < (l1.length : Int)) = true := decide_eq_true c4; clear c4
    by_cases c5 : 0 ≤ x16_1
    rotate_left
    ·rw [if_neg c5] at H; exact absurd H (by simp)
    rw [if_pos c5] at H; have c5b0 : decide (0 ≤ x16_1) = true := decide_eq_true c5; clear c5
    by_cases c6 : x16_1 < (l1.length : Int)
    rotate_left
    ·rw [if_neg c6] at H; exact absurd H (by simp)
    rw [if_pos c6] at H; have c6b0 : decide (x16_1 < (l1.length : Int)) = true := decide_eq_true c6; clear c6; replace H := Option.bind_eq_some_iff.mp H; obtain ⟨⟨t673, t674⟩, A70, H⟩ := H; (try dsimp only at H); have A7 := m0 A70; clear A70
    by_cases c8 : x16_1 < (x0_1.length : Int)
    rotate_left
    ·rw [if_neg c8] at H; exact absurd H (by simp)
    rw [if_pos c8] at H; have c8b0 : decide (x16_1 < (x0_1.length : Int)) = true := decide_eq_true c8; clear c8
    by_cases c9 : x8_1 ≤ 1
    rotate_left
    ·rw [if_neg c9] at H; exact absurd H (by simp)
    rw [if_pos c9] at H; have c9b0 := eq_true c9; have c9b1 : decide (x8_1 ≤ 1) = true := decide_eq_true c9; clear c9; obtain ⟨y676, hy676⟩ : ∃ y_ : List Int, y_ = (x0_1.set (x16_1 : Int).toNat (sub64d (rd x0_1 x16_1) (add64s t674 x7_1 0) x8_1)) := ⟨_, rfl⟩; (replace H : (quot_less.l0 k1 y676 l1 a2 (IntKind.u64.wrap (t673 + (add64c t674 x7_1 0))) (sub64b (rd x0_1 x16_1) (add64s t674 x7_1 0) x8_1) l1 (l1.length : Int) (wrap64 (x16_1 + 1))) = some (r1, r2) := by first | (rw [hy676]; with_reducible exact H) | (have H2_ := (Option.bind_some _ _).symm.trans H; rw [hy676]; with_reducible exact H2_) | (have H2_ := (Option.bind_some _ _).symm.trans H; with_reducible exact H2_) | with_reducible exact H | (rw [hy676]; exact H) | exact H); have Ny676 := m0 hy676; clear hy676; have H' := m0 H; clear H; have p672 : 0 ≤ (x16_1 : Int) := of_decide_eq_true (by first | (with_reducible assumption) | assumption); have q672 : x16_1 < (l1.length : Int) := of_decide_eq_true (by first | (with_reducible assumption) | assumption); obtain ⟨ad672, e672, hx672_0⟩ := Kd.at_int (Kd.C_kept_now HR1.1 HK.out) x16_1 p672 q672; cases e672; replace p672 := eq_true p672; replace q672 := eq_true q672
    go_wp2_with (first | ((with_reducible refine gate_callee (f := 61) rfl ?_); refine goesL_ (some 24) rfl rfl Try.func61 kr rfl #[.int .u64 (rd l1 x16_1), .int .u64 a2] rfl gm ?_; (with_reducible refine (bits_Mul64.calls (rd l1 x16_1) a2 t673 t674 _ A7.1).mono ?_); rintro e w' ⟨rfl, ⟨nd, rfl⟩⟩; refine ⟨_, rfl, ?_⟩; (try (rw [drewN_self wr]; generalize hq_ : World.drewN wr _ = wr; have n0_ : Aside0 (XW .u64 D_ 27 wr w0.heap.size (fun k_ => (P0_ k_ ∨ w.heap.size ≤ k_)) u9000_ x0_1) := ⟨by rw [← hq_]; exact (by (with_reducible repeat (first | apply XW_alloc | apply XW_drewN | apply XW_drew)); exact HO_0.out)⟩; have n1_ : Aside0 (Kept w wr (fun k_ => P0_ k_)) := ⟨by rw [← hq_]; exact (by repeat (first | (with_reducible first | exact HK.out | apply Kept.alloc | apply Kept.drewN | apply Kept.drew) | exact HK.out))⟩; have n2_ : Aside0 (Below w0.heap.size w0 wr) := ⟨by rw [← hq_]; exact (bf HB)⟩; clear HO_0 HK HB hq_; have HO_0 := n0_; have HK := n1_; have HB := n2_; clear n0_ n1_ n2_)); obtain ⟨D0, K0, j0⟩ := XW_slice HO_0.out; subst j0; have p675 : 0 ≤ (x16_1 : Int) := of_decide_eq_true (by first | (with_reducible assumption) | assumption); have q675 : x16_1 < (x0_1.length : Int) := of_decide_eq_true (by first | (with_reducible assumption) | assumption); obtain ⟨ad675, e675, hx675_0⟩ := Kd.at_int (XW_reads' HO_0.out).2.2 x16_1 p675 q675; cases e675; replace p675 := eq_true p675; replace q675 := eq_true q675; have p10 : 0 ≤ (x16_1 : Int) := of_decide_eq_true (by first | (with_reducible assumption) | assumption); have q10 : (x16_1 : Int) < ((x0_1.length : Int) : Int) := of_decide_eq_true (by first | (with_reducible assumption) | assumption); obtain ⟨go10, K1, j1, g0, gl10, cl10, HG10⟩ := XW_form HO_0.out (by omega); (first | cases j1 | (injection j1 with ea_ en_ ec_; (first | subst ea_ | (injection ea_ with ea_; subst ea_)); subst ec_; clear en_)); have GB10 := m0 g0; have GG10 := m0 HG10; clear g0 gl10 HG10; have HMgo10 := m0 (show (P0_ go10 ∨ w.heap.size ≤ go10) from (HO_0.out.1 _ rfl)); (first | simp only [xw_add] at hx675_0 | skip); obtain ⟨hx10_0, hf10_0⟩ := XW_celln 0 HO_0.out (x16_1 : Int) p10 q10; replace p10 := eq_true p10; replace q10 := eq_true q10; obtain ⟨hy12_, hz12_⟩ := XW_celln 0 HO_0.out (x16_1 : Int) (of_decide_eq_true (by first | (with_reducible assumption) | assumption)) (of_decide_eq_true (by first | (with_reducible assumption) | assumption)); have HP12 := XW_putg HO_0.out (x16_1 : Int) (sub64d (rd x0_1 x16_1) (add64s t674 x7_1 0) x8_1) (of_decide_eq_true (by first | (with_reducible assumption) | assumption)) (of_decide_eq_true (by first | (with_reducible assumption) | assumption))) | ((with_reducible refine gate_store (t := 27) (p := 48) rfl ?_); refine store_event (t := 27) (p := 48) (v := ?vo_w13) (w1 := (wr.setCell ⟨go10, D_.pre.length + (x16_1 : Int).toNat, none⟩ (.int .u64 (sub64d (rd x0_1 x16_1) (add64s t674 x7_1 0) x8_1)))) ?hg ?ho ?hn ?hr ?_; (case ho => rfl); (case hg => rfl); (case hn => rfl); (case hr => first | (go_simp; done) | (go_simp; rfl)); intro w13 hw; have hg : wr.grownBy w13 (some go10) := (by rw [hw]; exact HP12.2); have hp_ : XW .u64 D_ 27 w13 w0.heap.size (fun k_ => (P0_ k_ ∨ w.heap.size ≤ k_)) (.slice (some ⟨go10, D_.pre.length, none⟩) x0_1.length K0) y676 := (by rw [hw, Ny676.out]; exact HP12.1); clear HP12; replace HB := m0 ((by rw [hw]; exact below_set (HB.1) GB10.out : Below w0.heap.size w0 w13)); replace HK := m0 (Kept.of_grown (S := (fun k_ => P0_ k_)) hg (by repeat (first | (with_reducible first | exact HK.out | apply Kept.alloc | apply Kept.drewN | apply Kept.drew) | exact HK.out)) (fun k_ e_ => (HO_0.out.1 k_ e_))); replace HO_0 := m0 (hp_); clear hg hw hp_))
    go_roundg k1
    case measure => have := HK1.out; omega
    case rel => exact ⟨(y676), (IntKind.u64.wrap (t673 + (add64c t674 x7_1 0))), (sub64b (rd x0_1 x16_1) (add64s t674 x7_1 0) x8_1), (wrap64 (x16_1 + 1)), (by first | rfl | (simp; done) | (simp [*]; done)), (by first | rfl | (simp; done) | (simp [*]; done)), (by first | rfl | (simp; done) | (simp [*]; done)), H', ⟨by have := HK1.out; omega⟩, ⟨by (with_reducible repeat (first | apply XW_alloc | apply XW_drewN | apply XW_drew)); exact HO_0.out⟩, ⟨by repeat (first | (with_reducible first | exact HK.out | apply Kept.alloc | apply Kept.drewN | apply Kept.drew) | exact HK.out)⟩, ⟨by repeat (first | (with_reducible first | exact HB.1 | apply below_alloc | apply pw_below_drewN | apply below_drew1) | exact HB.1)⟩⟩
   ·rw [if_neg c4] at H; have c4b0 : decide (x16_1 < (l1.length : Int)) = false := decide_eq_false c4; clear c4
    by_cases c14 : 0 ≤ (l1.length : Int)
    rotate_left
    ·rw [if_neg c14] at H; exact absurd H (by simp)
    rw [if_pos c14] at H; have c14b0 : decide (0 ≤ (l1.length : Int)) = true := decide_eq_true c14; have c14b1 : decide (0 ≤ l1.length) = true := decide_eq_true (by omega); clear c14
    by_cases c15 : (l1.length : Int) < (x0_1.length : Int)
    rotate_left
    ·rw [if_neg c15] at H; exact absurd H (by simp)
    rw [if_pos c15] at H; have c15b0 : decide ((l1.length : Int) < (x0_1.length : Int)) = true := decide_eq_true c15; have c15b1 : decide (l1.length < x0_1.length) = true := decide_eq_true (Int.ofNat_lt.mp c15); clear c15
    by_cases c16 : x8_1 ≤ 1
    rotate_left
    ·rw [if_neg c16] at H; exact absurd H (by simp)
    rw [if_pos c16] at H; have c16b0 := eq_true c16; have c16b1 : decide (x8_1 ≤ 1) = true := decide_eq_true c16; clear c16; obtain ⟨y678, hy678⟩ : ∃ y_ : List Int, y_ = (x0_1.set ((l1.length : Int) : Int).toNat (sub64d (rd x0_1 (l1.length : Int)) x7_1 x8_1)) := ⟨_, rfl⟩; (replace H : (some (sub64b (rd x0_1 (l1.length : Int)) x7_1 x8_1, y678)) = some (r1, r2) := by first | (rw [hy678]; with_reducible exact H) | (have H2_ := (Option.bind_some _ _).symm.trans H; rw [hy678]; with_reducible exact H2_) | (have H2_ := (Option.bind_some _ _).symm.trans H; with_reducible exact H2_) | with_reducible exact H | (rw [hy678]; exact H) | exact H); have Ny678 := m0 hy678; clear hy678; simp only [Option.some.injEq, Prod.mk.injEq] at H; obtain ⟨rfl, rfl⟩ := H; obtain ⟨D1, K2, j2⟩ := XW_slice HO_0.out; subst j2; have p677 : 0 ≤ ((l1.length : Int) : Int) := of_decide_eq_true (by first | (with_reducible assumption) | assumption); have q677 : (l1.length : Int) < (x0_1.length : Int) := of_decide_eq_true (by first | (with_reducible assumption) | assumption); obtain ⟨ad677, e677, hx677_0⟩ := Kd.at_int (XW_reads' HO_0.out).2.2 (l1.length : Int) p677 q677; cases e677; (try simp only [Go.IntWalk.toNatUp] at hx677_0); replace p677 := eq_true p677; replace q677 := eq_true q677; have p17 : 0 ≤ ((l1.length : Int) : Int) := of_decide_eq_true (by first | (with_reducible assumption) | assumption); have q17 : ((l1.length : Int) : Int) < ((x0_1.length : Int) : Int) := of_decide_eq_true (by first | (with_reducible assumption) | assumption); obtain ⟨go17, K3, j3, g1, gl17, cl17, HG17⟩ := XW_form HO_0.out (by omega); (first | cases j3 | (injection j3 with ea_ en_ ec_; (first | subst ea_ | (injection ea_ with ea_; subst ea_)); subst ec_; clear en_)); have GB17 := m0 g1; have GG17 := m0 HG17; clear g1 gl17 HG17; have HMgo17 := m0 (show (P0_ go17 ∨ w.heap.size ≤ go17) from (HO_0.out.1 _ rfl)); (first | simp only [xw_add] at hx677_0 | skip); obtain ⟨hx17_0, hf17_0⟩ := XW_celln 0 HO_0.out ((l1.length : Int) : Int) p17 q17; (try simp only [Int.toNat_natCast] at hx17_0); (try simp only [Int.toNat_natCast] at hf17_0); replace p17 := eq_true p17; replace q17 := eq_true q17; have HP19 := XW_putg HO_0.out ((l1.length : Int) : Int) (sub64d (rd x0_1 (l1.length : Int)) x7_1 x8_1) (of_decide_eq_true (by first | (with_reducible assumption) | assumption)) (of_decide_eq_true (by first | (with_reducible assumption) | assumption))
    go_wp2_with (first | ((with_reducible refine gate_store (t := 27) (p := 64) rfl ?_); refine store_event (t := 27) (p := 64) (v := ?vo_w20) (w1 := (wr.setCell ⟨go17, D_.pre.length + ((l1.length : Int) : Int).toNat, none⟩ (.int .u64 (sub64d (rd x0_1 (l1.length : Int)) x7_1 x8_1)))) ?hg ?ho ?hn ?hr ?_; (case ho => rfl); (case hg => rfl); (case hn => rfl); (case hr => first | (go_simp; done) | (go_simp; rfl)); intro w20 hw; have hg : wr.grownBy w20 (some go17) := (by rw [hw]; exact HP19.2); have hp_ : XW .u64 D_ 27 w20 w0.heap.size (fun k_ => (P0_ k_ ∨ w.heap.size ≤ k_)) (.slice (some ⟨go17, D_.pre.length, none⟩) x0_1.length K2) y678 := (by rw [hw, Ny678.out]; exact HP19.1); clear HP19; replace HB := m0 ((by rw [hw]; exact below_set (HB.1) GB17.out : Below w0.heap.size w0 w20)); replace HK := m0 (Kept.of_grown (S := (fun k_ => P0_ k_)) hg (by repeat (first | (with_reducible first | exact HK.out | apply Kept.alloc | apply Kept.drewN | apply Kept.drew) | exact HK.out)) (fun k_ e_ => (HO_0.out.1 k_ e_))); replace HO_0 := m0 (hp_); clear hg hw hp_))
    go_ret
    exact ⟨by first | rfl | (simp [errW_none, errW_some] <;> rfl) | (simp [*, errW_none, errW_some] <;> rfl), by (with_reducible repeat (first | apply XW_alloc | apply XW_drewN | apply XW_drew)); exact HO_0.out, by repeat (first | (with_reducible first | exact HB.1 | apply below_alloc | apply pw_below_drewN | apply below_drew1) | exact HB.1), by repeat (first | (with_reducible first | exact HK.out | apply Kept.alloc | apply Kept.drewN | apply Kept.drew) | exact HK.out)⟩
def quot_lessW.f (k : Nat) (l0 : List Int) (lo_ hi_ : Int) (l1 : List Int) (a2 : Int) : Option (Int × List Int) := if 0 ≤ lo_ ∧ lo_ < hi_ ∧ hi_ ≤ (l0.length : Int) then (quot_less.f k ((l0.take hi_.toNat).drop lo_.toNat) l1 a2).map (fun r_ => (r_.1, l0.take lo_.toNat ++ r_.2 ++ l0.drop hi_.toNat)) else none
theorem quot_lessW.mono : ∀ a0 a1 a2 a3 a4 k, LeO (quot_lessW.f k a0 a1 a2 a3 a4) (quot_lessW.f (k + 1) a0 a1 a2 a3 a4) := by
 intro a0 a1 a2 a3 a4 k; unfold quot_lessW.f; refine LeO.ite ?_ (LeO.none _); intro r hr; obtain ⟨r', h1, h2⟩ := Option.map_eq_some_iff.mp hr; exact Option.map_eq_some_iff.mpr ⟨r', quot_less.mono _ _ _  k r' h1, h2⟩
theorem quot_lessW.calls (k : Nat) (P0_ : Nat → Prop) (u9000_ : Value) (l0 : List Int) (lo_ hi_ : Int) (A1 : Option Addr) (c1 : Nat) (l1 : List Int) (a2 : Int) (r1 : Int) (r2 : List Int) (w0 w : World) (hB : Below w0.heap.size w0 w) (ho0 : Kd.R (Kd.int .u64) 27 w w0.heap.size P0_ u9000_ l0) (hr1 : ∀ W_, Kept w W_ (fun k_ => P0_ k_) → Kd.C (Kd.int .u64) W_ A1 l1.length l1) (hc1 : l1.length ≤ c1) (h : quot_lessW.f k l0 lo_ hi_ l1 a2 = some (r1, r2)) :
  Calls Try.prog 66 #[xwin u9000_ lo_ hi_, .slice A1 l1.length c1, .int .u64 a2] w fun e w' => e = .returned (.int .u64 r1) ∧ Kd.R (Kd.int .u64) 27 w' w0.heap.size (fun k_ => (P0_ k_ ∨ w.heap.size ≤ k_)) u9000_ r2 ∧ Below w0.heap.size w0 w' ∧ Kept w w' (fun k_ => P0_ k_) := by
 unfold quot_lessW.f at h
 by_cases c_ : 0 ≤ lo_ ∧ lo_ < hi_ ∧ hi_ ≤ (l0.length : Int)
 ·rw [if_pos c_] at h; obtain ⟨c1_, c2_, c3_⟩ := c_; obtain ⟨r_, h1_, h2_⟩ := Option.map_eq_some_iff.mp h; clear h; injection h2_ with h3_ h2_; subst h3_; subst h2_; obtain ⟨g_, cap_, hu_, _⟩ := Kd.R_form ho0 (by omega); subst hu_; have hcap_ := (Kd.R_reads' ho0).2.1; obtain ⟨s_, hs_, hx_⟩ := XW_of_R ho0 lo_.toNat hi_.toNat (by omega) (by omega); subst hs_; rw [xwin_slice]; refine (quot_less.callsX k ⟨l0.take lo_.toNat, l0.drop hi_.toNat, cap_⟩ P0_ (.slice (some ⟨g_, lo_.toNat, none⟩) (hi_.toNat - lo_.toNat) (cap_ - lo_.toNat)) ((l0.take hi_.toNat).drop lo_.toNat) A1 c1 l1 a2 (r_.1) (r_.2) w0 w hB (hx_ _ (by omega) (by omega)) hr1 hc1 h1_).mono ?_; rintro e w' ⟨he_, hw_, hq_⟩; refine ⟨he_, ?_, hq_⟩
  have hl_ : hi_.toNat - lo_.toNat = (r_.2).length := by
   obtain ⟨A_, c_, e_⟩ := XW_slice hw_; injection e_
  have hr_ := XW_to_R (lo := lo_.toNat) hw_
  have hn_ : (l0.take lo_.toNat ++ r_.2 ++ l0.drop hi_.toNat).length = l0.length := by
   simp only [List.length_append, List.length_take, List.length_drop]
   omega
  rw [hn_] at hr_; exact hr_
 ·rw [if_neg c_] at h; cases h
def quot_back.l0 : Nat → List Int → List Int → Int → List Int → Int → Int → Option (List Int)
 | 0, _, _, _, _, _, _ => none
 | k + 1, x0, x1, x4, x7, x8, x9 => if x9 < x8 then (if 0 ≤ x9 then (if x9 < (x7.length : Int) then (if x9 < (x0.length : Int) then (if x4 ≤ 1 then (quot_back.l0 k (x0.set (x9 : Int).toNat (add64s (rd x0 x9) (rd x7 x9) x4)) x1 (add64c (rd x0 x9) (rd x7 x9) x4) x7 x8 (wrap64 (x9 + 1))) else (none)) else (none)) else (none)) else (none)) else (if 0 ≤ (x1.length : Int) then (if (x1.length : Int) < (x0.length : Int) then (some (x0.set ((x1.length : Int) : Int).toNat (IntKind.u64.wrap ((rd x0 (x1.length : Int)) + x4)))) else (none)) else (none))
def quot_back.f (k : Nat) (l0 : List Int) (l1 : List Int) : Option (List Int) := quot_back.l0 k l0 l1 0 l1 (l1.length : Int) 0
theorem quot_back.mono_l : ∀ k, (∀ y0 y1 y2 y3 y4 y5, LeO (quot_back.l0 k y0 y1 y2 y3 y4 y5) (quot_back.l0 (k + 1) y0 y1 y2 y3 y4 y5))
 | 0 => fun _ _ _ _ _ _ r h => by simp [quot_back.l0] at h
 | k + 1 => by
  have ih0 := quot_back.mono_l k
  ·intro y0 y1 y2 y3 y4 y5; unfold quot_back.l0
   repeat' first
   | (with_reducible exact ih0 _ _ _ _ _ _)
   | (with_reducible exact LeO.refl _)
   | (with_reducible exact LeO.none _)
   | (with_reducible refine LeO.ite ?_ ?_)
   | (with_reducible refine LeO.bind ?_ (fun _ => ?_))
   | exact ih0 _ _ _ _ _ _
   | exact LeO.none _
   | refine LeO.ite ?_ ?_
   | refine LeO.bind ?_ (fun _ => ?_)
theorem quot_back.mono : ∀ a0 a1 k, LeO (quot_back.f k a0 a1) (quot_back.f (k + 1) a0 a1) := by
 intro a0 a1 k; have ih0 := quot_back.mono_l k; unfold quot_back.f
 repeat' first
   | (with_reducible exact ih0 _ _ _ _ _ _)
   | (with_reducible exact LeO.refl _)
   | (with_reducible exact LeO.none _)
   | (with_reducible refine LeO.ite ?_ ?_)
   | (with_reducible refine LeO.bind ?_ (fun _ => ?_))
   | exact ih0 _ _ _ _ _ _
   | exact LeO.none _
   | refine LeO.ite ?_ ?_
   | refine LeO.bind ?_ (fun _ => ?_)
set_option maxHeartbeats 8000000 in
set_option maxRecDepth 100000 in
theorem quot_back.callsX (k : Nat) (D_ : XD) (P0_ : Nat → Prop) (u9000_ : Value) (l0 : List Int) (A1 : Option Addr) (c1 : Nat) (l1 : List Int) (r : List Int) (w0 w : World) (hB : Below w0.heap.size w0 w) (ho0 : XW .u64 D_ 27 w w0.heap.size P0_ u9000_ l0) (hr1 : ∀ W_, Kept w W_ (fun k_ => P0_ k_) → Kd.C (Kd.int .u64) W_ A1 l1.length l1) (hc1 : l1.length ≤ c1) (h : quot_back.f k l0 l1 = some r) :
  Calls Try.prog 67 #[u9000_, .slice A1 l1.length c1] w fun e w' => e = .returned (.tuple #[]) ∧ XW .u64 D_ 27 w' w0.heap.size (fun k_ => (P0_ k_ ∨ w.heap.size ≤ k_)) u9000_ r ∧ Below w0.heap.size w0 w' ∧ Kept w w' (fun k_ => P0_ k_) := by
 have a4 := m0 (show XW .u64 D_ 27 w w0.heap.size (fun k_ => (P0_ k_ ∨ w.heap.size ≤ k_)) u9000_ l0 from XW_mono ho0 (fun k_ hk => (.inl hk))); have HR1 := m0 hr1; have HC1 := m0 hc1; clear hr1 hc1; have HK := m0 (Kept.refl w (fun k_ => P0_ k_)); have HW0 := m0 hB.size; have HB := m0 hB; clear hB; have H : (quot_back.l0 k l0 l1 0 l1 (l1.length : Int) 0) = some r := h; clear h; have H' := m0 H; clear H
 go_enter Try.func67, Try.ntmps67
 go_wp2
 go_loopg [4, 9] k (fun kq v4 v9 w' => ∃ (x0_1 : List Int) (x4_1 : Int) (x9_1 : Int), v4 = .int .u64 x4_1 ∧ v9 = .int .i64 x9_1 ∧ Aside0 (quot_back.l0 kq x0_1 l1 x4_1 l1 (l1.length : Int) x9_1 = some r) ∧ Aside0 (kq ≤ k) ∧ Aside0 (XW .u64 D_ 27 w' w0.heap.size (fun k_ => (P0_ k_ ∨ w.heap.size ≤ k_)) u9000_ x0_1) ∧ Aside0 (Kept w w' (fun k_ => P0_ k_)) ∧ Aside0 (Below w0.heap.size w0 w'))
 case atStart => exact ⟨(l0), (0), (0), (by first | rfl | (simp; done) | (simp [*]; done)), (by first | rfl | (simp; done) | (simp [*]; done)), H', ⟨Nat.le_refl _⟩, ⟨by (with_reducible repeat (first | apply XW_alloc | apply XW_drewN | apply XW_drew)); exact a4.1⟩, ⟨by repeat (first | (with_reducible first | exact HK.out | apply Kept.alloc | apply Kept.drewN | apply Kept.drew) | exact HK.out)⟩, ⟨by repeat (first | (with_reducible first | exact HB.1 | apply below_alloc | apply pw_below_drewN | apply below_drew1) | exact HB.1)⟩⟩
 case round =>
  clear H'; (try clear c1); (try clear p2); obtain ⟨x0_1, x4_1, x9_1, rfl, rfl, HA, HK1, HO_0, HK, HB⟩ := hrel; cases gk with
  | zero => exact absurd HA.out (by simp [quot_back.l0])
  | succ k1 =>
   have H := HA.out; clear HA; simp only [quot_back.l0] at H
   by_cases c3 : x9_1 < (l1.length : Int)
   ·rw [if_pos c3] at H; have c3b0 : decide (x9_1 < (l1.length : Int)) = true := decide_eq_true c3; clear c3
    by_cases c4 : 0 ≤ x9_1
    rotate_left
    ·rw [if_neg c4] at H; exact absurd H (by simp)
    rw [if_pos c4] at H; have c4b0 : decide (0 ≤ x9_1) = true := decide_eq_true c4; clear c4
    by_cases c5 : x9_1 < (l1.length : Int)
    rotate_left
    ·rw [if_neg c5] at H; exact absurd H (by simp)
    rw [if_pos c5] at H; have c5b0 : decide (x9_1 < (l1.length : Int)) = true := decide_eq_true c5; clear c5
    by_cases c6 : x9_1 < (x0_1.length : Int)
    rotate_left
    ·rw [if_neg c6] at H; exact absurd H (by simp)
    rw [if_pos c6] at H; have c6b0 : decide (x9_1 < (x0_1.length : Int)) = true := decide_eq_true c6; clear c6
    by_cases c7 : x4_1 ≤ 1
    rotate_left
    ·rw [if_neg c7] at H; exact absurd H (by simp)
    rw [if_pos c7] at H; have c7b0 := eq_true c7; have c7b1 : decide (x4_1 ≤ 1) = true := decide_eq_true c7; clear c7; obtain ⟨y681, hy681⟩ : ∃ y_ : List Int, y_ = (x0_1.set (x9_1 : Int).toNat (add64s (rd x0_1 x9_1) (rd l1 x9_1) x4_1)) := ⟨_, rfl⟩; (replace H : (quot_back.l0 k1 y681 l1 (add64c (rd x0_1 x9_1) (rd l1 x9_1) x4_1) l1 (l1.length : Int) (wrap64 (x9_1 + 1))) = some r := by first | (rw [hy681]; with_reducible exact H) | (have H2_ := (Option.bind_some _ _).symm.trans H; rw [hy681]; with_reducible exact H2_) | (have H2_ := (Option.bind_some _ _).symm.trans H; with_reducible exact H2_) | with_reducible exact H | (rw [hy681]; exact H) | exact H); have Ny681 := m0 hy681; clear hy681; have H' := m0 H; clear H; have p679 : 0 ≤ (x9_1 : Int) := of_decide_eq_true (by first | (with_reducible assumption) | assumption); have q679 : x9_1 < (l1.length : Int) := of_decide_eq_true (by first | (with_reducible assumption) | assumption); obtain ⟨ad679, e679, hx679_0⟩ := Kd.at_int (Kd.C_kept_now HR1.1 HK.out) x9_1 p679 q679; cases e679; replace p679 := eq_true p679; replace q679 := eq_true q679; obtain ⟨D0, K0, j0⟩ := XW_slice HO_0.out; subst j0; have p680 : 0 ≤ (x9_1 : Int) := of_decide_eq_true (by first | (with_reducible assumption) | assumption); have q680 : x9_1 < (x0_1.length : Int) := of_decide_eq_true (by first | (with_reducible assumption) | assumption); obtain ⟨ad680, e680, hx680_0⟩ := Kd.at_int (XW_reads' HO_0.out).2.2 x9_1 p680 q680; cases e680; replace p680 := eq_true p680; replace q680 := eq_true q680; have p8 : 0 ≤ (x9_1 : Int) := of_decide_eq_true (by first | (with_reducible assumption) | assumption); have q8 : (x9_1 : Int) < ((x0_1.length : Int) : Int) := of_decide_eq_true (by first | (with_reducible assumption) | assumption); obtain ⟨go8, K1, j1, g0, gl8, cl8, HG8⟩ := XW_form HO_0.out (by omega); (first | cases j1 | (injection j1 with ea_ en_ ec_; (first | subst ea_ | (injection ea_ with ea_; subst ea_)); subst ec_; clear en_)); have GB8 := m0 g0; have GG8 := m0 HG8; clear g0 gl8 HG8; have HMgo8 := m0 (show (P0_ go8 ∨ w.heap.size ≤ go8) from (HO_0.out.1 _ rfl)); (first | simp only [xw_add] at hx680_0 | skip); obtain ⟨hx8_0, hf8_0⟩ := XW_celln 0 HO_0.out (x9_1 : Int) p8 q8; replace p8 := eq_true p8; replace q8 := eq_true q8; have HP10 := XW_putg HO_0.out (x9_1 : Int) (add64s (rd x0_1 x9_1) (rd l1 x9_1) x4_1) (of_decide_eq_true (by first | (with_reducible assumption) | assumption)) (of_decide_eq_true (by first | (with_reducible assumption) | assumption))
    go_wp2_with (first | ((with_reducible refine gate_store (t := 27) (p := 26) rfl ?_); refine store_event (t := 27) (p := 26) (v := ?vo_w11) (w1 := (wr.setCell ⟨go8, D_.pre.length + (x9_1 : Int).toNat, none⟩ (.int .u64 (add64s (rd x0_1 x9_1) (rd l1 x9_1) x4_1)))) ?hg ?ho ?hn ?hr ?_; (case ho => rfl); (case hg => rfl); (case hn => rfl); (case hr => first | (go_simp; done) | (go_simp; rfl)); intro w11 hw; have hg : wr.grownBy w11 (some go8) := (by rw [hw]; exact HP10.2); have hp_ : XW .u64 D_ 27 w11 w0.heap.size (fun k_ => (P0_ k_ ∨ w.heap.size ≤ k_)) (.slice (some ⟨go8, D_.pre.length, none⟩) x0_1.length K0) y681 := (by rw [hw, Ny681.out]; exact HP10.1); clear HP10; replace HB := m0 ((by rw [hw]; exact below_set (HB.1) GB8.out : Below w0.heap.size w0 w11)); replace HK := m0 (Kept.of_grown (S := (fun k_ => P0_ k_)) hg (by repeat (first | (with_reducible first | exact HK.out | apply Kept.alloc | apply Kept.drewN | apply Kept.drew) | exact HK.out)) (fun k_ e_ => (HO_0.out.1 k_ e_))); replace HO_0 := m0 (hp_); clear hg hw hp_))
    go_roundg k1
    case measure => have := HK1.out; omega
    case rel => exact ⟨(y681), (add64c (rd x0_1 x9_1) (rd l1 x9_1) x4_1), (wrap64 (x9_1 + 1)), (by first | rfl | (simp; done) | (simp [*]; done)), (by first | rfl | (simp; done) | (simp [*]; done)), H', ⟨by have := HK1.out; omega⟩, ⟨by (with_reducible repeat (first | apply XW_alloc | apply XW_drewN | apply XW_drew)); exact HO_0.out⟩, ⟨by repeat (first | (with_reducible first | exact HK.out | apply Kept.alloc | apply Kept.drewN | apply Kept.drew) | exact HK.out)⟩, ⟨by repeat (first | (with_reducible first | exact HB.1 | apply below_alloc | apply pw_below_drewN | apply below_drew1) | exact HB.1)⟩⟩
   ·rw [if_neg c3] at H; have c3b0 : decide (x9_1 < (l1.length : Int)) = false := decide_eq_false c3; clear c3
    by_cases c12 : 0 ≤ (l1.length : Int)
    rotate_left
    ·rw [if_neg c12] at H; exact absurd H (by simp)
    rw [if_pos c12] at H; have c12b0 : decide (0 ≤ (l1.length : Int)) = true := decide_eq_true c12; have c12b1 : decide (0 ≤ l1.length) = true := decide_eq_true (by omega); clear c12
    by_cases c13 : (l1.length : Int) < (x0_1.length : Int)
    rotate_left
    ·rw [if_neg c13] at H; exact absurd H (by simp)
    rw [if_pos c13] at H; have c13b0 : decide ((l1.length : Int) < (x0_1.length : Int)) = true := decide_eq_true c13; have c13b1 : decide (l1.length < x0_1.length) = true := decide_eq_true (Int.ofNat_lt.mp c13); clear c13; obtain ⟨y683, hy683⟩ : ∃ y_ : List Int, y_ = (x0_1.set ((l1.length : Int) : Int).toNat (IntKind.u64.wrap ((rd x0_1 (l1.length : Int)) + x4_1))) := ⟨_, rfl⟩; (replace H : (some y683) = some r := by first | (rw [hy683]; with_reducible exact H) | (have H2_ := (Option.bind_some _ _).symm.trans H; rw [hy683]; with_reducible exact H2_) | (have H2_ := (Option.bind_some _ _).symm.trans H; with_reducible exact H2_) | with_reducible exact H | (rw [hy683]; exact H) | exact H); have Ny683 := m0 hy683; clear hy683; obtain rfl := Option.some.inj H; obtain ⟨D1, K2, j2⟩ := XW_slice HO_0.out; subst j2; have p682 : 0 ≤ ((l1.length : Int) : Int) := of_decide_eq_true (by first | (with_reducible assumption) | assumption); have q682 : (l1.length : Int) < (x0_1.length : Int) := of_decide_eq_true (by first | (with_reducible assumption) | assumption); obtain ⟨ad682, e682, hx682_0⟩ := Kd.at_int (XW_reads' HO_0.out).2.2 (l1.length : Int) p682 q682; cases e682; (try simp only [Go.IntWalk.toNatUp] at hx682_0); replace p682 := eq_true p682; replace q682 := eq_true q682; have p14 : 0 ≤ ((l1.length : Int) : Int) := of_decide_eq_true (by first | (with_reducible assumption) | assumption); have q14 : ((l1.length : Int) : Int) < ((x0_1.length : Int) : Int) := of_decide_eq_true (by first | (with_reducible assumption) | assumption); obtain ⟨go14, K3, j3, g1, gl14, cl14, HG14⟩ := XW_form HO_0.out (by omega); (first | cases j3 | (injection j3 with ea_ en_ ec_; (first | subst ea_ | (injection ea_ with ea_; subst ea_)); subst ec_; clear en_)); have GB14 := m0 g1; have GG14 := m0 HG14; clear g1 gl14 HG14; have HMgo14 := m0 (show (P0_ go14 ∨ w.heap.size ≤ go14) from (HO_0.out.1 _ rfl)); (first | simp only [xw_add] at hx682_0 | skip); obtain ⟨hx14_0, hf14_0⟩ := XW_celln 0 HO_0.out ((l1.length : Int) : Int) p14 q14; (try simp only [Int.toNat_natCast] at hx14_0); (try simp only [Int.toNat_natCast] at hf14_0); replace p14 := eq_true p14; replace q14 := eq_true q14; have HP16 := XW_putg HO_0.out ((l1.length : Int) : Int) (IntKind.u64.wrap ((rd x0_1 (l1.length : Int)) + x4_1)) (of_decide_eq_true (by first | (with_reducible assumption) | assumption)) (of_decide_eq_true (by first | (with_reducible assumption) | assumption))
    go_wp2_with (first | ((with_reducible refine gate_store (t := 27) (p := 35) rfl ?_); refine store_event (t := 27) (p := 35) (v := ?vo_w17) (w1 := (wr.setCell ⟨go14, D_.pre.length + ((l1.length : Int) : Int).toNat, none⟩ (.int .u64 (IntKind.u64.wrap ((rd x0_1 (l1.length : Int)) + x4_1))))) ?hg ?ho ?hn ?hr ?_; (case ho => rfl); (case hg => rfl); (case hn => rfl); (case hr => first | (go_simp; done) | (go_simp; rfl)); intro w17 hw; have hg : wr.grownBy w17 (some go14) := (by rw [hw]; exact HP16.2); have hp_ : XW .u64 D_ 27 w17 w0.heap.size (fun k_ => (P0_ k_ ∨ w.heap.size ≤ k_)) (.slice (some ⟨go14, D_.pre.length, none⟩) x0_1.length K2) y683 := (by rw [hw, Ny683.out]; exact HP16.1); clear HP16; replace HB := m0 ((by rw [hw]; exact below_set (HB.1) GB14.out : Below w0.heap.size w0 w17)); replace HK := m0 (Kept.of_grown (S := (fun k_ => P0_ k_)) hg (by repeat (first | (with_reducible first | exact HK.out | apply Kept.alloc | apply Kept.drewN | apply Kept.drew) | exact HK.out)) (fun k_ e_ => (HO_0.out.1 k_ e_))); replace HO_0 := m0 (hp_); clear hg hw hp_))
    (first | go_end0 | ((try simp only [Exit.inBlock, Exit.then]); refine bodyPost_ret (results_none rfl _ _ _) rfl ?_)); exact ⟨by first | rfl | (simp [errW_none, errW_some] <;> rfl) | (simp [*, errW_none, errW_some] <;> rfl), by (with_reducible repeat (first | apply XW_alloc | apply XW_drewN | apply XW_drew)); exact HO_0.out, by repeat (first | (with_reducible first | exact HB.1 | apply below_alloc | apply pw_below_drewN | apply below_drew1) | exact HB.1), by repeat (first | (with_reducible first | exact HK.out | apply Kept.alloc | apply Kept.drewN | apply Kept.drew) | exact HK.out)⟩
def quot_backW.f (k : Nat) (l0 : List Int) (lo_ hi_ : Int) (l1 : List Int) : Option (List Int) := if 0 ≤ lo_ ∧ lo_ < hi_ ∧ hi_ ≤ (l0.length : Int) then (quot_back.f k ((l0.take hi_.toNat).drop lo_.toNat) l1).map (fun r_ => l0.take lo_.toNat ++ r_ ++ l0.drop hi_.toNat) else none
theorem quot_backW.mono : ∀ a0 a1 a2 a3 k, LeO (quot_backW.f k a0 a1 a2 a3) (quot_backW.f (k + 1) a0 a1 a2 a3) := by
 intro a0 a1 a2 a3 k; unfold quot_backW.f; refine LeO.ite ?_ (LeO.none _); intro r hr; obtain ⟨r', h1, h2⟩ := Option.map_eq_some_iff.mp hr; exact Option.map_eq_some_iff.mpr ⟨r', quot_back.mono _ _  k r' h1, h2⟩
theorem quot_backW.calls (k : Nat) (P0_ : Nat → Prop) (u9000_ : Value) (l0 : List Int) (lo_ hi_ : Int) (A1 : Option Addr) (c1 : Nat) (l1 : List Int) (r : List Int) (w0 w : World) (hB : Below w0.heap.size w0 w) (ho0 : Kd.R (Kd.int .u64) 27 w w0.heap.size P0_ u9000_ l0) (hr1 : ∀ W_, Kept w W_ (fun k_ => P0_ k_) → Kd.C (Kd.int .u64) W_ A1 l1.length l1) (hc1 : l1.length ≤ c1) (h : quot_backW.f k l0 lo_ hi_ l1 = some r) :
  Calls Try.prog 67 #[xwin u9000_ lo_ hi_, .slice A1 l1.length c1] w fun e w' => e = .returned (.tuple #[]) ∧ Kd.R (Kd.int .u64) 27 w' w0.heap.size (fun k_ => (P0_ k_ ∨ w.heap.size ≤ k_)) u9000_ r ∧ Below w0.heap.size w0 w' ∧ Kept w w' (fun k_ => P0_ k_) := by
 unfold quot_backW.f at h
 by_cases c_ : 0 ≤ lo_ ∧ lo_ < hi_ ∧ hi_ ≤ (l0.length : Int)
 ·rw [if_pos c_] at h; obtain ⟨c1_, c2_, c3_⟩ := c_; obtain ⟨r_, h1_, h2_⟩ := Option.map_eq_some_iff.mp h; clear h; subst h2_; obtain ⟨g_, cap_, hu_, _⟩ := Kd.R_form ho0 (by omega); subst hu_; have hcap_ := (Kd.R_reads' ho0).2.1; obtain ⟨s_, hs_, hx_⟩ := XW_of_R ho0 lo_.toNat hi_.toNat (by omega) (by omega); subst hs_; rw [xwin_slice]; refine (quot_back.callsX k ⟨l0.take lo_.toNat, l0.drop hi_.toNat, cap_⟩ P0_ (.slice (some ⟨g_, lo_.toNat, none⟩) (hi_.toNat - lo_.toNat) (cap_ - lo_.toNat)) ((l0.take hi_.toNat).drop lo_.toNat) A1 c1 l1 r_ w0 w hB (hx_ _ (by omega) (by omega)) hr1 hc1 h1_).mono ?_; rintro e w' ⟨he_, hw_, hq_⟩; refine ⟨he_, ?_, hq_⟩
  have hl_ : hi_.toNat - lo_.toNat = (r_).length := by
   obtain ⟨A_, c_, e_⟩ := XW_slice hw_; injection e_
  have hr_ := XW_to_R (lo := lo_.toNat) hw_
  have hn_ : (l0.take lo_.toNat ++ r_ ++ l0.drop hi_.toNat).length = l0.length := by
   simp only [List.length_append, List.length_take, List.length_drop]
   omega
  rw [hn_] at hr_; exact hr_
 ·rw [if_neg c_] at h; cases h
end Go.Proofs.Ytebjbmgfbejapaa.F
end

section
namespace Go.Proofs.Ytebjbmgfbejapaa.F
open Go.RowKit Go.Proofs.YtebjbmgfbejapaaW.PrintWords Go.Proofs.YtebjbmgfbejapaaW.PrintLast Go.Proofs.YtebjbmgfbejapaaW.PrintMore Go.Proofs.YtebjbmgfbejapaaX
attribute [local go_sem] max2_int cell_some xrun_add64 xrun_sub64
attribute [local go_sem] max2_int min2_int max_two min_two max_three min_three max_four min_four
set_option linter.unusedVariables false
set_option linter.unusedSimpArgs false
mutual
def quot_long.l0 : Nat → List Int → List Int → Int → List Int → Int → Option (List Int × List Int)
 | 0, _, _, _, _, _ => none
 | k + 1, x0, x1, x6, x7, x8 => if x8 ≥ 0 then (if 0 ≤ x8 then (if x8 < (wrap64 ((wrap64 (x8 + (x1.length : Int))) + 1)) then (if (wrap64 ((wrap64 (x8 + (x1.length : Int))) + 1)) ≤ (x0.length : Int) then ((quot_guessW.f k x0 x8 (wrap64 ((wrap64 (x8 + (x1.length : Int))) + 1)) x1).bind fun t709 => ((quot_lessW.f k x0 x8 (wrap64 ((wrap64 (x8 + (x1.length : Int))) + 1)) x1 t709).bind fun bt710 => (quot_long.l1 k bt710.2 x1 x6 x7 x8 t709 bt710.1))) else (none)) else (none)) else (none)) else ((nat_Of.f k x0).bind fun t698 => ((quot_Shr.f k t698 (wrap64 (x6))).bind fun bt701 => ((nat_Nat_Limbs.f bt701.1).bind fun t706 => (some (x7, t706)))))
def quot_long.l1 : Nat → List Int → List Int → Int → List Int → Int → Int → Int → Option (List Int × List Int)
 | 0, _, _, _, _, _, _, _ => none
 | k + 1, x0, x1, x6, x7, x8, x10, x11 => if x11 = 0 then (if 0 ≤ x8 then (if x8 < (x7.length : Int) then (quot_long.l0 k x0 x1 x6 (x7.set (x8 : Int).toNat x10) (wrap64 (x8 - 1))) else (none)) else (none)) else ((quot_backW.f k x0 x8 (wrap64 ((wrap64 (x8 + (x1.length : Int))) + 1)) x1).bind fun t713 => (if 0 ≤ x8 then (if 0 ≤ (x1.length : Int) then (if (x1.length : Int) < (wrap64 ((wrap64 (x8 + (x1.length : Int))) + 1)) - x8 then (if 0 ≤ ((x1.length : Int) + x8) then (if ((x1.length : Int) + x8) < (x0.length : Int) then (if (rd t713 ((x1.length : Int) + x8)) = 0 then (quot_long.l1 k t713 x1 x6 x7 x8 (IntKind.u64.wrap (x10 - 1)) 0) else (quot_long.l1 k t713 x1 x6 x7 x8 (IntKind.u64.wrap (x10 - 1)) x11)) else (none)) else (none)) else (none)) else (none)) else (none)))
end
def quot_long.f (k : Nat) (l0 : List Int) (l1 : List Int) : Option (List Int × List Int) := if 0 ≤ (wrap64 ((l1.length : Int) - 1)) then (if (wrap64 ((l1.length : Int) - 1)) < (l1.length : Int) then ((bits_LeadingZeros64.f k (rd l1 (wrap64 ((l1.length : Int) - 1)))).bind fun t685 => ((quot_moved.f k l0 (IntKind.u64.wrap (t685))).bind fun t686 => ((quot_moved.f k l1 (IntKind.u64.wrap (t685))).bind fun t689 => (if 0 ≤ (l1.length : Int) then (if (l1.length : Int) ≤ (t689.length : Int) then ((some (t689.take ((l1.length : Int) : Int).toNat : List Int)).bind fun y692 => (if 0 ≤ (wrap64 ((t686.length : Int) - (y692.length : Int))) then (if (wrap64 ((t686.length : Int) - (y692.length : Int)) : Int).toNat ≤ 35184372088832 then ((some (List.replicate (wrap64 ((t686.length : Int) - (y692.length : Int)) : Int).toNat 0 : List Int)).bind fun y695 => (quot_long.l0 k t686 y692 (IntKind.u64.wrap (t685)) y695 (wrap64 ((y695.length : Int) - 1)))) else (none)) else (none))) else (none)) else (none))))) else (none)) else (none)
theorem quot_long.mono_l : ∀ k, (∀ y0 y1 y2 y3 y4, LeO (quot_long.l0 k y0 y1 y2 y3 y4) (quot_long.l0 (k + 1) y0 y1 y2 y3 y4)) ∧ (∀ y0 y1 y2 y3 y4 y5 y6, LeO (quot_long.l1 k y0 y1 y2 y3 y4 y5 y6) (quot_long.l1 (k + 1) y0 y1 y2 y3 y4 y5 y6))
 | 0 => ⟨fun _ _ _ _ _ r h => by simp [quot_long.l0] at h, fun _ _ _ _ _ _ _ r h => by simp [quot_long.l1] at h⟩
 | k + 1 => by
  obtain ⟨ih0, ih1⟩ := quot_long.mono_l k; refine ⟨?_, ?_⟩
  ·intro y0 y1 y2 y3 y4; unfold quot_long.l0
   repeat' first
   | (with_reducible exact ih0 _ _ _ _ _)
   | (with_reducible exact ih1 _ _ _ _ _ _ _)
   | (with_reducible exact bits_LeadingZeros64.mono _ _)
   | (with_reducible exact nat_Of.mono _ _)
   | (with_reducible exact quot_Shr.mono _ _ _)
   | (with_reducible exact quot_backW.mono _ _ _ _ _)
   | (with_reducible exact quot_guessW.mono _ _ _ _ _)
   | (with_reducible exact quot_lessW.mono _ _ _ _ _ _)
   | (with_reducible exact quot_moved.mono _ _ _)
   | (with_reducible exact LeO.refl _)
   | (with_reducible exact LeO.none _)
   | (with_reducible refine LeO.ite ?_ ?_)
   | (with_reducible refine LeO.bind ?_ (fun _ => ?_))
   | exact ih0 _ _ _ _ _
   | exact ih1 _ _ _ _ _ _ _
   | exact bits_LeadingZeros64.mono _ _
   | exact nat_Of.mono _ _
   | exact quot_Shr.mono _ _ _
   | exact quot_backW.mono _ _ _ _ _
   | exact quot_guessW.mono _ _ _ _ _
   | exact quot_lessW.mono _ _ _ _ _ _
   | exact quot_moved.mono _ _ _
   | exact LeO.none _
   | refine LeO.ite ?_ ?_
   | refine LeO.bind ?_ (fun _ => ?_)
  ·intro y0 y1 y2 y3 y4 y5 y6; unfold quot_long.l1
   repeat' first
   | (with_reducible exact ih0 _ _ _ _ _)
   | (with_reducible exact ih1 _ _ _ _ _ _ _)
   | (with_reducible exact bits_LeadingZeros64.mono _ _)
   | (with_reducible exact nat_Of.mono _ _)
   | (with_reducible exact quot_Shr.mono _ _ _)
   | (with_reducible exact quot_backW.mono _ _ _ _ _)
   | (with_reducible exact quot_guessW.mono _ _ _ _ _)
   | (with_reducible exact quot_lessW.mono _ _ _ _ _ _)
   | (with_reducible exact quot_moved.mono _ _ _)
   | (with_reducible exact LeO.refl _)
   | (with_reducible exact LeO.none _)
   | (with_reducible refine LeO.ite ?_ ?_)
   | (with_reducible refine LeO.bind ?_ (fun _ => ?_))
   | exact ih0 _ _ _ _ _
   | exact ih1 _ _ _ _ _ _ _
   | exact bits_LeadingZeros64.mono _ _
   | exact nat_Of.mono _ _
   | exact quot_Shr.mono _ _ _
   | exact quot_backW.mono _ _ _ _ _
   | exact quot_guessW.mono _ _ _ _ _
   | exact quot_lessW.mono _ _ _ _ _ _
   | exact quot_moved.mono _ _ _
   | exact LeO.none _
   | refine LeO.ite ?_ ?_
   | refine LeO.bind ?_ (fun _ => ?_)
theorem quot_long.mono : ∀ a0 a1 k, LeO (quot_long.f k a0 a1) (quot_long.f (k + 1) a0 a1) := by
 intro a0 a1 k; obtain ⟨ih0, ih1⟩ := quot_long.mono_l k; unfold quot_long.f
 repeat' first
   | (with_reducible exact ih0 _ _ _ _ _)
   | (with_reducible exact ih1 _ _ _ _ _ _ _)
   | (with_reducible exact bits_LeadingZeros64.mono _ _)
   | (with_reducible exact nat_Of.mono _ _)
   | (with_reducible exact quot_Shr.mono _ _ _)
   | (with_reducible exact quot_backW.mono _ _ _ _ _)
   | (with_reducible exact quot_guessW.mono _ _ _ _ _)
   | (with_reducible exact quot_lessW.mono _ _ _ _ _ _)
   | (with_reducible exact quot_moved.mono _ _ _)
   | (with_reducible exact LeO.refl _)
   | (with_reducible exact LeO.none _)
   | (with_reducible refine LeO.ite ?_ ?_)
   | (with_reducible refine LeO.bind ?_ (fun _ => ?_))
   | exact ih0 _ _ _ _ _
   | exact ih1 _ _ _ _ _ _ _
   | exact bits_LeadingZeros64.mono _ _
   | exact nat_Of.mono _ _
   | exact quot_Shr.mono _ _ _
   | exact quot_backW.mono _ _ _ _ _
   | exact quot_guessW.mono _ _ _ _ _
   | exact quot_lessW.mono _ _ _ _ _ _
   | exact quot_moved.mono _ _ _
   | exact LeO.none _
   | refine LeO.ite ?_ ?_
   | refine LeO.bind ?_ (fun _ => ?_)
def quot_long.T2 : Bool × List (List Nat × List Nat) := (true, [([], []), ([], []), ([0, 1], [0, 1]), ([], []), ([], []), ([3, 4, 2], [3, 4]), ([], []), ([6], [6]), ([5, 7], [5, 7]), ([2, 5, 0, 1, 2], [0, 2]), ([8, 9, 0, 1, 2, 3, 4, 5, 6, 7, 8, 9], [3, 6, 8])])
def quot_long.B2 : List Nat := [0, 0, 3, 0, 0, 31, 0, 64, 255, 63, 1023]
theorem quot_long.tab2 : rtab .any (opsOf Try.f56 2) = quot_long.T2 := by kernel_rfl
theorem quot_long.bits2 : waitsOk quot_long.T2.2 quot_long.B2 = true := by kernel_rfl
set_option maxHeartbeats 8000000 in
set_option maxRecDepth 100000 in
theorem quot_long.calls (k : Nat) (A0 : Option Addr) (c0 : Nat) (l0 : List Int) (A1 : Option Addr) (c1 : Nat) (l1 : List Int) (r1 : List Int) (r2 : List Int) (w : World) (hr0 : Kd.C (Kd.int .u64) w A0 l0.length l0) (hc0 : l0.length ≤ c0) (hr1 : Kd.C (Kd.int .u64) w A1 l1.length l1) (hc1 : l1.length ≤ c1) (h : quot_long.f k l0 l1 = some (r1, r2)) :
  Calls Try.prog 56 #[.slice A0 l0.length c0, .slice A1 l1.length c1] w fun e w' => ∃ v0_ v1_ : Value, e = .returned (.tuple #[v0_, v1_]) ∧ Kd.R (Kd.int .u64) 27 w' w.heap.size (fun k_ => some k_ ≠ (v1_ : Value).ownBlock) v0_ r1 ∧ Kd.R (Kd.int .u64) 27 w' w.heap.size (fun k_ => some k_ ≠ (v0_ : Value).ownBlock) v1_ r2 ∧ Below w.heap.size w w' := by
 have hu25 := Try.underlying25; have HR0 := m0 hr0; have HC0 := m0 hc0; clear hr0 hc0; have HR1 := m0 hr1; have HC1 := m0 hc1; clear hr1 hc1; have HB := m0 (Below.refl w.heap.size w); have H : (if 0 ≤ (wrap64 ((l1.length : Int) - 1)) then (if (wrap64 ((l1.length : Int) - 1)) < (l1.length : Int) then ((bits_LeadingZeros64.f k (rd l1 (wrap64 ((l1.length : Int) - 1)))).bind fun t685 => ((quot_moved.f k l0 (IntKind.u64.wrap (t685))).bind fun t686 => ((quot_moved.f k l1 (IntKind.u64.wrap (t685))).bind fun t689 => (if 0 ≤ (l1.length : Int) then (if (l1.length : Int) ≤ (t689.length : Int) then ((some (t689.take ((l1.length : Int) : Int).toNat : List Int)).bind fun y692 => (if 0 ≤ (wrap64 ((t686.length : Int) - (y692.length : Int))) then (if (wrap64 ((t686.length : Int) - (y692.length : Int)) : Int).toNat ≤ 35184372088832 then ((some (List.replicate (wrap64 ((t686.length : Int) - (y692.length : Int)) : Int).toNat 0 : List Int)).bind fun y695 => (quot_long.l0 k t686 y692 (IntKind.u64.wrap (t685)) y695 (wrap64 ((y695.length : Int) - 1)))) else (none)) else (none))) else (none)) else (none))))) else (none)) else (none)) = some (r1, r2) := h; clear h; obtain ⟨ji3, hji3⟩ : ∃ j_ : Int, (wrap64 ((l1.length : Int) - 1)) = j_ := ⟨_, rfl⟩; (replace H : (if 0 ≤ (ji3) then (if (ji3) < (l1.length : Int) then ((bits_LeadingZeros64.f k (rd l1 (ji3))).bind fun t685 => ((quot_moved.f k l0 (IntKind.u64.wrap (t685))).bind fun t686 => ((quot_moved.f k l1 (IntKind.u64.wrap (t685))).bind fun t689 => (if 0 ≤ (l1.length : Int) then (if (l1.length : Int) ≤ (t689.length : Int) then ((some (t689.take ((l1.length : Int) : Int).toNat : List Int)).bind fun y692 => (if 0 ≤ (wrap64 ((t686.length : Int) - (y692.length : Int))) then (if (wrap64 ((t686.length : Int) - (y692.length : Int)) : Int).toNat ≤ 35184372088832 then ((some (List.replicate (wrap64 ((t686.length : Int) - (y692.length : Int)) : Int).toNat 0 : List Int)).bind fun y695 => (quot_long.l0 k t686 y692 (IntKind.u64.wrap (t685)) y695 (wrap64 ((y695.length : Int) - 1)))) else (none)) else (none))) else (none)) else (none))))) else (none)) else (none)) = some (r1, r2) := by first | (rw [hji3] at H; exact H) | (simp only [hji3] at H ⊢; exact H)); have hji3w : (IntKind.i64.wrap ((l1.length : Int) - 1)) = ji3 := (i64_w _).trans hji3
 by_cases c4 : 0 ≤ (ji3)
 rotate_left
 ·rw [if_neg c4] at H; exact absurd H (by simp)
 rw [if_pos c4] at H; have c4b0 : decide (0 ≤ (ji3)) = true := decide_eq_true c4; clear c4
 by_cases c5 : (ji3) < (l1.length : Int)
 rotate_left
 ·rw [if_neg c5] at H; exact absurd H (by simp)
 rw [if_pos c5] at H; have c5b0 : decide ((ji3) < (l1.length : Int)) = true := decide_eq_true c5; clear c5; replace H := Option.bind_eq_some_iff.mp H; obtain ⟨t685, A60, H⟩ := H; (try dsimp only at H); have A6 := m0 A60; clear A60; replace H := Option.bind_eq_some_iff.mp H; obtain ⟨t686, A70, H⟩ := H; (try dsimp only at H); have A7 := m0 A70; clear A70; replace H := Option.bind_eq_some_iff.mp H; obtain ⟨t689, A80, H⟩ := H; (try dsimp only at H); have A8 := m0 A80; clear A80
 by_cases c9 : 0 ≤ (l1.length : Int)
 rotate_left
 ·rw [if_neg c9] at H; exact absurd H (by simp)
 rw [if_pos c9] at H; have c9b0 := eq_true c9; have c9b1 : decide (0 ≤ (l1.length : Int)) = true := decide_eq_true c9; clear c9
 by_cases c10 : (l1.length : Int) ≤ (t689.length : Int)
 rotate_left
 ·rw [if_neg c10] at H; exact absurd H (by simp)
 rw [if_pos c10] at H; have c10b0 := eq_true c10; have c10b1 : decide ((l1.length : Int) ≤ (t689.length : Int)) = true := decide_eq_true c10; clear c10; obtain ⟨y692, hy692⟩ : ∃ y_ : List Int, y_ = (t689.take ((l1.length : Int) : Int).toNat) := ⟨_, rfl⟩; (replace H : (if 0 ≤ (wrap64 ((t686.length : Int) - (y692.length : Int))) then (if (wrap64 ((t686.length : Int) - (y692.length : Int)) : Int).toNat ≤ 35184372088832 then ((some (List.replicate (wrap64 ((t686.length : Int) - (y692.length : Int)) : Int).toNat 0 : List Int)).bind fun y695 => (quot_long.l0 k t686 y692 (IntKind.u64.wrap (t685)) y695 (wrap64 ((y695.length : Int) - 1)))) else (none)) else (none)) = some (r1, r2) := by first | (rw [hy692]; with_reducible exact H) | (have H2_ := (Option.bind_some _ _).symm.trans H; rw [hy692]; with_reducible exact H2_) | (have H2_ := (Option.bind_some _ _).symm.trans H; with_reducible exact H2_) | with_reducible exact H | (rw [hy692]; exact H) | exact H); have Ny692 := m0 hy692; clear hy692; obtain ⟨ji11, hji11⟩ : ∃ j_ : Int, (wrap64 ((t686.length : Int) - (y692.length : Int))) = j_ := ⟨_, rfl⟩; (replace H : (if 0 ≤ (ji11) then (if (ji11 : Int).toNat ≤ 35184372088832 then ((some (List.replicate (ji11 : Int).toNat 0 : List Int)).bind fun y695 => (quot_long.l0 k t686 y692 (IntKind.u64.wrap (t685)) y695 (wrap64 ((y695.length : Int) - 1)))) else (none)) else (none)) = some (r1, r2) := by first | (rw [hji11] at H; exact H) | (simp only [hji11] at H ⊢; exact H)); (try rw [hji11] at A6); (try rw [hji11] at A7); (try rw [hji11] at A8); have hji11w : (IntKind.i64.wrap ((t686.length : Int) - (y692.length : Int))) = ji11 := (i64_w _).trans hji11
 by_cases c12 : 0 ≤ (ji11)
 rotate_left
 ·rw [if_neg c12] at H; exact absurd H (by simp)
 rw [if_pos c12] at H; have c12b0 := eq_true c12; have c12b1 : decide (0 ≤ (ji11)) = true := decide_eq_true c12; clear c12
 by_cases c13 : (ji11 : Int).toNat ≤ 35184372088832
 rotate_left
 ·rw [if_neg c13] at H; exact absurd H (by simp)
 rw [if_pos c13] at H; have c13b0 := eq_true c13; have c13b1 : decide ((ji11 : Int).toNat ≤ 35184372088832) = true := decide_eq_true c13; clear c13; obtain ⟨y695, hy695⟩ : ∃ y_ : List Int, y_ = (List.replicate (ji11 : Int).toNat 0) := ⟨_, rfl⟩; (replace H : (quot_long.l0 k t686 y692 (IntKind.u64.wrap (t685)) y695 (wrap64 ((y695.length : Int) - 1))) = some (r1, r2) := by first | (rw [hy695]; with_reducible exact H) | (have H2_ := (Option.bind_some _ _).symm.trans H; rw [hy695]; with_reducible exact H2_) | (have H2_ := (Option.bind_some _ _).symm.trans H; with_reducible exact H2_) | with_reducible exact H | (rw [hy695]; exact H) | exact H); have Ny695 := m0 hy695; clear hy695; have H' := m0 H; clear H; have p684 : 0 ≤ ((ji3) : Int) := of_decide_eq_true (by first | (with_reducible assumption) | assumption); have q684 : (ji3) < (l1.length : Int) := of_decide_eq_true (by first | (with_reducible assumption) | assumption); obtain ⟨ad684, e684, hx684_0⟩ := Kd.at_int HR1.1 (ji3) p684 q684; cases e684; replace p684 := eq_true p684; replace q684 := eq_true q684
 go_enter Try.func56, Try.ntmps56
 try go_wp2_with (first | ((with_reducible refine gate_callee (f := 64) rfl ?_); refine goesL_ (some 20) rfl rfl Try.func64 kr rfl #[.int .u64 (rd l1 (ji3))] rfl (by (try simp only [List.map_toArray, List.map_cons, List.map_nil]); first | done | (simp only [hji3]; rfl) | rfl | (simp only [List.length_drop, List.length_take]; rfl)) ?_; (with_reducible refine (bits_LeadingZeros64.calls k (rd l1 (ji3)) t685 _ A6.1).mono ?_); rintro e w' ⟨rfl, ⟨nd, rfl⟩⟩; refine ⟨_, rfl, ?_⟩))
 replace HB := m0 (below_drew1 (pw_below_drewN HB.1 nd)); refine start_ (n := 11) (S := fun w' => True) (ds := []) (fl 0 11 []) kr rfl rfl trivial (fun hHeld => ?_); refine with_tabW quot_long.tab2 quot_long.bits2 (fun HT_ HW_ => ?_)
 generalize (w.drewN nd).drew = w14 at HB hHeld ⊢
 refine pure_ (i := 0) (N := some 22) (v := ?_) (a' := ?_) (fl 1 11 []) rfl rfl (any_of HT_.1 kr) (fun _ _ _ h => h) (Or.inl ⟨by rfl, ?_⟩) ?_ ?_; rotate_left
 ·intro w'; go_simp; with_reducible rfl
 rotate_left
 ·simp only [Act.put, sA, sB, sC, i64_w, i32_w]; rfl
 refine pure_ (i := 1) (N := some 23) (v := ?_) (a' := ?_) (fl 2 11 []) rfl rfl (any_of HT_.1 kr) (fun _ _ _ h => h) (Or.inl ⟨by rfl, ?_⟩) ?_ ?_; rotate_left
 ·intro w'; go_simp; with_reducible rfl
 rotate_left
 ·simp only [Act.put, sA, sB, sC, i64_w, i32_w]; rfl
 refine pure_ (i := 3) (N := some 25) (v := ?_) (a' := ?_) (fl 2 11 [3]) rfl rfl (any_of HT_.1 kr) (fun _ _ _ h => h) (Or.inl ⟨by rfl, ?_⟩) ?_ ?_; rotate_left
 ·intro w'; go_simp; with_reducible rfl
 rotate_left
 ·simp only [Act.put, sA, sB, sC, i64_w, i32_w]; rfl
 refine pure_ (i := 4) (N := some 26) (v := ?_) (a' := ?_) (fl 2 11 [3, 4]) rfl rfl (any_of HT_.1 kr) (fun _ _ _ h => h) (Or.inl ⟨by rfl, ?_⟩) ?_ ?_; rotate_left
 ·intro w'; go_simp; with_reducible rfl
 rotate_left
 ·simp only [Act.put, sA, sB, sC, i64_w, i32_w]; rfl
 refine pure_ (i := 6) (N := some 28) (v := ?_) (a' := ?_) (fl 2 11 [3, 4, 6]) rfl rfl (any_of HT_.1 kr) (fun _ _ _ h => h) (Or.inl ⟨by rfl, ?_⟩) ?_ ?_; rotate_left
 ·intro w'; go_simp; with_reducible rfl
 rotate_left
 ·simp only [Act.put, sA, sB, sC, i64_w, i32_w]; rfl
 refine pure_ (i := 7) (N := some 29) (v := ?_) (a' := ?_) (fl 2 11 [3, 4, 6, 7]) rfl rfl (any_of HT_.1 kr) (fun _ _ _ h => h) (Or.inl ⟨by rfl, ?_⟩) ?_ ?_; rotate_left
 ·intro w'; go_simp; with_reducible rfl
 rotate_left
 ·simp only [Act.put, sA, sB, sC, i64_w, i32_w]; rfl
 refine one_ (i := 2) (N := some 24) (fl 5 11 [6, 7]) rfl rfl (one_of HT_.1 kr) (by decide) (fun K hK => ?_); refine goes_ Try.func58 kr rfl #[.slice A0 l0.length c0, .int .u64 (IntKind.u64.wrap (t685))] (by rfl) rfl rfl gm ?_; (with_reducible refine (quot_moved.calls k _ _ l0 (IntKind.u64.wrap (t685)) t686 _ ?side1 ?side2 A7.1).mono ?_); (case side1 => repeat (first | exact (Kd.C_below HR0.1 HB.1) | (with_reducible refine Kd.C_alloc ?_ _) | (with_reducible refine Kd.C_drewN ?_ _) | (with_reducible refine Kd.C_drew ?_))); (case side2 => exact HC0.1); rintro e w15 ⟨v687, rfl, ho0, hb⟩; refine ⟨_, rfl, ?_⟩; have a2 := m0 (Kd.R_lower ho0 (bz HB.1)); replace HB := sa HB hb; clear hb ho0; refine hK.out _ _ trivial (fun hHeld => ?_); clear hK K; refine norm_ (a' := ?_) ?_ ?_; rotate_left
 ·show Act.put _ (some 24) _ = _; simp only [Act.put, sA, sB, sC, i64_w, i32_w]; rfl
 refine one_ (i := 5) (N := some 27) (fl 8 11 []) rfl rfl (one_of HT_.1 kr) (by decide) (fun K hK => ?_); refine goes_ Try.func58 kr rfl #[.slice (some ad684) l1.length c1, .int .u64 (IntKind.u64.wrap (t685))] (by rfl) rfl rfl gm ?_; (with_reducible refine (quot_moved.calls k _ _ l1 (IntKind.u64.wrap (t685)) t689 _ ?side1 ?side2 A8.1).mono ?_); (case side1 => repeat (first | exact (Kd.C_below HR1.1 HB.1) | (with_reducible refine Kd.C_alloc ?_ _) | (with_reducible refine Kd.C_drewN ?_ _) | (with_reducible refine Kd.C_drew ?_))); (case side2 => exact HC1.1); rintro e w16 ⟨v690, rfl, ho0, hb⟩; refine ⟨_, rfl, ?_⟩; have a3 := m0 (Kd.R_lower (Kd.R_new' ho0 (Kd.R_lt a2.1)) (bz HB.1)); replace a2 := m0 (Kd.R_elder' a2.1 (Kd.R_base ho0) hb); replace HB := sa HB hb; clear hb ho0; obtain ⟨D0, K0, j0⟩ := Kd.R_slice a3.1; (first | subst j0 | (injection j0 with f1_ f2_ f3_; have f4_ := f1_.symm; have f5_ := f3_.symm; clear f1_ f2_ f3_; subst f4_; subst f5_)); have q18 : ((l1.length : Int) : Int) ≤ ((t689.length : Int) : Int) := of_decide_eq_true (by first | (with_reducible assumption) | assumption); obtain ⟨i018, hi018, _, hsz18, _⟩ := info_parts info27; have hcut18 := cut_to (P := Try.prog) 22 27 .i64 Try.underlying22 hi018 D0 t689.length K0 (l1.length : Int) (of_decide_eq_true (by first | (with_reducible assumption) | assumption)) q18 (Kd.R_reads' a3.1).2.1; have hr18 := Kd.R_take (m := ((l1.length : Int) : Int).toNat) a3.1 (by omega); have hy18 : y692.length = ((l1.length : Int) : Int).toNat := (by rw [Ny692.out, List.length_take]; omega); rw [← Ny692.out] at hr18; rw [← hy18] at hr18 hcut18; clear hy18 hi018 hsz18 a3; have a4 := m0 hr18; clear hr18; replace q18 := eq_true q18; refine hK.out _ _ trivial (fun hHeld => ?_); clear hK K; refine norm_ (a' := ?_) ?_ ?_; rotate_left
 ·show Act.put _ (some 27) _ = _; simp only [Act.put, sA, sB, sC, i64_w, i32_w]; rfl
 refine pure_ (i := 8) (N := some 30) (v := ?_) (a' := ?_) (fl 9 11 []) rfl rfl (any_of HT_.1 kr) (fun _ _ _ h => h) (Or.inl ⟨by rfl, ?_⟩) ?_ ?_; rotate_left
 ·intro w'; go_simp; with_reducible rfl
 rotate_left
 ·simp only [Act.put, sA, sB, sC, i64_w, i32_w]; rfl
 refine pure_ (i := 9) (N := some 0) (v := ?_) (a' := ?_) (fl 10 11 []) rfl rfl (any_of HT_.1 kr) (fun _ _ _ h => h) (Or.inl ⟨by rfl, ?_⟩) ?_ ?_; rotate_left
 ·intro w'; go_simp; with_reducible rfl
 rotate_left
 ·simp only [Act.put, sA, sB, sC, i64_w, i32_w]; rfl
 refine pure_ (i := 10) (N := some 1) (v := ?_) (a' := ?_) (fl 11 11 []) rfl rfl (any_of HT_.1 kr) (fun _ _ _ h => h) (Or.inl ⟨by rfl, ?_⟩) ?_ ?_; rotate_left
 ·intro w'; go_simp; with_reducible rfl
 rotate_left
 ·simp only [Act.put, sA, sB, sC, i64_w, i32_w]; rfl
 refine done_ (done_of HT_.1 kr) ?_; obtain ⟨D1, K1, j1⟩ := Kd.R_slice a2.1; subst j1
 try go_wp2_with (first | ((with_reducible refine gate_dst (N := 36) rfl ?_); refine Kd.R_make (Kd.int .u64) _ 27 rfl (N := 36) rfl 22 _ _ rfl ji11 rfl rfl Try.underlying22 (.int .u64 0) 8 info27 rfl (by decide) (by omega) 0 (ok := fun _ => True) (okp := fun _ => True) rfl (fun _ hk => hk) trivial (of_decide_eq_true (by first | (with_reducible assumption) | assumption)) (Nat.le_trans (Nat.mul_le_mul_right _ (of_decide_eq_true (by first | (with_reducible assumption) | assumption) : ji11.toNat ≤ 35184372088832)) (by omega)) (Below.refl _ _) (Nat.le_refl _) ?_; intro v696 w20 ho21 hb hg_ hnew_; clear hg_ hnew_; (first | rw [← Ny695.out] at ho21 | (simp only [Int.reduceToNat] at ho21; rw [← Ny695.out] at ho21)); have a5 := m0 (Kd.R_lower (Kd.R_new' (Kd.R_new' ho21 (Kd.R_lt a2.1)) (Kd.R_lt a4.1)) (bz HB.1)); replace a2 := m0 (Kd.R_elder' a2.1 (Kd.R_base ho21) hb); replace a4 := m0 (Kd.R_elder' a4.1 (Kd.R_base ho21) hb); replace HB := sa HB hb; clear hb ho21; obtain ⟨D2, K2, j2⟩ := Kd.R_slice a5.1; subst j2))
 (try simp only [show (Value.slice D0 t689.length K0).ownBlock = (Value.slice D0 y692.length K0).ownBlock from by cases D0 <;> rfl] at a2 a4 a5)
 go_loopg [8] k (fun kq v8 w' => ∃ (x0_1 : List Int) (x1_1 : List Int) (x7_1 : List Int) (x8_1 : Int), v8 = .int .i64 x8_1 ∧ Aside0 (quot_long.l0 kq x0_1 x1_1 (IntKind.u64.wrap (t685)) x7_1 x8_1 = some (r1, r2)) ∧ Aside0 (kq ≤ k) ∧ Aside0 (Kd.R (Kd.int .u64) 27 w' w.heap.size (fun k_ => some k_ ≠ ((.slice D0 y692.length K0) : Value).ownBlock ∧ some k_ ≠ ((.slice D2 y695.length K2) : Value).ownBlock) (.slice D1 t686.length K1) x0_1) ∧ Aside0 (Kd.R (Kd.int .u64) 27 w' w.heap.size (fun k_ => some k_ ≠ ((.slice D1 t686.length K1) : Value).ownBlock ∧ some k_ ≠ ((.slice D2 y695.length K2) : Value).ownBlock) (.slice D0 y692.length K0) x1_1) ∧ Aside0 (Kd.R (Kd.int .u64) 27 w' w.heap.size (fun k_ => some k_ ≠ ((.slice D1 t686.length K1) : Value).ownBlock ∧ some k_ ≠ ((.slice D0 y692.length K0) : Value).ownBlock) (.slice D2 y695.length K2) x7_1) ∧ Aside0 (Below w.heap.size w w'))
 case atStart => exact ⟨(t686), (y692), (y695), (wrap64 ((y695.length : Int) - 1)), (by first | rfl | (simp; done) | (simp [*]; done)), H', ⟨Nat.le_refl _⟩, ⟨by (with_reducible repeat (first | apply Kd.R_alloc | apply Kd.R_drewN | apply Kd.R_drew)); exact Kd.R_mono a2.1 (fun _ hk => ⟨hk.1.2, hk.2⟩)⟩, ⟨by (with_reducible repeat (first | apply Kd.R_alloc | apply Kd.R_drewN | apply Kd.R_drew)); exact Kd.R_mono a4.1 (fun _ hk => ⟨hk.1.2, hk.2⟩)⟩, ⟨by (with_reducible repeat (first | apply Kd.R_alloc | apply Kd.R_drewN | apply Kd.R_drew)); exact Kd.R_mono a5.1 (fun _ hk => ⟨hk.1.2, hk.2⟩)⟩, ⟨by repeat (first | (with_reducible first | exact HB.1 | apply below_alloc | apply pw_below_drewN | apply below_drew1) | exact HB.1)⟩⟩
 case round =>
  clear H'; (try clear c1); (try clear q1); (try clear p2); (try clear c4); (try clear c4b0); (try clear c5); (try clear c5b0); (try clear c6); (try clear p6); (try clear q6); (try clear hx6); (try clear c9); (try clear c9b0); (try clear c9b1); (try clear c10); (try clear c10b0); (try clear c10b1); (try clear c12); (try clear c12b0); (try clear c12b1); (try clear c13); (try clear c13b0); (try clear c13b1); (try clear q18); (try clear hx684_0); (try clear p684); (try clear q18); (try clear q684); obtain ⟨x0_1, x1_1, x7_1, x8_1, rfl, HA, HK1, HO_0, HO_1, HO_7, HB⟩ := hrel; have hl0_1 := (Kd.R_reads' HO_0.out).1; rw [hl0_1] at HO_0; (try simp only [hl0_1]); (try simp only [hl0_1] at HO_1); (try simp only [hl0_1] at HO_7); have hl1_1 := (Kd.R_reads' HO_1.out).1; rw [hl1_1] at HO_1; (try simp only [hl1_1]); (try simp only [hl1_1] at HO_0); (try simp only [hl1_1] at HO_7); have hl7_1 := (Kd.R_reads' HO_7.out).1; rw [hl7_1] at HO_7; (try simp only [hl7_1]); (try simp only [hl7_1] at HO_0); (try simp only [hl7_1] at HO_1); cases gk with
  | zero => exact absurd HA.out (by simp [quot_long.l0])
  | succ k1 =>
   have H := HA.out; clear HA; simp only [quot_long.l0] at H
   by_cases c23 : x8_1 ≥ 0
   ·rw [if_pos c23] at H; have c23b0 : decide (0 ≤ x8_1) = true := decide_eq_true c23; clear c23
    by_cases c24 : 0 ≤ x8_1
    rotate_left
    ·rw [if_neg c24] at H; exact absurd H (by simp)
    rw [if_pos c24] at H; have c24b0 := eq_true c24; have c24b1 : decide (0 ≤ x8_1) = true := decide_eq_true c24; clear c24
    by_cases c25 : x8_1 < (wrap64 ((wrap64 (x8_1 + (x1_1.length : Int))) + 1))
    rotate_left
    ·rw [if_neg c25] at H; exact absurd H (by simp)
    rw [if_pos c25] at H; have c25b0 := eq_true c25; have c25b1 : decide (x8_1 < (wrap64 ((wrap64 (x8_1 + (x1_1.length : Int))) + 1))) = true := decide_eq_true c25; have c25b1x := c25b1; (try simp only [hl0_1, hl1_1, hl7_1] at c25b1x)
    by_cases c26 : (wrap64 ((wrap64 (x8_1 + (x1_1.length : Int))) + 1)) ≤ (x0_1.length : Int)
    rotate_left
    ·rw [if_neg c26] at H; exact absurd H (by simp)
    rw [if_pos c26] at H; have c26b0 := eq_true c26; have c26b1 : decide ((wrap64 ((wrap64 (x8_1 + (x1_1.length : Int))) + 1)) ≤ (x0_1.length : Int)) = true := decide_eq_true c26; have c26b1x := c26b1; (try simp only [hl0_1, hl1_1, hl7_1] at c26b1x); replace H := Option.bind_eq_some_iff.mp H; obtain ⟨t709, A270, H⟩ := H; (try dsimp only at H); have A27 := m0 A270; clear A270; replace H := Option.bind_eq_some_iff.mp H; obtain ⟨⟨t710, t711⟩, A280, H⟩ := H; (try dsimp only at H); have A28 := m0 A280; clear A280; have H' := m0 H; clear H; obtain ⟨i029, hi029, _, hsz29, _⟩ := info_parts info27; have w029 : (0 : Int) ≤ (x8_1 : Int) := of_decide_eq_true (by first | (with_reducible assumption) | assumption); have w129 : (x8_1 : Int) < ((wrap64 ((wrap64 (x8_1 + (x1_1.length : Int))) + 1)) : Int) := of_decide_eq_true (by first | (with_reducible assumption) | assumption); have w229 : ((wrap64 ((wrap64 (x8_1 + (x1_1.length : Int))) + 1)) : Int) ≤ ((x0_1.length : Int) : Int) := of_decide_eq_true (by first | (with_reducible assumption) | assumption); have hwin29 := win_mid (P := Try.prog) 22 27 .i64 .i64 Try.underlying22 hi029 hsz29 HO_0.out (x8_1 : Int) ((wrap64 ((wrap64 (x8_1 + (x1_1.length : Int))) + 1)) : Int) w029 w129 (by omega); clear hi029 hsz29; replace w029 := eq_true w029; replace w129 := eq_true w129; replace w229 := eq_true w229
    go_wp2_with (first | ((with_reducible refine gate_callee (f := 65) rfl ?_); refine goesL_ (some 54) rfl rfl Try.func65 kr rfl #[xwin (.slice D1 x0_1.length K1) x8_1 (wrap64 ((wrap64 (x8_1 + (x1_1.length : Int))) + 1)), .slice D0 x1_1.length K0] rfl gm ?_; (with_reducible refine (quot_guessW.calls k1 _ _ x0_1 _ _ x1_1 t709 _ ?side1 ?side2 ?side3 ?side4 A27.1).mono ?_); (case side1 => exact cr HO_0.out); (case side2 => exact rl_ HO_0); (case side3 => exact cr HO_1.out); (case side4 => exact rl_ HO_1); rintro e w' ⟨rfl, ⟨nd, rfl⟩⟩; refine ⟨_, rfl, ?_⟩) | ((with_reducible refine gate_callee (f := 66) rfl ?_); refine goesL_ (some 58) rfl rfl Try.func66 kr rfl #[xwin (.slice D1 x0_1.length K1) x8_1 (wrap64 ((wrap64 (x8_1 + (x1_1.length : Int))) + 1)), .slice D0 x1_1.length K0, .int .u64 t709] rfl gm ?_; (with_reducible refine (quot_lessW.calls k1 (fun k_ => some k_ = (.slice D1 x0_1.length K1 : Value).ownBlock) (.slice D1 x0_1.length K1) x0_1 x8_1 (wrap64 ((wrap64 (x8_1 + (x1_1.length : Int))) + 1)) _ _ x1_1 t709 t710 t711 w _ ?side1 ?side2 ?side3 ?side4 A28.1).mono ?_); (case side1 => repeat (first | (with_reducible first | exact HB.1 | apply below_alloc | apply pw_below_drewN | apply below_drew1) | exact HB.1)); (case side2 => exact Kd.R_tight rfl HO_0.out); (case side3 => exact Kd.C_kept_own (HO_1.out) (fun k_ hk_ hs_ => (hk_.1) hs_)); (case side4 => exact rl_ HO_1); rintro e w30 ⟨rfl, hy0, hb, hkp⟩; refine ⟨_, rfl, ?_⟩; replace HO_0 := m0 (Kd.R_reok rfl hy0 (fun k_ e_ => HO_0.out.1 k_ e_)); replace HO_1 := m0 (Kd.R_mono (ok' := fun k_ => some k_ ≠ (.slice D1 x0_1.length K1 : Value).ownBlock ∧ some k_ ≠ (.slice D2 x7_1.length K2 : Value).ownBlock) (Kd.R_keptB (HO_1.out) hkp (fun k_ hk_ hs_ => (hk_.1) hs_)) (fun k_ hk_ => ⟨hk_.1.1, hk_.1.2⟩)); replace HO_7 := m0 (Kd.R_mono (ok' := fun k_ => some k_ ≠ (.slice D1 x0_1.length K1 : Value).ownBlock ∧ some k_ ≠ (.slice D0 x1_1.length K0 : Value).ownBlock) (Kd.R_keptB (HO_7.out) hkp (fun k_ hk_ hs_ => (hk_.1) hs_)) (fun k_ hk_ => ⟨hk_.1.1, hk_.1.2⟩)); replace HB := m0 (hb); clear hb hkp hy0))
    go_loopg [10, 11] k1 (fun kq v10 v11 w' => ∃ (x0_2 : List Int) (x10_2 : Int) (x11_2 : Int), v10 = .int .u64 x10_2 ∧ v11 = .int .u64 x11_2 ∧ Aside0 (quot_long.l1 kq x0_2 x1_1 (IntKind.u64.wrap (t685)) x7_1 x8_1 x10_2 x11_2 = some (r1, r2)) ∧ Aside0 (kq ≤ k1) ∧ Aside0 (Kd.R (Kd.int .u64) 27 w' w.heap.size (fun k_ => some k_ ≠ ((.slice D0 x1_1.length K0) : Value).ownBlock ∧ some k_ ≠ ((.slice D2 x7_1.length K2) : Value).ownBlock) (.slice D1 x0_1.length K1) x0_2) ∧ Aside0 (Kd.R (Kd.int .u64) 27 w' w.heap.size (fun k_ => some k_ ≠ ((.slice D1 x0_1.length K1) : Value).ownBlock ∧ some k_ ≠ ((.slice D2 x7_1.length K2) : Value).ownBlock) (.slice D0 x1_1.length K0) x1_1) ∧ Aside0 (Kd.R (Kd.int .u64) 27 w' w.heap.size (fun k_ => some k_ ≠ ((.slice D1 x0_1.length K1) : Value).ownBlock ∧ some k_ ≠ ((.slice D0 x1_1.length K0) : Value).ownBlock) (.slice D2 x7_1.length K2) x7_1) ∧ Aside0 (Below w.heap.size w w'))
    case atStart => exact ⟨(t711), (t709), (t710), (by first | rfl | (simp; done) | (simp [*]; done)), (by first | rfl | (simp; done) | (simp [*]; done)), H', ⟨Nat.le_refl _⟩, ⟨by (try simp only [hl0_1]); (try simp only [hl1_1]); (try simp only [hl7_1]); (with_reducible repeat (first | apply Kd.R_alloc | apply Kd.R_drewN | apply Kd.R_drew)); exact HO_0.out⟩, ⟨by (try simp only [hl0_1]); (try simp only [hl1_1]); (try simp only [hl7_1]); (with_reducible repeat (first | apply Kd.R_alloc | apply Kd.R_drewN | apply Kd.R_drew)); exact HO_1.out⟩, ⟨by (try simp only [hl0_1]); (try simp only [hl1_1]); (try simp only [hl7_1]); (with_reducible repeat (first | apply Kd.R_alloc | apply Kd.R_drewN | apply Kd.R_drew)); exact HO_7.out⟩, ⟨by repeat (first | (with_reducible first | exact HB.1 | apply below_alloc | apply pw_below_drewN | apply below_drew1) | exact HB.1)⟩⟩
    case round =>
     clear H'; (try clear c1); (try clear q1); (try clear c2); (try clear p2); (try clear c4); (try clear c4b0); (try clear c5); (try clear c5b0); (try clear c6); (try clear p6); (try clear q6); (try clear hx6); (try clear c9); (try clear c9b0); (try clear c9b1); (try clear c10); (try clear c10b0); (try clear c10b1); (try clear c12); (try clear c12b0); (try clear c12b1); (try clear c13); (try clear c13b0); (try clear c13b1); (try clear q18); (try clear c23); (try clear c23b0); (try clear c24); (try clear c24b0); (try clear c24b1); (try clear c25); (try clear c25b0); (try clear c25b1); (try clear c26); (try clear c26b0); (try clear c26b1); (try clear hx684_0); (try clear p2); (try clear p6); (try clear p684); (try clear q1); (try clear q18); (try clear q6); (try clear q684); obtain ⟨x0_2, x10_2, x11_2, rfl, rfl, HA, HK2, HO_0, HO_1, HO_7, HB⟩ := hrel; have hl0_2 := (Kd.R_reads' HO_0.out).1; rw [hl0_2] at HO_0; (try simp only [hl0_2]); (try simp only [hl0_2] at HO_1); (try simp only [hl0_2] at HO_7); cases gk with
     | zero => exact absurd HA.out (by simp [quot_long.l1])
     | succ k2 =>
      have H := HA.out; clear HA; simp only [quot_long.l1] at H
      by_cases c31 : x11_2 = 0
      ·rw [if_pos c31] at H; have c31b0 : (x11_2 == 0) = true := beq_iff_eq.mpr c31; have c31b1 : (x11_2 != 0) = false := bne_eq_false_iff_eq.mpr c31; clear c31
       by_cases c32 : 0 ≤ x8_1
       rotate_left
       ·rw [if_neg c32] at H; exact absurd H (by simp)
       rw [if_pos c32] at H; have c32b0 : decide (0 ≤ x8_1) = true := decide_eq_true c32; clear c32
       by_cases c33 : x8_1 < (x7_1.length : Int)
       rotate_left
       ·rw [if_neg c33] at H; exact absurd H (by simp)
       rw [if_pos c33] at H; have c33b0 : decide (x8_1 < (x7_1.length : Int)) = true := decide_eq_true c33; have c33b0x := c33b0; (try simp only [hl0_1, hl1_1, hl7_1, hl0_2] at c33b0x); clear c33; obtain ⟨y712, hy712⟩ : ∃ y_ : List Int, y_ = (x7_1.set (x8_1 : Int).toNat x10_2) := ⟨_, rfl⟩; (replace H : (quot_long.l0 k2 x0_2 x1_1 (IntKind.u64.wrap (t685)) y712 (wrap64 (x8_1 - 1))) = some (r1, r2) := by first | (rw [hy712]; with_reducible exact H) | (have H2_ := (Option.bind_some _ _).symm.trans H; rw [hy712]; with_reducible exact H2_) | (have H2_ := (Option.bind_some _ _).symm.trans H; with_reducible exact H2_) | with_reducible exact H | (rw [hy712]; exact H) | exact H); have Ny712 := m0 hy712; clear hy712; have H' := m0 H; clear H; have p34 : 0 ≤ (x8_1 : Int) := of_decide_eq_true (by first | (with_reducible assumption) | assumption); have q34 : (x8_1 : Int) < ((x7_1.length : Int) : Int) := of_decide_eq_true (by first | (with_reducible assumption) | assumption); obtain ⟨go34, K3, j3, g0, gl34, cl34, HG34⟩ := Kd.R_form HO_7.out (by omega); (first | cases j3 | (injection j3 with ea_ en_ ec_; (first | subst ea_ | (injection ea_ with ea_; subst ea_)); subst ec_; clear en_)); have GB34 := m0 g0; have GG34 := m0 HG34; clear g0 gl34 HG34; obtain ⟨hx34_0, hf34_0⟩ := Kd.R_celln 0 HO_7.out (x8_1 : Int) p34 q34; replace p34 := eq_true p34; replace q34 := eq_true q34; have HP35 := Kd.R_putg HO_7.out (x8_1 : Int) x10_2
       go_wp2_with (first | ((with_reducible refine gate_store (t := 27) (p := 75) rfl ?_); refine store_event (t := 27) (p := 75) (v := ?vo_w36) (w1 := (wr.setCell ⟨go34, (x8_1 : Int).toNat, none⟩ (.int .u64 x10_2))) ?hg ?ho ?hn ?hr ?_; (case ho => rfl); (case hg => rfl); (case hn => rfl); (case hr => first | (go_simp; done) | (go_simp; rfl)); intro w36 hw; have hg : wr.grownBy w36 (some go34) := (by rw [hw]; exact HP35.2); have hp_ : Kd.R (Kd.int .u64) 27 w36 w.heap.size (fun k_ => some k_ ≠ (.slice D1 x0_2.length K1 : Value).ownBlock ∧ some k_ ≠ (.slice D0 x1_1.length K0 : Value).ownBlock) (.slice (some ⟨go34, 0, none⟩) x7_1.length K2) y712 := (by rw [hw, Ny712.out]; exact HP35.1); clear HP35; replace HO_0 := m0 (Kd.R_after (v := (.slice (some ⟨go34, 0, none⟩) x7_1.length K2)) (v1 := (.slice (some ⟨go34, 0, none⟩) x7_1.length K2)) (ok := (fun k_ => some k_ ≠ (.slice D0 x1_1.length K0 : Value).ownBlock)) HO_0.out hg (.inl rfl)); replace HO_1 := m0 (Kd.R_after (v := (.slice (some ⟨go34, 0, none⟩) x7_1.length K2)) (v1 := (.slice (some ⟨go34, 0, none⟩) x7_1.length K2)) (ok := (fun k_ => some k_ ≠ (.slice D1 x0_2.length K1 : Value).ownBlock)) HO_1.out hg (.inl rfl)); replace HO_7 := m0 (hp_); replace HB := m0 ((by rw [hw]; exact below_set (HB.1) GB34.out : Below w.heap.size w w36)); clear hg hw hp_))
       (try simp only [← hl0_1, ← hl1_1, ← hl7_1, ← hl0_2])
       go_roundg k2
       case measure => have := HK1.out; have := HK2.out; omega
       case rel => exact ⟨(x0_2), (x1_1), (y712), (wrap64 (x8_1 - 1)), (by first | rfl | (simp; done) | (simp [*]; done)), H', ⟨by have := HK1.out; have := HK2.out; omega⟩, ⟨by (try simp only [hl0_1]); (try simp only [hl1_1]); (try simp only [hl7_1]); (try simp only [hl0_2]); (with_reducible repeat (first | apply Kd.R_alloc | apply Kd.R_drewN | apply Kd.R_drew)); exact HO_0.out⟩, ⟨by (try simp only [hl0_1]); (try simp only [hl1_1]); (try simp only [hl7_1]); (try simp only [hl0_2]); (with_reducible repeat (first | apply Kd.R_alloc | apply Kd.R_drewN | apply Kd.R_drew)); exact HO_1.out⟩, ⟨by (try simp only [hl0_1]); (try simp only [hl1_1]); (try simp only [hl7_1]); (try simp only [hl0_2]); (with_reducible repeat (first | apply Kd.R_alloc | apply Kd.R_drewN | apply Kd.R_drew)); exact HO_7.out⟩, ⟨by repeat (first | (with_reducible first | exact HB.1 | apply below_alloc | apply pw_below_drewN | apply below_drew1) | exact HB.1)⟩⟩
      ·rw [if_neg c31] at H; have c31b0 : (x11_2 == 0) = false := beq_eq_false_iff_ne.mpr c31; have c31b1 : (x11_2 != 0) = true := bne_iff_ne.mpr c31; replace H := Option.bind_eq_some_iff.mp H; obtain ⟨t713, A370, H⟩ := H; (try dsimp only at H); have A37 := m0 A370; clear A370
       by_cases c38 : 0 ≤ x8_1
       rotate_left
       ·rw [if_neg c38] at H; exact absurd H (by simp)
       rw [if_pos c38] at H; have c38b0 := eq_true c38; have c38b1 : decide (0 ≤ x8_1) = true := decide_eq_true c38; clear c38
       by_cases c39 : 0 ≤ (x1_1.length : Int)
       rotate_left
       ·rw [if_neg c39] at H; exact absurd H (by simp)
       rw [if_pos c39] at H; have c39b0 := eq_true c39; have c39b1 : decide (0 ≤ (x1_1.length : Int)) = true := decide_eq_true c39; have c39b1x := c39b1; (try simp only [hl0_1, hl1_1, hl7_1, hl0_2] at c39b1x); clear c39
       by_cases c40 : (x1_1.length : Int) < (wrap64 ((wrap64 (x8_1 + (x1_1.length : Int))) + 1)) - x8_1
       rotate_left
       ·rw [if_neg c40] at H; exact absurd H (by simp)
       rw [if_pos c40] at H; have c40b0 := eq_true c40; have c40b1 : decide ((x1_1.length : Int) < (wrap64 ((wrap64 (x8_1 + (x1_1.length : Int))) + 1)) - x8_1) = true := decide_eq_true c40; have c40b1x := c40b1; (try simp only [hl0_1, hl1_1, hl7_1, hl0_2] at c40b1x); obtain ⟨ji41, hji41⟩ : ∃ j_ : Int, ((x1_1.length : Int) + x8_1) = j_ := ⟨_, rfl⟩; (replace H : (if 0 ≤ (ji41) then (if (ji41) < (x0_2.length : Int) then (if (rd t713 (ji41)) = 0 then (quot_long.l1 k2 t713 x1_1 (IntKind.u64.wrap (t685)) x7_1 x8_1 (IntKind.u64.wrap (x10_2 - 1)) 0) else (quot_long.l1 k2 t713 x1_1 (IntKind.u64.wrap (t685)) x7_1 x8_1 (IntKind.u64.wrap (x10_2 - 1)) x11_2)) else (none)) else (none)) = some (r1, r2) := by first | (rw [hji41] at H; exact H) | (simp only [hji41] at H ⊢; exact H)); (try rw [hji41] at A37)
       by_cases c42 : 0 ≤ (ji41)
       rotate_left
       ·rw [if_neg c42] at H; exact absurd H (by simp)
       rw [if_pos c42] at H; have c42b0 : decide (0 ≤ (ji41)) = true := decide_eq_true c42; clear c42
       by_cases c43 : (ji41) < (x0_2.length : Int)
       rotate_left
       ·rw [if_neg c43] at H; exact absurd H (by simp)
       rw [if_pos c43] at H; have c43b0 : decide ((ji41) < (x0_2.length : Int)) = true := decide_eq_true c43; have c43b0x := c43b0; (try simp only [hl0_1, hl1_1, hl7_1, hl0_2] at c43b0x); clear c43
       by_cases c44 : (rd t713 (ji41)) = 0
       ·rw [if_pos c44] at H; have c44b0 : ((rd t713 (ji41)) == 0) = true := beq_iff_eq.mpr c44; have c44b1 : ((rd t713 (ji41)) != 0) = false := bne_eq_false_iff_eq.mpr c44; clear c44; have H' := m0 H; clear H
        go_wp2_with (first | ((with_reducible refine gate_callee (f := 67) rfl ?_); refine goesL_ (some 65) rfl rfl Try.func67 kr rfl #[xwin (.slice D1 x0_2.length K1) x8_1 (wrap64 ((wrap64 (x8_1 + (x1_1.length : Int))) + 1)), .slice D0 x1_1.length K0] rfl gm ?_; (with_reducible refine (quot_backW.calls k2 (fun k_ => some k_ = (.slice D1 x0_2.length K1 : Value).ownBlock) (.slice D1 x0_2.length K1) x0_2 x8_1 (wrap64 ((wrap64 (x8_1 + (x1_1.length : Int))) + 1)) _ _ x1_1 t713 w _ ?side1 ?side2 ?side3 ?side4 A37.1).mono ?_); (case side1 => repeat (first | (with_reducible first | exact HB.1 | apply below_alloc | apply pw_below_drewN | apply below_drew1) | exact HB.1)); (case side2 => exact Kd.R_tight rfl HO_0.out); (case side3 => exact Kd.C_kept_own (HO_1.out) (fun k_ hk_ hs_ => (hk_.1) hs_)); (case side4 => exact rl_ HO_1); rintro e w45 ⟨rfl, hy0, hb, hkp⟩; refine ⟨_, rfl, ?_⟩; replace HO_0 := m0 (Kd.R_reok rfl hy0 (fun k_ e_ => HO_0.out.1 k_ e_)); replace HO_1 := m0 (Kd.R_mono (ok' := fun k_ => some k_ ≠ (.slice D1 x0_2.length K1 : Value).ownBlock ∧ some k_ ≠ (.slice D2 x7_1.length K2 : Value).ownBlock) (Kd.R_keptB (HO_1.out) hkp (fun k_ hk_ hs_ => (hk_.1) hs_)) (fun k_ hk_ => ⟨hk_.1.1, hk_.1.2⟩)); replace HO_7 := m0 (Kd.R_mono (ok' := fun k_ => some k_ ≠ (.slice D1 x0_2.length K1 : Value).ownBlock ∧ some k_ ≠ (.slice D0 x1_1.length K0 : Value).ownBlock) (Kd.R_keptB (HO_7.out) hkp (fun k_ hk_ hs_ => (hk_.1) hs_)) (fun k_ hk_ => ⟨hk_.1.1, hk_.1.2⟩)); replace HB := m0 (hb); clear hb hkp hy0; have p714 : 0 ≤ ((ji41) : Int) := of_decide_eq_true (by first | (with_reducible assumption) | assumption); have q714 : (ji41) < (t713.length : Int) := (by have h_ : ((ji41) : Int) < ((x0_2.length : Int) : Int) := of_decide_eq_true (by first | (with_reducible assumption) | assumption); have e_ := (Kd.R_reads' HO_0.out).1; omega); have ql714 : (((ji41) : Int) < ((x0_2.length : Int) : Int)) = True := eq_true (of_decide_eq_true (by first | (with_reducible assumption) | assumption)); obtain ⟨ad714, e714, hx714_0⟩ := Kd.at_int (Kd.R_reads' HO_0.out).2.2 (ji41) p714 q714; cases e714; replace p714 := eq_true p714; replace q714 := eq_true q714; have hxw714 : xwin (.slice (some ad714) x0_2.length K1) x8_1 (wrap64 ((wrap64 (x8_1 + (x1_1.length : Int))) + 1)) = .slice (some (ad714.add (x8_1 : Int).toNat)) (((wrap64 ((wrap64 (x8_1 + (x1_1.length : Int))) + 1)) : Int).toNat - (x8_1 : Int).toNat) (K1 - (x8_1 : Int).toNat) := rfl; have hjw714 : ((x1_1.length : Int) < ((((wrap64 ((wrap64 (x8_1 + (x1_1.length : Int))) + 1)) : Int).toNat - (x8_1 : Int).toNat : Nat) : Int)) = True := eq_true (by have := (of_decide_eq_true (by first | (with_reducible assumption) | assumption) : (x1_1.length : Int) < (wrap64 ((wrap64 (x8_1 + (x1_1.length : Int))) + 1)) - x8_1); have := (of_decide_eq_true (by first | (with_reducible assumption) | assumption) : 0 ≤ x8_1); omega); have haw714 : (ad714.add (x8_1 : Int).toNat).add ((x1_1.length : Int) : Int).toNat = ad714.add ((ji41) : Int).toNat := (by rw [xw_add2]; congr 1; have := (of_decide_eq_true (by first | (with_reducible assumption) | assumption) : 0 ≤ x8_1); omega); have hcw714 := hx714_0; rw [← haw714] at hcw714; (try simp only [Go.IntWalk.toNatUp] at hcw714)))
        (try simp only [← hl0_2, ← hxw714])
        go_roundg k2
        case measure => have := HK1.out; have := HK2.out; omega
        case rel => exact ⟨(t713), (IntKind.u64.wrap (x10_2 - 1)), (0), (by first | rfl | (simp; done) | (simp [*]; done)), (by first | rfl | (simp; done) | (simp [*]; done)), H', ⟨by have := HK1.out; have := HK2.out; omega⟩, ⟨by (try simp only [hl0_1]); (try simp only [hl1_1]); (try simp only [hl7_1]); (try simp only [hl0_2]); (try simp only [hxw714]); (with_reducible repeat (first | apply Kd.R_alloc | apply Kd.R_drewN | apply Kd.R_drew)); exact HO_0.out⟩, ⟨by (try simp only [hl0_1]); (try simp only [hl1_1]); (try simp only [hl7_1]); (try simp only [hl0_2]); (try simp only [hxw714]); (with_reducible repeat (first | apply Kd.R_alloc | apply Kd.R_drewN | apply Kd.R_drew)); exact HO_1.out⟩, ⟨by (try simp only [hl0_1]); (try simp only [hl1_1]); (try simp only [hl7_1]); (try simp only [hl0_2]); (try simp only [hxw714]); (with_reducible repeat (first | apply Kd.R_alloc | apply Kd.R_drewN | apply Kd.R_drew)); exact HO_7.out⟩, ⟨by repeat (first | (with_reducible first | exact HB.1 | apply below_alloc | apply pw_below_drewN | apply below_drew1) | exact HB.1)⟩⟩
       ·rw [if_neg c44] at H; have c44b0 : ((rd t713 (ji41)) == 0) = false := beq_eq_false_iff_ne.mpr c44; have c44b1 : ((rd t713 (ji41)) != 0) = true := bne_iff_ne.mpr c44; have H' := m0 H; clear H
        go_wp2_with (first | ((with_reducible refine gate_callee (f := 67) rfl ?_); refine goesL_ (some 65) rfl rfl Try.func67 kr rfl #[xwin (.slice D1 x0_2.length K1) x8_1 (wrap64 ((wrap64 (x8_1 + (x1_1.length : Int))) + 1)), .slice D0 x1_1.length K0] rfl gm ?_; (with_reducible refine (quot_backW.calls k2 (fun k_ => some k_ = (.slice D1 x0_2.length K1 : Value).ownBlock) (.slice D1 x0_2.length K1) x0_2 x8_1 (wrap64 ((wrap64 (x8_1 + (x1_1.length : Int))) + 1)) _ _ x1_1 t713 w _ ?side1 ?side2 ?side3 ?side4 A37.1).mono ?_); (case side1 => repeat (first | (with_reducible first | exact HB.1 | apply below_alloc | apply pw_below_drewN | apply below_drew1) | exact HB.1)); (case side2 => exact Kd.R_tight rfl HO_0.out); (case side3 => exact Kd.C_kept_own (HO_1.out) (fun k_ hk_ hs_ => (hk_.1) hs_)); (case side4 => exact rl_ HO_1); rintro e w46 ⟨rfl, hy0, hb, hkp⟩; refine ⟨_, rfl, ?_⟩; replace HO_0 := m0 (Kd.R_reok rfl hy0 (fun k_ e_ => HO_0.out.1 k_ e_)); replace HO_1 := m0 (Kd.R_mono (ok' := fun k_ => some k_ ≠ (.slice D1 x0_2.length K1 : Value).ownBlock ∧ some k_ ≠ (.slice D2 x7_1.length K2 : Value).ownBlock) (Kd.R_keptB (HO_1.out) hkp (fun k_ hk_ hs_ => (hk_.1) hs_)) (fun k_ hk_ => ⟨hk_.1.1, hk_.1.2⟩)); replace HO_7 := m0 (Kd.R_mono (ok' := fun k_ => some k_ ≠ (.slice D1 x0_2.length K1 : Value).ownBlock ∧ some k_ ≠ (.slice D0 x1_1.length K0 : Value).ownBlock) (Kd.R_keptB (HO_7.out) hkp (fun k_ hk_ hs_ => (hk_.1) hs_)) (fun k_ hk_ => ⟨hk_.1.1, hk_.1.2⟩)); replace HB := m0 (hb); clear hb hkp hy0; have p714 : 0 ≤ ((ji41) : Int) := of_decide_eq_true (by first | (with_reducible assumption) | assumption); have q714 : (ji41) < (t713.length : Int) := (by have h_ : ((ji41) : Int) < ((x0_2.length : Int) : Int) := of_decide_eq_true (by first | (with_reducible assumption) | assumption); have e_ := (Kd.R_reads' HO_0.out).1; omega); have ql714 : (((ji41) : Int) < ((x0_2.length : Int) : Int)) = True := eq_true (of_decide_eq_true (by first | (with_reducible assumption) | assumption)); obtain ⟨ad714, e714, hx714_0⟩ := Kd.at_int (Kd.R_reads' HO_0.out).2.2 (ji41) p714 q714; cases e714; replace p714 := eq_true p714; replace q714 := eq_true q714; have hxw714 : xwin (.slice (some ad714) x0_2.length K1) x8_1 (wrap64 ((wrap64 (x8_1 + (x1_1.length : Int))) + 1)) = .slice (some (ad714.add (x8_1 : Int).toNat)) (((wrap64 ((wrap64 (x8_1 + (x1_1.length : Int))) + 1)) : Int).toNat - (x8_1 : Int).toNat) (K1 - (x8_1 : Int).toNat) := rfl; have hjw714 : ((x1_1.length : Int) < ((((wrap64 ((wrap64 (x8_1 + (x1_1.length : Int))) + 1)) : Int).toNat - (x8_1 : Int).toNat : Nat) : Int)) = True := eq_true (by have := (of_decide_eq_true (by first | (with_reducible assumption) | assumption) : (x1_1.length : Int) < (wrap64 ((wrap64 (x8_1 + (x1_1.length : Int))) + 1)) - x8_1); have := (of_decide_eq_true (by first | (with_reducible assumption) | assumption) : 0 ≤ x8_1); omega); have haw714 : (ad714.add (x8_1 : Int).toNat).add ((x1_1.length : Int) : Int).toNat = ad714.add ((ji41) : Int).toNat := (by rw [xw_add2]; congr 1; have := (of_decide_eq_true (by first | (with_reducible assumption) | assumption) : 0 ≤ x8_1); omega); have hcw714 := hx714_0; rw [← haw714] at hcw714; (try simp only [Go.IntWalk.toNatUp] at hcw714)))
        (try simp only [← hl0_2, ← hxw714, ← hxw714])
        go_roundg k2
        case measure => have := HK1.out; have := HK2.out; omega
        case rel => exact ⟨(t713), (IntKind.u64.wrap (x10_2 - 1)), (x11_2), (by first | rfl | (simp; done) | (simp [*]; done)), (by first | rfl | (simp; done) | (simp [*]; done)), H', ⟨by have := HK1.out; have := HK2.out; omega⟩, ⟨by (try simp only [hl0_1]); (try simp only [hl1_1]); (try simp only [hl7_1]); (try simp only [hl0_2]); (try simp only [hxw714]); (try simp only [hxw714]); (with_reducible repeat (first | apply Kd.R_alloc | apply Kd.R_drewN | apply Kd.R_drew)); exact HO_0.out⟩, ⟨by (try simp only [hl0_1]); (try simp only [hl1_1]); (try simp only [hl7_1]); (try simp only [hl0_2]); (try simp only [hxw714]); (try simp only [hxw714]); (with_reducible repeat (first | apply Kd.R_alloc | apply Kd.R_drewN | apply Kd.R_drew)); exact HO_1.out⟩, ⟨by (try simp only [hl0_1]); (try simp only [hl1_1]); (try simp only [hl7_1]); (try simp only [hl0_2]); (try simp only [hxw714]); (try simp only [hxw714]); (with_reducible repeat (first | apply Kd.R_alloc | apply Kd.R_drewN | apply Kd.R_drew)); exact HO_7.out⟩, ⟨by repeat (first | (with_reducible first | exact HB.1 | apply below_alloc | apply pw_below_drewN | apply below_drew1) | exact HB.1)⟩⟩
   ·rw [if_neg c23] at H; have c23b0 : decide (0 ≤ x8_1) = false := decide_eq_false c23; clear c23; replace H := Option.bind_eq_some_iff.mp H; obtain ⟨t698, A470, H⟩ := H; (try dsimp only at H); have A47 := m0 A470; clear A470; replace H := Option.bind_eq_some_iff.mp H; obtain ⟨⟨t701, t704⟩, A480, H⟩ := H; (try dsimp only at H); have A48 := m0 A480; clear A480; replace H := Option.bind_eq_some_iff.mp H; obtain ⟨t706, A490, H⟩ := H; (try dsimp only at H); have A49 := m0 A490; clear A490; simp only [Option.some.injEq, Prod.mk.injEq] at H; obtain ⟨rfl, rfl⟩ := H
    go_wp2_with (first | ((with_reducible refine gate_callee (f := 14) rfl ?_); refine goesL_ (some 78) rfl rfl Try.func14 kr rfl #[.slice D1 x0_1.length K1] rfl gm ?_; (with_reducible refine (nat_Of.calls k1 _ _ x0_1 t698 _ ?side1 ?side2 A47.1).mono ?_); (case side1 => exact cr HO_0.out); (case side2 => exact rl_ HO_0); rintro e w50 ⟨v699, rfl, ho0, hb⟩; refine ⟨_, rfl, ?_⟩; have a6 := m0 (Kd.V_lower (Kd.V_mono (ok' := fun k_ => some k_ ≠ (.slice D1 x0_1.length K1 : Value).ownBlock ∧ some k_ ≠ (.slice D0 x1_1.length K0 : Value).ownBlock ∧ some k_ ≠ (.slice D2 x7_1.length K2 : Value).ownBlock) ho0 (fun k_ hk_ => ⟨(Kd.fresh' (Kd.R_lt HO_0.out) k_ hk_), (Kd.fresh' (Kd.R_lt HO_1.out) k_ hk_), (Kd.fresh' (Kd.R_lt HO_7.out) k_ hk_)⟩)) (bz HB.1)); replace HO_0 := ra HO_0 hb; replace HO_1 := ra HO_1 hb; replace HO_7 := ra HO_7 hb; replace HB := sa HB hb; clear hb ho0; obtain ⟨D3, K4, j4⟩ := Kd.V_slice a6.1; subst j4) | ((with_reducible refine gate_callee (f := 38) rfl ?_); refine goesL_ (some 81) rfl rfl Try.func38 kr rfl #[.agg #[.slice D3 t698.length K4], .int .i64 (wrap64 ((IntKind.u64.wrap (t685))))] rfl gm ?_; (with_reducible refine (quot_Shr.calls k1 _ _ t698 (wrap64 ((IntKind.u64.wrap (t685)))) t701 t704 _ ?side1 ?side2 A48.1).mono ?_); (case side1 => exact cv a6.1); (case side2 => exact vl_ a6); rintro e w52 ⟨v702, rfl, ho0, hb⟩; refine ⟨_, rfl, ?_⟩; replace a6 := va a6 hb; have a7 := m0 (Kd.V_lower (Kd.V_mono (ok' := fun k_ => some k_ ≠ (.slice D1 x0_1.length K1 : Value).ownBlock ∧ some k_ ≠ (.slice D0 x1_1.length K0 : Value).ownBlock ∧ some k_ ≠ (.slice D2 x7_1.length K2 : Value).ownBlock) ho0 (fun k_ hk_ => ⟨(Kd.fresh' (Kd.R_lt HO_0.out) k_ hk_), (Kd.fresh' (Kd.R_lt HO_1.out) k_ hk_), (Kd.fresh' (Kd.R_lt HO_7.out) k_ hk_)⟩)) (bz HB.1)); replace HO_0 := ra HO_0 hb; replace HO_1 := ra HO_1 hb; replace HO_7 := ra HO_7 hb; replace HB := sa HB hb; clear hb ho0) | ((with_reducible refine gate_dst (N := 12) rfl ?_); refine box_event rz (N := 12) rz (cs := #[.slice none 0 0]) (t := 25) gs_ ?_; intro g1 hg w53 hbox hb; replace HO_0 := ra HO_0 hb; replace HO_1 := ra HO_1 hb; replace HO_7 := ra HO_7 hb; replace a6 := ve a6 hg hb; replace a7 := ve a7 hg hb; have b0 := m0 hbox; have G0 := gz_ HB hg; have e0 := gz_ HB hg; replace HB := sa HB hb; clear hb hbox hg; obtain ⟨D4, K5, j5⟩ := Kd.V_slice a7.1; subst j5; have hcz55_0 : w53.cell? ⟨g1, 0, none⟩ = some (.slice none 0 0) := bc b0; have hfz55_0 := blk_frozen b0.1 0) | ((with_reducible refine gate_callee (f := 16) rfl ?_); refine goesL_ (some 86) rfl rfl Try.func16 kr rfl #[.agg #[.slice D4 t701.length K5]] rfl gm ?_; (with_reducible refine (nat_Nat_Limbs.calls _ _ t701 t706 _ ?side1 ?side2 A49.1).mono ?_); (case side1 => refine (Kd.V_reads' (e := 27) (base := w.heap.size) (ok := fun k_ => ((some k_ ≠ (.slice D1 x0_1.length K1 : Value).ownBlock ∧ (some k_ ≠ (.slice D0 x1_1.length K0 : Value).ownBlock ∧ some k_ ≠ (.slice D2 x7_1.length K2 : Value).ownBlock)) ∧ k_ ≠ g1)) (n := t701.length) (c := K5) ?_).2.2; exact (by (with_reducible repeat (first | apply Kd.V_alloc | apply Kd.V_drewN | apply Kd.V_drew)); exact (Kd.V_mono (Kd.V_far (p := ⟨g1, 0, none⟩) (Kd.V_mono a7.1 (fun _ hk => And.intro hk hk.2)) (fun _ hk => hk.2) (.slice D4 t701.length K5)) (fun _ h_ => h_.1)))); (case side2 => exact vl_ a7); rintro e w56 ⟨v707, rfl, ho0, hb⟩; refine ⟨_, rfl, ?_⟩; replace a6 := m0 (Kd.V_elder' (by (with_reducible repeat (first | apply Kd.V_alloc | apply Kd.V_drewN | apply Kd.V_drew)); exact (Kd.V_mono (Kd.V_far (p := ⟨g1, 0, none⟩) (Kd.V_mono a6.1 (fun _ hk => And.intro hk hk.2)) (fun _ hk => hk.2) (.slice D4 t701.length K5)) (fun _ h_ => h_.1))) (Kd.R_base ho0) hb); replace a7 := m0 (Kd.V_elder' (by (with_reducible repeat (first | apply Kd.V_alloc | apply Kd.V_drewN | apply Kd.V_drew)); exact (Kd.V_mono (Kd.V_far (p := ⟨g1, 0, none⟩) (Kd.V_mono a7.1 (fun _ hk => And.intro hk hk.2)) (fun _ hk => hk.2) (.slice D4 t701.length K5)) (fun _ h_ => h_.1))) (Kd.R_base ho0) hb); have a8 := m0 (Kd.R_lower (Kd.R_new' (Kd.R_new' (Kd.R_new' ho0 (Kd.R_lt (by (with_reducible repeat (first | apply Kd.R_alloc | apply Kd.R_drewN | apply Kd.R_drew)); exact (Kd.R_mono (Kd.R_far (p := ⟨g1, 0, none⟩) (Kd.R_types HO_0.out b0.1 (by decide)) (fun _ hk => hk.2) (.slice D4 t701.length K5)) (fun _ h_ => h_.1))))) (Kd.R_lt (by (with_reducible repeat (first | apply Kd.R_alloc | apply Kd.R_drewN | apply Kd.R_drew)); exact (Kd.R_mono (Kd.R_far (p := ⟨g1, 0, none⟩) (Kd.R_types HO_1.out b0.1 (by decide)) (fun _ hk => hk.2) (.slice D4 t701.length K5)) (fun _ h_ => h_.1))))) (Kd.R_lt (by (with_reducible repeat (first | apply Kd.R_alloc | apply Kd.R_drewN | apply Kd.R_drew)); exact (Kd.R_mono (Kd.R_far (p := ⟨g1, 0, none⟩) (Kd.R_types HO_7.out b0.1 (by decide)) (fun _ hk => hk.2) (.slice D4 t701.length K5)) (fun _ h_ => h_.1))))) (below_size bq)); replace HO_0 := m0 (Kd.R_elder' (by (with_reducible repeat (first | apply Kd.R_alloc | apply Kd.R_drewN | apply Kd.R_drew)); exact (Kd.R_mono (Kd.R_far (p := ⟨g1, 0, none⟩) (Kd.R_types HO_0.out b0.1 (by decide)) (fun _ hk => hk.2) (.slice D4 t701.length K5)) (fun _ h_ => h_.1))) (Kd.R_base ho0) hb); replace HO_1 := m0 (Kd.R_elder' (by (with_reducible repeat (first | apply Kd.R_alloc | apply Kd.R_drewN | apply Kd.R_drew)); exact (Kd.R_mono (Kd.R_far (p := ⟨g1, 0, none⟩) (Kd.R_types HO_1.out b0.1 (by decide)) (fun _ hk => hk.2) (.slice D4 t701.length K5)) (fun _ h_ => h_.1))) (Kd.R_base ho0) hb); replace HO_7 := m0 (Kd.R_elder' (by (with_reducible repeat (first | apply Kd.R_alloc | apply Kd.R_drewN | apply Kd.R_drew)); exact (Kd.R_mono (Kd.R_far (p := ⟨g1, 0, none⟩) (Kd.R_types HO_7.out b0.1 (by decide)) (fun _ hk => hk.2) (.slice D4 t701.length K5)) (fun _ h_ => h_.1))) (Kd.R_base ho0) hb); replace b0 := m0 (blk_below (g := g1) (o := .cells #[.slice D4 t701.length K5] 25 (0, 0)) (by (with_reducible repeat (first | refine blk_drewN ?_ _ | refine blk_drew ?_ | refine blk_alloc ?_ _)); refine blk_put (cs := #[.slice none 0 0]) ?_ 0 _ rfl; (with_reducible repeat (first | refine blk_drewN ?_ _ | refine blk_drew ?_ | refine blk_alloc ?_ _)); exact b0.1) hb); replace HB := m0 (below_step bq hb); clear hb ho0))
    go_ret2
    exact ⟨_, _, by first | rfl | (simp [errW_none, errW_some] <;> rfl) | (simp only [← hji3, ← hji11]; first | rfl | (simp [errW_none, errW_some] <;> rfl)) | (simp [*, errW_none, errW_some] <;> rfl), by (with_reducible repeat (first | apply Kd.R_alloc | apply Kd.R_drewN | apply Kd.R_drew)); exact Kd.R_mono HO_7.out (fun _ hk => hk.2), by (with_reducible repeat (first | apply Kd.R_alloc | apply Kd.R_drewN | apply Kd.R_drew)); exact Kd.R_mono a8.1 (fun _ hk => hk.2), by repeat (first | (with_reducible first | exact HB.1 | apply below_alloc | apply pw_below_drewN | apply below_drew1 | refine below_set ?_ e0.1) | exact HB.1)⟩
end Go.Proofs.Ytebjbmgfbejapaa.F
end
