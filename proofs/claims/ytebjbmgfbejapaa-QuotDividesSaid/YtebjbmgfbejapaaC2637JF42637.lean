-- Joined of: F31 F55 F32 F56 F57
import Derived.Test.YtebjbmgfbejapaaC2637JF02637
import Derived.Test.YtebjbmgfbejapaaC2637JF32637
import Derived.Test.YtebjbmgfbejapaaC2637JF22637
section
namespace Go.Proofs.Ytebjbmgfbejapaa.F
open Go.RowKit Go.Proofs.YtebjbmgfbejapaaW.PrintWords Go.Proofs.YtebjbmgfbejapaaW.PrintLast Go.Proofs.YtebjbmgfbejapaaW.PrintMore Go.Proofs.YtebjbmgfbejapaaX
attribute [local go_sem] max2_int cell_some xrun_add64 xrun_sub64
attribute [local go_sem] max2_int min2_int max_two min_two max_three min_three max_four min_four
set_option linter.unusedVariables false
set_option linter.unusedSimpArgs false
def chattelref01_Sub.l0 : Nat → List Int → List Int → List Int → Int → Int → Option (List Int)
 | 0, _, _, _, _, _ => none
 | k + 1, x0, x1, x5, x6, x7 => if x7 < (x0.length : Int) then ((chattelref01_at.f x1 x7).bind fun t388 => (if 0 ≤ x7 then (if (wrap64 ((wrap64 ((rd x0 x7) - t388)) - x6)) < 0 then (if x5.length < 17592186044416 then (chattelref01_Sub.l0 k x0 x1 (x5 ++ [wrap64 ((wrap64 ((wrap64 ((rd x0 x7) - t388)) - x6)) + 10000)]) 1 (wrap64 (x7 + 1))) else (none)) else (if x5.length < 17592186044416 then (chattelref01_Sub.l0 k x0 x1 (x5 ++ [wrap64 ((wrap64 ((rd x0 x7) - t388)) - x6)]) 0 (wrap64 (x7 + 1))) else (none))) else (none))) else ((chattelref01_Trim.f k x5).bind fun t396 => (some t396))
def chattelref01_Sub.f (k : Nat) (l0 : List Int) (l1 : List Int) : Option (List Int) := chattelref01_Sub.l0 k l0 l1 ([] : List Int) 0 0
set_option maxHeartbeats 8000000 in
set_option maxRecDepth 100000 in
theorem chattelref01_Sub.calls (k : Nat) (A0 : Option Addr) (c0 : Nat) (l0 : List Int) (A1 : Option Addr) (c1 : Nat) (l1 : List Int) (r : List Int) (w : World) (hr0 : Kd.C (Kd.int .i64) w A0 l0.length l0) (hc0 : l0.length ≤ c0) (hr1 : Kd.C (Kd.int .i64) w A1 l1.length l1) (hc1 : l1.length ≤ c1) (h : chattelref01_Sub.f k l0 l1 = some r) :
  Calls Try.prog 27 #[.slice A0 l0.length c0, .slice A1 l1.length c1] w fun e w' => ∃ v0_ : Value, e = .returned (v0_) ∧ Kd.V (Kd.int .i64) 3 w' w.heap.size (fun k_ => (w.heap.size ≤ k_)) v0_ r ∧ Below w.heap.size w w' := by
 have HR0 := Aside0.mk hr0
 have HC0 := Aside0.mk hc0
 clear hr0 hc0
 have HR1 := Aside0.mk hr1
 have HC1 := Aside0.mk hc1
 clear hr1 hc1
 have HB := Aside0.mk (Below.refl w.heap.size w)
 have H : (chattelref01_Sub.l0 k l0 l1 ([] : List Int) 0 0) = some r := h
 clear h
 have H' := Aside0.mk H
 clear H
 go_enter Try.func27, Try.ntmps27
 go_wp2
 go_loopg [5, 6, 7] k (fun kq v5 v6 v7 w' => ∃ (x5_1 : List Int) (x6_1 : Int) (x7_1 : Int), v6 = .int .i64 x6_1 ∧ v7 = .int .i64 x7_1 ∧ Aside0 (chattelref01_Sub.l0 kq l0 l1 x5_1 x6_1 x7_1 = some r) ∧ Aside0 (kq ≤ k) ∧ Aside0 (Kd.R (Kd.int .i64) 3 w' w.heap.size (fun k_ => (w.heap.size ≤ k_)) v5 x5_1) ∧ Aside0 (Below w.heap.size w w'))
 case atStart => exact ⟨(([] : List Int)), (0), (0), (by first | rfl | (simp; done) | (simp [*]; done)), (by first | rfl | (simp; done) | (simp [*]; done)), H', ⟨Nat.le_refl _⟩, ⟨by first | exact Kd.R_nil _ _ _ _ _ | exact Kd.N_nil _ _ _ _ _ | exact Kd.V_nil _ _ _ _ _ | exact Kd.Q_nil _ _ _ _ _ | exact Kd.S_nil _ _ _ _ _⟩, ⟨by repeat (first | (with_reducible first | exact HB.out | apply below_alloc | apply pw_below_drewN | apply below_drew1) | exact HB.out)⟩⟩
 case round =>
  clear H'
  try clear c1
  try clear c2
  try clear p2
  obtain ⟨x5_1, x6_1, x7_1, rfl, rfl, HA, HK1, HO_5, HB⟩ := hrel
  cases gk with
  | zero => exact absurd HA.out (by simp [chattelref01_Sub.l0])
  | succ k1 =>
   have H := HA.out
   clear HA
   simp only [chattelref01_Sub.l0] at H
   by_cases c3 : x7_1 < (l0.length : Int)
   ·rw [if_pos c3] at H
    have c3b0 : decide (x7_1 < (l0.length : Int)) = true := decide_eq_true c3
    clear c3
    replace H := Option.bind_eq_some_iff.mp H
    obtain ⟨t388, A40, H⟩ := H
    (try dsimp only at H)
    have A4 := Aside0.mk A40
    clear A40
    by_cases c5 : 0 ≤ x7_1
    rotate_left
    ·rw [if_neg c5] at H
     exact absurd H (by simp)
    rw [if_pos c5] at H
    have c5b0 : decide (0 ≤ x7_1) = true := decide_eq_true c5
    clear c5
    by_cases c6 : (wrap64 ((wrap64 ((rd l0 x7_1) - t388)) - x6_1)) < 0
    ·rw [if_pos c6] at H
     have c6b0 : decide ((wrap64 ((wrap64 ((rd l0 x7_1) - t388)) - x6_1)) < 0) = true := decide_eq_true c6
     clear c6
     by_cases c7 : x5_1.length < 17592186044416
     rotate_left
     ·rw [if_neg c7] at H
      exact absurd H (by simp)
     rw [if_pos c7] at H
     have LMc7 := Aside0.mk c7
     clear c7
     obtain ⟨y390, hy390⟩ : ∃ y_ : List Int, y_ = (x5_1 ++ [wrap64 ((wrap64 ((wrap64 ((rd l0 x7_1) - t388)) - x6_1)) + 10000)]) := ⟨_, rfl⟩
     replace H : (chattelref01_Sub.l0 k1 l0 l1 y390 1 (wrap64 (x7_1 + 1))) = some r := by first | (rw [hy390]; with_reducible exact H) | (have H2_ := (Option.bind_some _ _).symm.trans H; rw [hy390]; with_reducible exact H2_) | (have H2_ := (Option.bind_some _ _).symm.trans H; with_reducible exact H2_) | with_reducible exact H | (rw [hy390]; exact H) | exact H
     have Ny390 := Aside0.mk hy390
     clear hy390
     have H' := Aside0.mk H
     clear H
     go_wp2_with (first | ((with_reducible refine gate_callee (f := 51) rfl ?_); refine goesL_ (some 18) rfl rfl Try.func51 (by kernel_rfl) rfl #[.slice A1 l1.length c1, .int .i64 x7_1] rfl (by (try simp only [List.map_toArray, List.map_cons, List.map_nil]); first | done | rfl | (simp only [List.length_drop, List.length_take]; rfl)) ?_; (with_reducible refine (chattelref01_at.calls _ _ l1 x7_1 t388 _ ?side1 ?side2 A4.out).mono ?_); (case side1 => repeat (first | exact (Kd.C_below HR1.out HB.out) | (with_reducible refine Kd.C_alloc ?_ _) | (with_reducible refine Kd.C_drewN ?_ _) | (with_reducible refine Kd.C_drew ?_))); (case side2 => exact HC1.out); rintro e w' ⟨rfl, ⟨nd, rfl⟩⟩; refine ⟨_, rfl, ?_⟩; have p389 : 0 ≤ (x7_1 : Int) := of_decide_eq_true (by first | (with_reducible assumption) | assumption); have q389 : x7_1 < (l0.length : Int) := of_decide_eq_true (by first | (with_reducible assumption) | assumption); obtain ⟨ad389, e389, hx389_0⟩ := Kd.at_int HR0.out x7_1 p389 q389; cases e389; replace hx389_0 := (HB.out.cell (World.block_lt_of_cell? w _ hx389_0)).trans hx389_0; replace p389 := eq_true p389; replace q389 := eq_true q389) | ((with_reducible refine gate_builtin (b := .append) (xs := #[.tmp 31, .tmp 33]) rfl ?_); at_builtin; refine Kd.R_append (Kd.int .i64) (w0 := w) w.heap.size rfl (.tmp 31) (.tmp 33) 35 3 (.int .i64 0) 8 rfl Try.underlying35 info3 rfl (by decide) (by omega) u5 x5_1 (wrap64 ((wrap64 ((wrap64 ((rd l0 x7_1) - t388)) - x6_1)) + 10000)) [.int .i64 (wrap64 ((wrap64 ((wrap64 ((rd l0 x7_1) - t388)) - x6_1)) + 10000))] (fun k_ => (w.heap.size ≤ k_)) (fun _ => False) rfl rfl ?aP (fun _ hk => hk.elim) ?aF ?aO ?aB ?aS ?aL ?_; (case aP => exact rfl); (case aB => exact (by repeat (first | (with_reducible first | exact HB.out | apply below_alloc | apply pw_below_drewN | apply below_drew1) | exact HB.out))); (case aF => exact (fun k_ hk => (Nat.le_trans (below_size (by repeat (first | (with_reducible first | exact HB.out | apply below_alloc | apply pw_below_drewN | apply below_drew1) | exact HB.out))) hk))); (case aO => exact HO_5.out); (case aS => exact (below_size (by repeat (first | (with_reducible first | exact HB.out | apply below_alloc | apply pw_below_drewN | apply below_drew1) | exact HB.out)))); (case aL => have := LMc7.out; omega); intro v391 w8 ho hb hg hat; rw [← Ny390.out] at ho; have n0_ := Aside0.mk (hb); have n1_ := Aside0.mk (ho); clear HB; clear HO_5; have HB := n0_; have HO392 := n1_; clear n0_ n1_; clear ho hb hg hat))
     go_roundg k1
     case measure => have := HK1.out; omega
     case rel => exact ⟨(y390), (1), (wrap64 (x7_1 + 1)), (by first | rfl | (simp; done) | (simp [*]; done)), (by first | rfl | (simp; done) | (simp [*]; done)), H', ⟨by have := HK1.out; omega⟩, ⟨by (with_reducible repeat (first | apply Kd.R_alloc | apply Kd.R_drewN | apply Kd.R_drew)); exact HO392.out⟩, ⟨by repeat (first | (with_reducible first | exact HB.out | apply below_alloc | apply pw_below_drewN | apply below_drew1) | exact HB.out)⟩⟩
    ·rw [if_neg c6] at H
     have c6b0 : decide ((wrap64 ((wrap64 ((rd l0 x7_1) - t388)) - x6_1)) < 0) = false := decide_eq_false c6
     clear c6
     by_cases c9 : x5_1.length < 17592186044416
     rotate_left
     ·rw [if_neg c9] at H
      exact absurd H (by simp)
     rw [if_pos c9] at H
     have LMc9 := Aside0.mk c9
     clear c9
     obtain ⟨y393, hy393⟩ : ∃ y_ : List Int, y_ = (x5_1 ++ [wrap64 ((wrap64 ((rd l0 x7_1) - t388)) - x6_1)]) := ⟨_, rfl⟩
     replace H : (chattelref01_Sub.l0 k1 l0 l1 y393 0 (wrap64 (x7_1 + 1))) = some r := by first | (rw [hy393]; with_reducible exact H) | (have H2_ := (Option.bind_some _ _).symm.trans H; rw [hy393]; with_reducible exact H2_) | (have H2_ := (Option.bind_some _ _).symm.trans H; with_reducible exact H2_) | with_reducible exact H | (rw [hy393]; exact H) | exact H
     have Ny393 := Aside0.mk hy393
     clear hy393
     have H' := Aside0.mk H
     clear H
     go_wp2_with (first | ((with_reducible refine gate_callee (f := 51) rfl ?_); refine goesL_ (some 18) rfl rfl Try.func51 (by kernel_rfl) rfl #[.slice A1 l1.length c1, .int .i64 x7_1] rfl (by (try simp only [List.map_toArray, List.map_cons, List.map_nil]); first | done | rfl | (simp only [List.length_drop, List.length_take]; rfl)) ?_; (with_reducible refine (chattelref01_at.calls _ _ l1 x7_1 t388 _ ?side1 ?side2 A4.out).mono ?_); (case side1 => repeat (first | exact (Kd.C_below HR1.out HB.out) | (with_reducible refine Kd.C_alloc ?_ _) | (with_reducible refine Kd.C_drewN ?_ _) | (with_reducible refine Kd.C_drew ?_))); (case side2 => exact HC1.out); rintro e w' ⟨rfl, ⟨nd, rfl⟩⟩; refine ⟨_, rfl, ?_⟩; have p389 : 0 ≤ (x7_1 : Int) := of_decide_eq_true (by first | (with_reducible assumption) | assumption); have q389 : x7_1 < (l0.length : Int) := of_decide_eq_true (by first | (with_reducible assumption) | assumption); obtain ⟨ad389, e389, hx389_0⟩ := Kd.at_int HR0.out x7_1 p389 q389; cases e389; replace hx389_0 := (HB.out.cell (World.block_lt_of_cell? w _ hx389_0)).trans hx389_0; replace p389 := eq_true p389; replace q389 := eq_true q389) | ((with_reducible refine gate_builtin (b := .append) (xs := #[.tmp 31, .tmp 33]) rfl ?_); at_builtin; refine Kd.R_append (Kd.int .i64) (w0 := w) w.heap.size rfl (.tmp 31) (.tmp 33) 35 3 (.int .i64 0) 8 rfl Try.underlying35 info3 rfl (by decide) (by omega) u5 x5_1 (wrap64 ((wrap64 ((rd l0 x7_1) - t388)) - x6_1)) [.int .i64 (wrap64 ((wrap64 ((rd l0 x7_1) - t388)) - x6_1))] (fun k_ => (w.heap.size ≤ k_)) (fun _ => False) rfl rfl ?aP (fun _ hk => hk.elim) ?aF ?aO ?aB ?aS ?aL ?_; (case aP => exact rfl); (case aB => exact (by repeat (first | (with_reducible first | exact HB.out | apply below_alloc | apply pw_below_drewN | apply below_drew1) | exact HB.out))); (case aF => exact (fun k_ hk => (Nat.le_trans (below_size (by repeat (first | (with_reducible first | exact HB.out | apply below_alloc | apply pw_below_drewN | apply below_drew1) | exact HB.out))) hk))); (case aO => exact HO_5.out); (case aS => exact (below_size (by repeat (first | (with_reducible first | exact HB.out | apply below_alloc | apply pw_below_drewN | apply below_drew1) | exact HB.out)))); (case aL => have := LMc9.out; omega); intro v394 w10 ho hb hg hat; rw [← Ny393.out] at ho; have n0_ := Aside0.mk (hb); have n1_ := Aside0.mk (ho); clear HB; clear HO_5; have HB := n0_; have HO395 := n1_; clear n0_ n1_; clear ho hb hg hat))
     go_roundg k1
     case measure => have := HK1.out; omega
     case rel => exact ⟨(y393), (0), (wrap64 (x7_1 + 1)), (by first | rfl | (simp; done) | (simp [*]; done)), (by first | rfl | (simp; done) | (simp [*]; done)), H', ⟨by have := HK1.out; omega⟩, ⟨by (with_reducible repeat (first | apply Kd.R_alloc | apply Kd.R_drewN | apply Kd.R_drew)); exact HO395.out⟩, ⟨by repeat (first | (with_reducible first | exact HB.out | apply below_alloc | apply pw_below_drewN | apply below_drew1) | exact HB.out)⟩⟩
   ·rw [if_neg c3] at H
    have c3b0 : decide (x7_1 < (l0.length : Int)) = false := decide_eq_false c3
    clear c3
    replace H := Option.bind_eq_some_iff.mp H
    obtain ⟨t396, A110, H⟩ := H
    (try dsimp only at H)
    have A11 := Aside0.mk A110
    clear A110
    obtain rfl := Option.some.inj H
    obtain ⟨Ao12, co12, eo12⟩ := Kd.R_slice HO_5.out
    subst eo12
    go_wp2_with (first | ((with_reducible refine gate_callee (f := 52) rfl ?_); refine goesL_ (some 36) rfl rfl Try.func52 (by kernel_rfl) rfl #[.slice Ao12 x5_1.length co12] rfl (by (try simp only [List.map_toArray, List.map_cons, List.map_nil]); first | done | rfl | (simp only [List.length_drop, List.length_take]; rfl)) ?_; (with_reducible refine (chattelref01_Trim.calls k1 (fun k_ => some k_ = (.slice Ao12 x5_1.length co12 : Value).ownBlock) _ _ x5_1 t396 _ ?side1 A11.out).mono ?_); (case side1 => exact Kd.R_V (Kd.R_tight rfl (HO_5.out))); rintro e w13 ⟨v397, rfl, ho0, hb⟩; refine ⟨_, rfl, ?_⟩; have n0_ := Aside0.mk (rb HO_5.out hb); have n1_ := Aside0.mk (Kd.V_lower (Kd.V_mono (ok' := fun k_ => (w.heap.size ≤ k_)) ho0 (fun k_ hk_ => Or.elim hk_ (fun hs_ => ((HO_5.out).1 k_ hs_.symm)) (fun hn_ => (Nat.le_trans (bz HB.out) hn_)))) (bz HB.out)); have n2_ := Aside0.mk (bs HB.out hb); clear HO_5; clear HB; have HO_5 := n0_; have HO398 := n1_; have HB := n2_; clear n0_ n1_ n2_; (try clear hb); (try clear hb2); (try clear hk); (try clear hi); (try clear ho0)))
    go_ret
    exact ⟨_, by first | rfl | (simp [errW_none, errW_some] <;> rfl) | (simp [*, errW_none, errW_some] <;> rfl), by (with_reducible repeat (first | apply Kd.V_alloc | apply Kd.V_drewN | apply Kd.V_drew)); exact HO398.out, by repeat (first | (with_reducible first | exact HB.out | apply below_alloc | apply pw_below_drewN | apply below_drew1) | exact HB.out)⟩
end Go.Proofs.Ytebjbmgfbejapaa.F
end

section
namespace Go.Proofs.Ytebjbmgfbejapaa.F
open Go.RowKit Go.Proofs.YtebjbmgfbejapaaW.PrintWords Go.Proofs.YtebjbmgfbejapaaW.PrintLast Go.Proofs.YtebjbmgfbejapaaW.PrintMore Go.Proofs.YtebjbmgfbejapaaX
attribute [local go_sem] max2_int cell_some xrun_add64 xrun_sub64
attribute [local go_sem] max2_int min2_int max_two min_two max_three min_three max_four min_four
set_option linter.unusedVariables false
set_option linter.unusedSimpArgs false
mutual
def chattelref01_DivMod.l0 : Nat → List Int → List Int → List Int → List Int → Int → Option (List Int × List Int)
 | 0, _, _, _, _, _ => none
 | k + 1, x0, x1, x6, x7, x8 => if x8 ≥ 0 then (if 0 ≤ x8 then (if x8 < (x0.length : Int) then ((some (([rd x0 x8] : List Int) : List Int)).bind fun y880 => (if y880.length + x7.length < 17592186044416 then ((chattelref01_Trim.f k (y880 ++ x7)).bind fun t886 => (chattelref01_DivMod.l1 k x0 x1 x6 t886 x8 0 9999)) else (none))) else (none)) else (none)) else ((chattelref01_Trim.f k x6).bind fun t876 => (some (t876, x7)))
def chattelref01_DivMod.l1 : Nat → List Int → List Int → List Int → List Int → Int → Int → Int → Option (List Int × List Int)
 | 0, _, _, _, _, _, _, _ => none
 | k + 1, x0, x1, x6, x7, x8, x10, x11 => if x10 < x11 then ((chattelref01_Small.f k (wrap64 (Int.tdiv (wrap64 ((wrap64 (x10 + x11)) + 1)) 2))).bind fun t899 => ((chattelref01_Mul.f k x1 t899).bind fun t902 => ((chattelref01_Cmp.f k t902 x7).bind fun t905 => (if t905 ≤ 0 then (chattelref01_DivMod.l1 k x0 x1 x6 x7 x8 (wrap64 (Int.tdiv (wrap64 ((wrap64 (x10 + x11)) + 1)) 2)) x11) else (chattelref01_DivMod.l1 k x0 x1 x6 x7 x8 x10 (wrap64 ((wrap64 (Int.tdiv (wrap64 ((wrap64 (x10 + x11)) + 1)) 2)) - 1))))))) else (if 0 ≤ x8 then (if x8 < (x6.length : Int) then ((chattelref01_Small.f k x10).bind fun t890 => ((chattelref01_Mul.f k x1 t890).bind fun t893 => ((chattelref01_Sub.f k x7 t893).bind fun t896 => (chattelref01_DivMod.l0 k x0 x1 (x6.set (x8 : Int).toNat x10) t896 (wrap64 (x8 - 1)))))) else (none)) else (none))
end
def chattelref01_DivMod.f (k : Nat) (l0 : List Int) (l1 : List Int) : Option (List Int × List Int) := if 0 ≤ (l0.length : Int) then (if ((l0.length : Int) : Int).toNat ≤ 35184372088832 then (chattelref01_DivMod.l0 k l0 l1 (List.replicate ((l0.length : Int) : Int).toNat 0) ([] : List Int) (wrap64 ((l0.length : Int) - 1))) else (none)) else (none)
set_option maxHeartbeats 8000000 in
set_option maxRecDepth 100000 in
theorem chattelref01_DivMod.calls (k : Nat) (A0 : Option Addr) (c0 : Nat) (l0 : List Int) (A1 : Option Addr) (c1 : Nat) (l1 : List Int) (r1 : List Int) (r2 : List Int) (w : World) (hr0 : Kd.C (Kd.int .i64) w A0 l0.length l0) (hc0 : l0.length ≤ c0) (hr1 : Kd.C (Kd.int .i64) w A1 l1.length l1) (hc1 : l1.length ≤ c1) (h : chattelref01_DivMod.f k l0 l1 = some (r1, r2)) :
  Calls Try.prog 35 #[.slice A0 l0.length c0, .slice A1 l1.length c1] w fun e w' => ∃ v0_ v1_ : Value, e = .returned (.tuple #[v0_, v1_]) ∧ Kd.V (Kd.int .i64) 3 w' w.heap.size (fun k_ => (w.heap.size ≤ k_)) v0_ r1 ∧ Kd.V (Kd.int .i64) 3 w' w.heap.size (fun k_ => (w.heap.size ≤ k_)) v1_ r2 ∧ Below w.heap.size w w' := by
 have HR0 := Aside0.mk hr0
 have HC0 := Aside0.mk hc0
 clear hr0 hc0
 have HR1 := Aside0.mk hr1
 have HC1 := Aside0.mk hc1
 clear hr1 hc1
 have HB := Aside0.mk (Below.refl w.heap.size w)
 have H : (if 0 ≤ (l0.length : Int) then (if ((l0.length : Int) : Int).toNat ≤ 35184372088832 then (chattelref01_DivMod.l0 k l0 l1 (List.replicate ((l0.length : Int) : Int).toNat 0) ([] : List Int) (wrap64 ((l0.length : Int) - 1))) else (none)) else (none)) = some (r1, r2) := h
 clear h
 by_cases c3 : 0 ≤ (l0.length : Int)
 rotate_left
 ·rw [if_neg c3] at H
  exact absurd H (by simp)
 rw [if_pos c3] at H
 have c3b0 := eq_true c3
 have c3b1 : decide (0 ≤ (l0.length : Int)) = true := decide_eq_true c3
 clear c3
 by_cases c4 : ((l0.length : Int) : Int).toNat ≤ 35184372088832
 rotate_left
 ·rw [if_neg c4] at H
  exact absurd H (by simp)
 rw [if_pos c4] at H
 have c4b0 := eq_true c4
 have c4b1 : decide (((l0.length : Int) : Int).toNat ≤ 35184372088832) = true := decide_eq_true c4
 clear c4
 obtain ⟨y873, hy873⟩ : ∃ y_ : List Int, y_ = (List.replicate ((l0.length : Int) : Int).toNat 0) := ⟨_, rfl⟩
 replace H : (chattelref01_DivMod.l0 k l0 l1 y873 ([] : List Int) (wrap64 ((l0.length : Int) - 1))) = some (r1, r2) := by first | (rw [hy873]; with_reducible exact H) | (have H2_ := (Option.bind_some _ _).symm.trans H; rw [hy873]; with_reducible exact H2_) | (have H2_ := (Option.bind_some _ _).symm.trans H; with_reducible exact H2_) | with_reducible exact H | (rw [hy873]; exact H) | exact H
 have Ny873 := Aside0.mk hy873
 clear hy873
 have H' := Aside0.mk H
 clear H
 go_enter Try.func35, Try.ntmps35
 go_wp2_with (first | ((with_reducible refine gate_dst (N := 20) rfl ?_); refine Kd.R_make (Kd.int .i64) _ 3 rfl (N := 20) rfl 35 _ _ rfl (l0.length : Int) rfl rfl Try.underlying35 (.int .i64 0) 8 info3 rfl (by decide) (by omega) 0 (ok := fun _ => True) (okp := fun _ => True) rfl (fun _ hk => hk) trivial (of_decide_eq_true (by first | (with_reducible assumption) | assumption)) (Nat.le_trans (Nat.mul_le_mul_right _ (of_decide_eq_true (by first | (with_reducible assumption) | assumption) : (l0.length : Int).toNat ≤ 35184372088832)) (by omega)) (Below.refl _ _) (Nat.le_refl _) ?_; intro v874 w5 ho6 hb hg_ hnew_; clear hg_ hnew_; (first | rw [← Ny873.out] at ho6 | (simp only [Int.reduceToNat] at ho6; rw [← Ny873.out] at ho6)); have HO875 := Aside0.mk (Kd.R_lower (Kd.R_newM (M := fun k_ => (w.heap.size ≤ k_)) ho6 (below_size (by repeat (first | (with_reducible first | exact HB.out | apply below_alloc | apply pw_below_drewN | apply below_drew1) | exact HB.out))) (fun k_ h_ => h_)) (below_size (by repeat (first | (with_reducible first | exact HB.out | apply below_alloc | apply pw_below_drewN | apply below_drew1) | exact HB.out)))); replace HB := Aside0.mk (below_step (by repeat (first | (with_reducible first | exact HB.out | apply below_alloc | apply pw_below_drewN | apply below_drew1) | exact HB.out)) hb); clear hb ho6))
 go_loopg [7, 8] k (fun kq v7 v8 w' => ∃ (x6_1 : List Int) (x7_1 : List Int) (x8_1 : Int), v8 = .int .i64 x8_1 ∧ Aside0 (chattelref01_DivMod.l0 kq l0 l1 x6_1 x7_1 x8_1 = some (r1, r2)) ∧ Aside0 (kq ≤ k) ∧ Aside0 (Kd.R (Kd.int .i64) 3 w' w.heap.size (fun k_ => (w.heap.size ≤ k_)) v874 x6_1) ∧ Aside0 (Kd.V (Kd.int .i64) 3 w' w.heap.size (fun k_ => (w.heap.size ≤ k_) ∧ some k_ ≠ (v874 : Value).ownBlock) v7 x7_1) ∧ Aside0 (Below w.heap.size w w'))
 case atStart => exact ⟨(y873), (([] : List Int)), (wrap64 ((l0.length : Int) - 1)), (by first | rfl | (simp; done) | (simp [*]; done)), H', ⟨Nat.le_refl _⟩, ⟨by (with_reducible repeat (first | apply Kd.R_alloc | apply Kd.R_drewN | apply Kd.R_drew)); exact Kd.R_mono HO875.out (fun _ hk => hk.1)⟩, ⟨Kd.V_nil _ _ _ _ _⟩, ⟨by repeat (first | (with_reducible first | exact HB.out | apply below_alloc | apply pw_below_drewN | apply below_drew1) | exact HB.out)⟩⟩
 case round =>
  clear H'
  try clear c1
  try clear p2
  try clear c3
  try clear c3b0
  try clear c3b1
  try clear c4
  try clear c4b0
  try clear c4b1
  try clear p6
  obtain ⟨x6_1, x7_1, x8_1, rfl, HA, HK1, HO_6, HO_7, HB⟩ := hrel
  cases gk with
  | zero => exact absurd HA.out (by simp [chattelref01_DivMod.l0])
  | succ k1 =>
   have H := HA.out
   clear HA
   simp only [chattelref01_DivMod.l0] at H
   by_cases c7 : x8_1 ≥ 0
   ·rw [if_pos c7] at H
    have c7b0 : decide (0 ≤ x8_1) = true := decide_eq_true c7
    clear c7
    by_cases c8 : 0 ≤ x8_1
    rotate_left
    ·rw [if_neg c8] at H
     exact absurd H (by simp)
    rw [if_pos c8] at H
    have c8b0 : decide (0 ≤ x8_1) = true := decide_eq_true c8
    clear c8
    by_cases c9 : x8_1 < (l0.length : Int)
    rotate_left
    ·rw [if_neg c9] at H
     exact absurd H (by simp)
    rw [if_pos c9] at H
    have c9b0 : decide (x8_1 < (l0.length : Int)) = true := decide_eq_true c9
    clear c9
    obtain ⟨y880, hy880⟩ : ∃ y_ : List Int, y_ = (([rd l0 x8_1] : List Int)) := ⟨_, rfl⟩
    replace H : (if y880.length + x7_1.length < 17592186044416 then ((chattelref01_Trim.f k1 (y880 ++ x7_1)).bind fun t886 => (chattelref01_DivMod.l1 k1 l0 l1 x6_1 t886 x8_1 0 9999)) else (none)) = some (r1, r2) := by first | (rw [hy880]; with_reducible exact H) | (have H2_ := (Option.bind_some _ _).symm.trans H; rw [hy880]; with_reducible exact H2_) | (have H2_ := (Option.bind_some _ _).symm.trans H; with_reducible exact H2_) | with_reducible exact H | (rw [hy880]; exact H) | exact H
    have Ny880 := Aside0.mk hy880
    clear hy880
    by_cases c10 : y880.length + x7_1.length < 17592186044416
    rotate_left
    ·rw [if_neg c10] at H
     exact absurd H (by simp)
    rw [if_pos c10] at H
    have LMc10 := Aside0.mk c10
    clear c10
    obtain ⟨y883, hy883⟩ : ∃ y_ : List Int, y_ = (y880 ++ x7_1) := ⟨_, rfl⟩
    replace H : ((chattelref01_Trim.f k1 y883).bind fun t886 => (chattelref01_DivMod.l1 k1 l0 l1 x6_1 t886 x8_1 0 9999)) = some (r1, r2) := by first | (rw [hy883]; with_reducible exact H) | (have H2_ := (Option.bind_some _ _).symm.trans H; rw [hy883]; with_reducible exact H2_) | (have H2_ := (Option.bind_some _ _).symm.trans H; with_reducible exact H2_) | with_reducible exact H | (rw [hy883]; exact H) | exact H
    have Ny883 := Aside0.mk hy883
    clear hy883
    replace H := Option.bind_eq_some_iff.mp H
    obtain ⟨t886, A110, H⟩ := H
    (try dsimp only at H)
    have A11 := Aside0.mk A110
    clear A110
    have H' := Aside0.mk H
    clear H
    have p879 : 0 ≤ (x8_1 : Int) := of_decide_eq_true (by first | (with_reducible assumption) | assumption)
    have q879 : x8_1 < (l0.length : Int) := of_decide_eq_true (by first | (with_reducible assumption) | assumption)
    obtain ⟨ad879, e879, hx879_0⟩ := Kd.at_int HR0.out x8_1 p879 q879
    cases e879
    replace hx879_0 := (HB.out.cell (World.block_lt_of_cell? w _ hx879_0)).trans hx879_0
    replace p879 := eq_true p879
    replace q879 := eq_true q879
    go_wp2_with (first | ((with_reducible refine gate_dst (N := 32) rfl ?_); refine Kd.R_lit (Kd.int .i64) _ 3 ?hg (N := 32) ?hd (xs := ([rd l0 x8_1] : List Int)) (inner := [.int .i64 (rd l0 x8_1)]) (ok := fun _ => True) (okp := fun _ => True) ?hr ?hp (fun _ hk => hk) trivial (Below.refl _ _) (Nat.le_refl _) (by simp) ?_; (case hd => rfl); (case hg => rfl); (case hr => first | (go_simp; done) | (go_simp; rfl)); (case hp => exact (Reps.one (show Kd.M (Kd.int .i64) _ _ _ (rd l0 x8_1) [.int .i64 (rd l0 x8_1)] from rfl) (Reps.none _ _))); intro v881 w12 ho13 hb hg_ hnew_; clear hg_ hnew_; (first | rw [← Ny880.out] at ho13 | (simp only [Int.reduceToNat] at ho13; rw [← Ny880.out] at ho13)); have n0_ := Aside0.mk (Kd.R_elder' HO_6.out (Kd.R_base ho13) hb); have n1_ := Aside0.mk (Kd.V_elder' HO_7.out (Kd.R_base ho13) hb); have n2_ := Aside0.mk (Kd.R_lower (Kd.R_new' (Kd.R_newM (M := fun k_ => (w.heap.size ≤ k_)) ho13 (below_size (by repeat (first | (with_reducible first | exact HB.out | apply below_alloc | apply pw_below_drewN | apply below_drew1) | exact HB.out))) (fun k_ h_ => h_)) (Kd.R_lt HO_6.out)) (below_size (by repeat (first | (with_reducible first | exact HB.out | apply below_alloc | apply pw_below_drewN | apply below_drew1) | exact HB.out)))); have n3_ := Aside0.mk (below_step (by repeat (first | (with_reducible first | exact HB.out | apply below_alloc | apply pw_below_drewN | apply below_drew1) | exact HB.out)) hb); clear HO_6; clear HO_7; clear HB; have HO_6 := n0_; have HO_7 := n1_; have HO882 := n2_; have HB := n3_; clear n0_ n1_ n2_ n3_; clear hb ho13; obtain ⟨Ao15, co15, eo15⟩ := Kd.V_slice HO_7.out; subst eo15) | ((with_reducible refine gate_builtin (b := .append) (xs := #[.tmp 32, .tmp 33]) rfl ?_); at_builtin; refine Kd.R_append_rows (Kd.int .i64) (w0 := w) w.heap.size rfl (.tmp 32) (.tmp 33) 35 3 (.int .i64 0) 8 rfl Try.underlying35 info3 rfl (by decide) (by omega) v881 y880 x7_1 _ _ _ (fun k_ => (w.heap.size ≤ k_) ∧ some k_ ≠ (v874 : Value).ownBlock) (fun _ => False) rfl rfl ?aO ?aR (fun _ _ h => h) (fun _ h => h.elim) ?aF ?aB ?aS ?aL ?_; (case aR => repeat (first | exact (Kd.V_reads' HO_7.out).2.2 | (with_reducible refine Kd.C_alloc ?_ _) | (with_reducible refine Kd.C_drewN ?_ _) | (with_reducible refine Kd.C_drew ?_))); (case aB => exact (by repeat (first | (with_reducible first | exact HB.out | apply below_alloc | apply pw_below_drewN | apply below_drew1) | exact HB.out))); (case aF => exact (fun k_ hk => ⟨(Nat.le_trans (below_size (by repeat (first | (with_reducible first | exact HB.out | apply below_alloc | apply pw_below_drewN | apply below_drew1) | exact HB.out))) hk), Kd.fresh' (Kd.R_lt HO_6.out) k_ hk⟩)); (case aO => exact (Kd.R_mono HO882.out (fun _ hk => ⟨hk.1.1, hk.2⟩))); (case aS => exact (below_size (by repeat (first | (with_reducible first | exact HB.out | apply below_alloc | apply pw_below_drewN | apply below_drew1) | exact HB.out)))); (case aL => have := LMc10.out; omega); intro v884 w14 ho hb hg hat; rw [← Ny883.out] at ho; have n0_ := Aside0.mk (Kd.R_after (ok := (fun k_ => (w.heap.size ≤ k_))) HO_6.out hg hat); have n1_ := Aside0.mk (Kd.V_afterv (ok := (fun k_ => (w.heap.size ≤ k_) ∧ some k_ ≠ (v874 : Value).ownBlock)) HO_7.out hg hat); have n2_ := Aside0.mk (hb); have n3_ := Aside0.mk (ho); clear HO_6; clear HO_7; clear HB; clear HO882; have HO_6 := n0_; have HO_7 := n1_; have HB := n2_; have HO885 := n3_; clear n0_ n1_ n2_ n3_; clear ho hb hg hat; obtain ⟨Ao16, co16, eo16⟩ := Kd.R_slice HO885.out; subst eo16) | ((with_reducible refine gate_callee (f := 52) rfl ?_); refine goesL_ (some 36) rfl rfl Try.func52 (by kernel_rfl) rfl #[.slice Ao16 y883.length co16] rfl (by (try simp only [List.map_toArray, List.map_cons, List.map_nil]); first | done | rfl | (simp only [List.length_drop, List.length_take]; rfl)) ?_; (with_reducible refine (chattelref01_Trim.calls k1 (fun k_ => some k_ = (.slice Ao16 y883.length co16 : Value).ownBlock) _ _ y883 t886 _ ?side1 A11.out).mono ?_); (case side1 => exact Kd.R_V (Kd.R_tight rfl (HO885.out))); rintro e w17 ⟨v887, rfl, ho0, hb⟩; refine ⟨_, rfl, ?_⟩; have n0_ := Aside0.mk (rb HO_6.out hb); have n1_ := Aside0.mk (vb HO_7.out hb); have n2_ := Aside0.mk (rb HO885.out hb); have n3_ := Aside0.mk (Kd.V_lower (Kd.V_mono (ok' := fun k_ => (w.heap.size ≤ k_) ∧ some k_ ≠ (v874 : Value).ownBlock) ho0 (fun k_ hk_ => ⟨Or.elim hk_ (fun hs_ => ((HO885.out).1 k_ hs_.symm).1) (fun hn_ => (Nat.le_trans (bz HB.out) hn_)), Or.elim hk_ (fun hs_ => ((HO885.out).1 k_ hs_.symm).2) (fun hn_ => (Kd.fresh' (Kd.R_lt HO_6.out) k_ hn_))⟩)) (bz HB.out)); have n4_ := Aside0.mk (bs HB.out hb); clear HO_6; clear HO_7; clear HO885; clear HB; have HO_6 := n0_; have HO_7 := n1_; have HO885 := n2_; have HO888 := n3_; have HB := n4_; clear n0_ n1_ n2_ n3_ n4_; (try clear hb); (try clear hb2); (try clear hk); (try clear hi); (try clear ho0)))
    go_loopg [10, 11] k1 (fun kq v10 v11 w' => ∃ (x10_2 : Int) (x11_2 : Int), v10 = .int .i64 x10_2 ∧ v11 = .int .i64 x11_2 ∧ Aside0 (chattelref01_DivMod.l1 kq l0 l1 x6_1 t886 x8_1 x10_2 x11_2 = some (r1, r2)) ∧ Aside0 (kq ≤ k1) ∧ Aside0 (Kd.R (Kd.int .i64) 3 w' w.heap.size (fun k_ => (w.heap.size ≤ k_)) v874 x6_1) ∧ Aside0 (Kd.V (Kd.int .i64) 3 w' w.heap.size (fun k_ => (w.heap.size ≤ k_) ∧ some k_ ≠ (v874 : Value).ownBlock) v887 t886) ∧ Aside0 (Below w.heap.size w w'))
    case atStart => exact ⟨(0), (9999), (by first | rfl | (simp; done) | (simp [*]; done)), (by first | rfl | (simp; done) | (simp [*]; done)), H', ⟨Nat.le_refl _⟩, ⟨by (with_reducible repeat (first | apply Kd.R_alloc | apply Kd.R_drewN | apply Kd.R_drew)); exact Kd.R_mono HO_6.out (fun _ hk => hk.1)⟩, ⟨by (with_reducible repeat (first | apply Kd.V_alloc | apply Kd.V_drewN | apply Kd.V_drew)); exact HO888.out⟩, ⟨by repeat (first | (with_reducible first | exact HB.out | apply below_alloc | apply pw_below_drewN | apply below_drew1) | exact HB.out)⟩⟩
    case round =>
     clear H'
     try clear c1
     try clear p2
     try clear c3
     try clear c3b0
     try clear c3b1
     try clear c4
     try clear c4b0
     try clear c4b1
     try clear c5
     try clear p6
     try clear c7
     try clear c7b0
     try clear c8
     try clear c8b0
     try clear p8
     try clear q8
     try clear hx8
     try clear c9
     try clear c9b0
     try clear c10
     try clear hx879_0
     try clear p2
     try clear p6
     try clear p879
     try clear q879
     obtain ⟨x10_2, x11_2, rfl, rfl, HA, HK2, HO_6, HO_7, HB⟩ := hrel
     cases gk with
     | zero => exact absurd HA.out (by simp [chattelref01_DivMod.l1])
     | succ k2 =>
      have H := HA.out
      clear HA
      simp only [chattelref01_DivMod.l1] at H
      by_cases c18 : x10_2 < x11_2
      ·rw [if_pos c18] at H
       have c18b0 : decide (x10_2 < x11_2) = true := decide_eq_true c18
       clear c18
       replace H := Option.bind_eq_some_iff.mp H
       obtain ⟨t899, A190, H⟩ := H
       (try dsimp only at H)
       have A19 := Aside0.mk A190
       clear A190
       replace H := Option.bind_eq_some_iff.mp H
       obtain ⟨t902, A200, H⟩ := H
       (try dsimp only at H)
       have A20 := Aside0.mk A200
       clear A200
       replace H := Option.bind_eq_some_iff.mp H
       obtain ⟨t905, A210, H⟩ := H
       (try dsimp only at H)
       have A21 := Aside0.mk A210
       clear A210
       by_cases c22 : t905 ≤ 0
       ·rw [if_pos c22] at H
        have c22b0 : decide (t905 ≤ 0) = true := decide_eq_true c22
        clear c22
        have H' := Aside0.mk H
        clear H
        go_wp2_with (first | ((with_reducible refine gate_callee (f := 46) rfl ?_); refine goesL_ (some 46) rfl rfl Try.func46 (by kernel_rfl) rfl #[.int .i64 (wrap64 (Int.tdiv (wrap64 ((wrap64 (x10_2 + x11_2)) + 1)) 2))] rfl (by (try simp only [List.map_toArray, List.map_cons, List.map_nil]); first | done | rfl | (simp only [List.length_drop, List.length_take]; rfl)) ?_; (with_reducible refine (chattelref01_Small.calls k2 (wrap64 (Int.tdiv (wrap64 ((wrap64 (x10_2 + x11_2)) + 1)) 2)) t899 _ A19.out).mono ?_); rintro e w23 ⟨v900, rfl, ho0, hb⟩; refine ⟨_, rfl, ?_⟩; have n0_ := Aside0.mk (Kd.R_elder' HO_6.out (Kd.R_base ho0) hb); have n1_ := Aside0.mk (Kd.V_elder' HO_7.out (Kd.R_base ho0) hb); have n2_ := Aside0.mk (Kd.R_lower (Kd.R_new' (Kd.R_newM (M := fun k_ => (w.heap.size ≤ k_)) ho0 (below_size (by repeat (first | (with_reducible first | exact HB.out | apply below_alloc | apply pw_below_drewN | apply below_drew1) | exact HB.out))) (fun k_ h_ => h_)) (Kd.R_lt HO_6.out)) (below_size (by repeat (first | (with_reducible first | exact HB.out | apply below_alloc | apply pw_below_drewN | apply below_drew1) | exact HB.out)))); have n3_ := Aside0.mk (below_step (by repeat (first | (with_reducible first | exact HB.out | apply below_alloc | apply pw_below_drewN | apply below_drew1) | exact HB.out)) hb); clear HO_6; clear HO_7; clear HB; have HO_6 := n0_; have HO_7 := n1_; have HO901 := n2_; have HB := n3_; clear n0_ n1_ n2_ n3_; (try clear hb); (try clear hb2); (try clear hk); (try clear hi); (try clear ho0); obtain ⟨Ao24, co24, eo24⟩ := Kd.R_slice HO901.out; subst eo24) | ((with_reducible refine gate_callee (f := 30) rfl ?_); refine goesL_ (some 49) rfl rfl Try.func30 (by kernel_rfl) rfl #[.slice A1 l1.length c1, .slice Ao24 t899.length co24] rfl (by (try simp only [List.map_toArray, List.map_cons, List.map_nil]); first | done | rfl | (simp only [List.length_drop, List.length_take]; rfl)) ?_; (with_reducible refine (chattelref01_Mul.calls k2 _ _ l1 _ _ t899 t902 _ ?side1 ?side2 ?side3 ?side4 A20.out).mono ?_); (case side1 => repeat (first | exact (Kd.C_below HR1.out HB.out) | (with_reducible refine Kd.C_alloc ?_ _) | (with_reducible refine Kd.C_drewN ?_ _) | (with_reducible refine Kd.C_drew ?_))); (case side2 => exact HC1.out); (case side3 => exact cr HO901.out); (case side4 => exact (Kd.R_reads' HO901.out).2.1); rintro e w25 ⟨v903, rfl, ho0, hb⟩; refine ⟨_, rfl, ?_⟩; have n0_ := Aside0.mk (rb HO_6.out hb); have n1_ := Aside0.mk (vb HO_7.out hb); have n2_ := Aside0.mk (rb HO901.out hb); have n3_ := Aside0.mk (Kd.V_lower (Kd.V_mono (ok' := fun k_ => (w.heap.size ≤ k_) ∧ some k_ ≠ (v874 : Value).ownBlock ∧ some k_ ≠ (.slice Ao24 t899.length co24 : Value).ownBlock) ho0 (fun k_ hk_ => ⟨(Nat.le_trans (bz HB.out) hk_), (Kd.fresh' (Kd.R_lt HO_6.out) k_ hk_), (Kd.fresh' (Kd.R_lt HO901.out) k_ hk_)⟩)) (bz HB.out)); have n4_ := Aside0.mk (bs HB.out hb); clear HO_6; clear HO_7; clear HO901; clear HB; have HO_6 := n0_; have HO_7 := n1_; have HO901 := n2_; have HO904 := n3_; have HB := n4_; clear n0_ n1_ n2_ n3_ n4_; (try clear hb); (try clear hb2); (try clear hk); (try clear hi); (try clear ho0); obtain ⟨Ao26, co26, eo26⟩ := Kd.V_slice HO904.out; subst eo26; obtain ⟨Ao27, co27, eo27⟩ := Kd.V_slice HO_7.out; subst eo27) | ((with_reducible refine gate_callee (f := 22) rfl ?_); refine goesL_ (some 52) rfl rfl Try.func22 (by kernel_rfl) rfl #[.slice Ao26 t902.length co26, .slice Ao27 t886.length co27] rfl (by (try simp only [List.map_toArray, List.map_cons, List.map_nil]); first | done | rfl | (simp only [List.length_drop, List.length_take]; rfl)) ?_; (with_reducible refine (chattelref01_Cmp.calls k2 _ _ t902 _ _ t886 t905 _ ?side1 ?side2 ?side3 ?side4 A21.out).mono ?_); (case side1 => exact cv HO904.out); (case side2 => exact (Kd.V_reads' HO904.out).2.1); (case side3 => exact cv HO_7.out); (case side4 => exact (Kd.V_reads' HO_7.out).2.1); rintro e w' ⟨rfl, ⟨nd, rfl⟩⟩; refine ⟨_, rfl, ?_⟩))
        go_roundg k2
        case measure => have := HK1.out; have := HK2.out; omega
        case rel => exact ⟨(wrap64 (Int.tdiv (wrap64 ((wrap64 (x10_2 + x11_2)) + 1)) 2)), (x11_2), (by first | rfl | (simp; done) | (simp [*]; done)), (by first | rfl | (simp; done) | (simp [*]; done)), H', ⟨by have := HK1.out; have := HK2.out; omega⟩, ⟨by (with_reducible repeat (first | apply Kd.R_alloc | apply Kd.R_drewN | apply Kd.R_drew)); exact Kd.R_mono HO_6.out (fun _ hk => hk.1)⟩, ⟨by (with_reducible repeat (first | apply Kd.V_alloc | apply Kd.V_drewN | apply Kd.V_drew)); exact Kd.V_mono HO_7.out (fun _ hk => ⟨hk.1.1, hk.1.2⟩)⟩, ⟨by repeat (first | (with_reducible first | exact HB.out | apply below_alloc | apply pw_below_drewN | apply below_drew1) | exact HB.out)⟩⟩
       ·rw [if_neg c22] at H
        have c22b0 : decide (t905 ≤ 0) = false := decide_eq_false c22
        clear c22
        have H' := Aside0.mk H
        clear H
        go_wp2_with (first | ((with_reducible refine gate_callee (f := 46) rfl ?_); refine goesL_ (some 46) rfl rfl Try.func46 (by kernel_rfl) rfl #[.int .i64 (wrap64 (Int.tdiv (wrap64 ((wrap64 (x10_2 + x11_2)) + 1)) 2))] rfl (by (try simp only [List.map_toArray, List.map_cons, List.map_nil]); first | done | rfl | (simp only [List.length_drop, List.length_take]; rfl)) ?_; (with_reducible refine (chattelref01_Small.calls k2 (wrap64 (Int.tdiv (wrap64 ((wrap64 (x10_2 + x11_2)) + 1)) 2)) t899 _ A19.out).mono ?_); rintro e w28 ⟨v900, rfl, ho0, hb⟩; refine ⟨_, rfl, ?_⟩; have n0_ := Aside0.mk (Kd.R_elder' HO_6.out (Kd.R_base ho0) hb); have n1_ := Aside0.mk (Kd.V_elder' HO_7.out (Kd.R_base ho0) hb); have n2_ := Aside0.mk (Kd.R_lower (Kd.R_new' (Kd.R_newM (M := fun k_ => (w.heap.size ≤ k_)) ho0 (below_size (by repeat (first | (with_reducible first | exact HB.out | apply below_alloc | apply pw_below_drewN | apply below_drew1) | exact HB.out))) (fun k_ h_ => h_)) (Kd.R_lt HO_6.out)) (below_size (by repeat (first | (with_reducible first | exact HB.out | apply below_alloc | apply pw_below_drewN | apply below_drew1) | exact HB.out)))); have n3_ := Aside0.mk (below_step (by repeat (first | (with_reducible first | exact HB.out | apply below_alloc | apply pw_below_drewN | apply below_drew1) | exact HB.out)) hb); clear HO_6; clear HO_7; clear HB; have HO_6 := n0_; have HO_7 := n1_; have HO901 := n2_; have HB := n3_; clear n0_ n1_ n2_ n3_; (try clear hb); (try clear hb2); (try clear hk); (try clear hi); (try clear ho0); obtain ⟨Ao29, co29, eo29⟩ := Kd.R_slice HO901.out; subst eo29) | ((with_reducible refine gate_callee (f := 30) rfl ?_); refine goesL_ (some 49) rfl rfl Try.func30 (by kernel_rfl) rfl #[.slice A1 l1.length c1, .slice Ao29 t899.length co29] rfl (by (try simp only [List.map_toArray, List.map_cons, List.map_nil]); first | done | rfl | (simp only [List.length_drop, List.length_take]; rfl)) ?_; (with_reducible refine (chattelref01_Mul.calls k2 _ _ l1 _ _ t899 t902 _ ?side1 ?side2 ?side3 ?side4 A20.out).mono ?_); (case side1 => repeat (first | exact (Kd.C_below HR1.out HB.out) | (with_reducible refine Kd.C_alloc ?_ _) | (with_reducible refine Kd.C_drewN ?_ _) | (with_reducible refine Kd.C_drew ?_))); (case side2 => exact HC1.out); (case side3 => exact cr HO901.out); (case side4 => exact (Kd.R_reads' HO901.out).2.1); rintro e w30 ⟨v903, rfl, ho0, hb⟩; refine ⟨_, rfl, ?_⟩; have n0_ := Aside0.mk (rb HO_6.out hb); have n1_ := Aside0.mk (vb HO_7.out hb); have n2_ := Aside0.mk (rb HO901.out hb); have n3_ := Aside0.mk (Kd.V_lower (Kd.V_mono (ok' := fun k_ => (w.heap.size ≤ k_) ∧ some k_ ≠ (v874 : Value).ownBlock ∧ some k_ ≠ (.slice Ao29 t899.length co29 : Value).ownBlock) ho0 (fun k_ hk_ => ⟨(Nat.le_trans (bz HB.out) hk_), (Kd.fresh' (Kd.R_lt HO_6.out) k_ hk_), (Kd.fresh' (Kd.R_lt HO901.out) k_ hk_)⟩)) (bz HB.out)); have n4_ := Aside0.mk (bs HB.out hb); clear HO_6; clear HO_7; clear HO901; clear HB; have HO_6 := n0_; have HO_7 := n1_; have HO901 := n2_; have HO904 := n3_; have HB := n4_; clear n0_ n1_ n2_ n3_ n4_; (try clear hb); (try clear hb2); (try clear hk); (try clear hi); (try clear ho0); obtain ⟨Ao31, co31, eo31⟩ := Kd.V_slice HO904.out; subst eo31; obtain ⟨Ao32, co32, eo32⟩ := Kd.V_slice HO_7.out; subst eo32) | ((with_reducible refine gate_callee (f := 22) rfl ?_); refine goesL_ (some 52) rfl rfl Try.func22 (by kernel_rfl) rfl #[.slice Ao31 t902.length co31, .slice Ao32 t886.length co32] rfl (by (try simp only [List.map_toArray, List.map_cons, List.map_nil]); first | done | rfl | (simp only [List.length_drop, List.length_take]; rfl)) ?_; (with_reducible refine (chattelref01_Cmp.calls k2 _ _ t902 _ _ t886 t905 _ ?side1 ?side2 ?side3 ?side4 A21.out).mono ?_); (case side1 => exact cv HO904.out); (case side2 => exact (Kd.V_reads' HO904.out).2.1); (case side3 => exact cv HO_7.out); (case side4 => exact (Kd.V_reads' HO_7.out).2.1); rintro e w' ⟨rfl, ⟨nd, rfl⟩⟩; refine ⟨_, rfl, ?_⟩))
        go_roundg k2
        case measure => have := HK1.out; have := HK2.out; omega
        case rel => exact ⟨(x10_2), (wrap64 ((wrap64 (Int.tdiv (wrap64 ((wrap64 (x10_2 + x11_2)) + 1)) 2)) - 1)), (by first | rfl | (simp; done) | (simp [*]; done)), (by first | rfl | (simp; done) | (simp [*]; done)), H', ⟨by have := HK1.out; have := HK2.out; omega⟩, ⟨by (with_reducible repeat (first | apply Kd.R_alloc | apply Kd.R_drewN | apply Kd.R_drew)); exact Kd.R_mono HO_6.out (fun _ hk => hk.1)⟩, ⟨by (with_reducible repeat (first | apply Kd.V_alloc | apply Kd.V_drewN | apply Kd.V_drew)); exact Kd.V_mono HO_7.out (fun _ hk => ⟨hk.1.1, hk.1.2⟩)⟩, ⟨by repeat (first | (with_reducible first | exact HB.out | apply below_alloc | apply pw_below_drewN | apply below_drew1) | exact HB.out)⟩⟩
      ·rw [if_neg c18] at H
       have c18b0 : decide (x10_2 < x11_2) = false := decide_eq_false c18
       clear c18
       by_cases c33 : 0 ≤ x8_1
       rotate_left
       ·rw [if_neg c33] at H
        exact absurd H (by simp)
       rw [if_pos c33] at H
       have c33b0 : decide (0 ≤ x8_1) = true := decide_eq_true c33
       clear c33
       by_cases c34 : x8_1 < (x6_1.length : Int)
       rotate_left
       ·rw [if_neg c34] at H
        exact absurd H (by simp)
       rw [if_pos c34] at H
       have c34b0 : decide (x8_1 < (x6_1.length : Int)) = true := decide_eq_true c34
       clear c34
       obtain ⟨y889, hy889⟩ : ∃ y_ : List Int, y_ = (x6_1.set (x8_1 : Int).toNat x10_2) := ⟨_, rfl⟩
       replace H : ((chattelref01_Small.f k2 x10_2).bind fun t890 => ((chattelref01_Mul.f k2 l1 t890).bind fun t893 => ((chattelref01_Sub.f k2 t886 t893).bind fun t896 => (chattelref01_DivMod.l0 k2 l0 l1 y889 t896 (wrap64 (x8_1 - 1)))))) = some (r1, r2) := by first | (rw [hy889]; with_reducible exact H) | (have H2_ := (Option.bind_some _ _).symm.trans H; rw [hy889]; with_reducible exact H2_) | (have H2_ := (Option.bind_some _ _).symm.trans H; with_reducible exact H2_) | with_reducible exact H | (rw [hy889]; exact H) | exact H
       have Ny889 := Aside0.mk hy889
       clear hy889
       replace H := Option.bind_eq_some_iff.mp H
       obtain ⟨t890, A360, H⟩ := H
       (try dsimp only at H)
       have A36 := Aside0.mk A360
       clear A360
       replace H := Option.bind_eq_some_iff.mp H
       obtain ⟨t893, A370, H⟩ := H
       (try dsimp only at H)
       have A37 := Aside0.mk A370
       clear A370
       replace H := Option.bind_eq_some_iff.mp H
       obtain ⟨t896, A380, H⟩ := H
       (try dsimp only at H)
       have A38 := Aside0.mk A380
       clear A380
       have H' := Aside0.mk H
       clear H
       have p35 : 0 ≤ (x8_1 : Int) := of_decide_eq_true (by first | (with_reducible assumption) | assumption)
       have q35 : (x8_1 : Int) < ((x6_1.length : Int) : Int) := of_decide_eq_true (by first | (with_reducible assumption) | assumption)
       obtain ⟨go35, co35, eo35, gb35, gl35, cl35, HG35⟩ := Kd.R_form HO_6.out (by omega)
       (first | cases eo35 | (injection eo35 with ea_ en_ ec_; (first | subst ea_ | (injection ea_ with ea_; subst ea_)); subst ec_; clear en_))
       have GB35 := Aside0.mk gb35
       have GG35 := Aside0.mk HG35
       clear gb35 gl35 HG35
       obtain ⟨hx35_0, hf35_0⟩ := Kd.R_celln 0 HO_6.out (x8_1 : Int) p35 q35
       replace p35 := eq_true p35
       replace q35 := eq_true q35
       have HP39 := Kd.R_putg HO_6.out (x8_1 : Int) x10_2
       go_wp2_with (first | ((with_reducible refine gate_store (t := 3) (p := 61) rfl ?_); refine store_event (t := 3) (p := 61) (v := ?vo_w40) (w1 := (wr.setCell ⟨go35, (x8_1 : Int).toNat, none⟩ (.int .i64 x10_2))) ?hg ?ho ?hn ?hr ?_; (case ho => rfl); (case hg => rfl); (case hn => rfl); (case hr => first | (go_simp; done) | (go_simp; rfl)); intro w40 hw; have hg : wr.grownBy w40 (some go35) := (by rw [hw]; exact HP39.2); have hp_ : Kd.R (Kd.int .i64) 3 w40 w.heap.size (fun k_ => (w.heap.size ≤ k_)) (.slice (some ⟨go35, 0, none⟩) x6_1.length co35) y889 := (by rw [hw, Ny889.out]; exact HP39.1); clear HP39; replace HO_6 := Aside0.mk (hp_); replace HO_7 := Aside0.mk (Kd.V_afterv (v := (.slice (some ⟨go35, 0, none⟩) x6_1.length co35)) (v1 := (.slice (some ⟨go35, 0, none⟩) x6_1.length co35)) (ok := (fun k_ => (w.heap.size ≤ k_))) HO_7.out hg (.inl rfl)); replace HB := Aside0.mk ((by rw [hw]; exact below_set (HB.out) GB35.out : Below w.heap.size w w40)); clear hg hw hp_) | ((with_reducible refine gate_callee (f := 46) rfl ?_); refine goesL_ (some 63) rfl rfl Try.func46 (by kernel_rfl) rfl #[.int .i64 x10_2] rfl (by (try simp only [List.map_toArray, List.map_cons, List.map_nil]); first | done | rfl | (simp only [List.length_drop, List.length_take]; rfl)) ?_; (with_reducible refine (chattelref01_Small.calls k2 x10_2 t890 _ A36.out).mono ?_); rintro e w41 ⟨v891, rfl, ho0, hb⟩; refine ⟨_, rfl, ?_⟩; have n0_ := Aside0.mk (Kd.R_elder' HO_6.out (Kd.R_base ho0) hb); have n1_ := Aside0.mk (Kd.V_elder' HO_7.out (Kd.R_base ho0) hb); have n2_ := Aside0.mk (Kd.R_lower (Kd.R_new' (Kd.R_newM (M := fun k_ => (w.heap.size ≤ k_)) ho0 (below_size (by repeat (first | (with_reducible first | exact HB.out | apply below_alloc | apply pw_below_drewN | apply below_drew1) | exact HB.out))) (fun k_ h_ => h_)) (Kd.R_lt HO_6.out)) (below_size (by repeat (first | (with_reducible first | exact HB.out | apply below_alloc | apply pw_below_drewN | apply below_drew1) | exact HB.out)))); have n3_ := Aside0.mk (below_step (by repeat (first | (with_reducible first | exact HB.out | apply below_alloc | apply pw_below_drewN | apply below_drew1) | exact HB.out)) hb); clear HO_6; clear HO_7; clear HB; have HO_6 := n0_; have HO_7 := n1_; have HO892 := n2_; have HB := n3_; clear n0_ n1_ n2_ n3_; (try clear hb); (try clear hb2); (try clear hk); (try clear hi); (try clear ho0); obtain ⟨Ao42, co42, eo42⟩ := Kd.R_slice HO892.out; subst eo42) | ((with_reducible refine gate_callee (f := 30) rfl ?_); refine goesL_ (some 66) rfl rfl Try.func30 (by kernel_rfl) rfl #[.slice A1 l1.length c1, .slice Ao42 t890.length co42] rfl (by (try simp only [List.map_toArray, List.map_cons, List.map_nil]); first | done | rfl | (simp only [List.length_drop, List.length_take]; rfl)) ?_; (with_reducible refine (chattelref01_Mul.calls k2 _ _ l1 _ _ t890 t893 _ ?side1 ?side2 ?side3 ?side4 A37.out).mono ?_); (case side1 => repeat (first | exact (Kd.C_below HR1.out HB.out) | (with_reducible refine Kd.C_alloc ?_ _) | (with_reducible refine Kd.C_drewN ?_ _) | (with_reducible refine Kd.C_drew ?_))); (case side2 => exact HC1.out); (case side3 => exact cr HO892.out); (case side4 => exact (Kd.R_reads' HO892.out).2.1); rintro e w43 ⟨v894, rfl, ho0, hb⟩; refine ⟨_, rfl, ?_⟩; have n0_ := Aside0.mk (rb HO_6.out hb); have n1_ := Aside0.mk (vb HO_7.out hb); have n2_ := Aside0.mk (rb HO892.out hb); have n3_ := Aside0.mk (Kd.V_lower (Kd.V_mono (ok' := fun k_ => (w.heap.size ≤ k_) ∧ some k_ ≠ (.slice (some ⟨go35, 0, none⟩) x6_1.length co35 : Value).ownBlock ∧ some k_ ≠ (.slice Ao42 t890.length co42 : Value).ownBlock) ho0 (fun k_ hk_ => ⟨(Nat.le_trans (bz HB.out) hk_), (Kd.fresh' (Kd.R_lt HO_6.out) k_ hk_), (Kd.fresh' (Kd.R_lt HO892.out) k_ hk_)⟩)) (bz HB.out)); have n4_ := Aside0.mk (bs HB.out hb); clear HO_6; clear HO_7; clear HO892; clear HB; have HO_6 := n0_; have HO_7 := n1_; have HO892 := n2_; have HO895 := n3_; have HB := n4_; clear n0_ n1_ n2_ n3_ n4_; (try clear hb); (try clear hb2); (try clear hk); (try clear hi); (try clear ho0); obtain ⟨Ao44, co44, eo44⟩ := Kd.V_slice HO_7.out; subst eo44; obtain ⟨Ao45, co45, eo45⟩ := Kd.V_slice HO895.out; subst eo45) | ((with_reducible refine gate_callee (f := 27) rfl ?_); refine goesL_ (some 69) rfl rfl Try.func27 (by kernel_rfl) rfl #[.slice Ao44 t886.length co44, .slice Ao45 t893.length co45] rfl (by (try simp only [List.map_toArray, List.map_cons, List.map_nil]); first | done | rfl | (simp only [List.length_drop, List.length_take]; rfl)) ?_; (with_reducible refine (chattelref01_Sub.calls k2 _ _ t886 _ _ t893 t896 _ ?side1 ?side2 ?side3 ?side4 A38.out).mono ?_); (case side1 => exact cv HO_7.out); (case side2 => exact (Kd.V_reads' HO_7.out).2.1); (case side3 => exact cv HO895.out); (case side4 => exact (Kd.V_reads' HO895.out).2.1); rintro e w46 ⟨v897, rfl, ho0, hb⟩; refine ⟨_, rfl, ?_⟩; have n0_ := Aside0.mk (rb HO_6.out hb); have n1_ := Aside0.mk (vb HO_7.out hb); have n2_ := Aside0.mk (rb HO892.out hb); have n3_ := Aside0.mk (vb HO895.out hb); have n4_ := Aside0.mk (Kd.V_lower (Kd.V_mono (ok' := fun k_ => (w.heap.size ≤ k_) ∧ some k_ ≠ (.slice (some ⟨go35, 0, none⟩) x6_1.length co35 : Value).ownBlock ∧ some k_ ≠ (.slice Ao42 t890.length co42 : Value).ownBlock) ho0 (fun k_ hk_ => ⟨(Nat.le_trans (bz HB.out) hk_), (Kd.fresh' (Kd.R_lt HO_6.out) k_ hk_), (Kd.fresh' (Kd.R_lt HO892.out) k_ hk_)⟩)) (bz HB.out)); have n5_ := Aside0.mk (bs HB.out hb); clear HO_6; clear HO_7; clear HO892; clear HO895; clear HB; have HO_6 := n0_; have HO_7 := n1_; have HO892 := n2_; have HO895 := n3_; have HO898 := n4_; have HB := n5_; clear n0_ n1_ n2_ n3_ n4_ n5_; (try clear hb); (try clear hb2); (try clear hk); (try clear hi); (try clear ho0)))
       go_roundg k2
       case measure => have := HK1.out; have := HK2.out; omega
       case rel => exact ⟨(y889), (t896), (wrap64 (x8_1 - 1)), (by first | rfl | (simp; done) | (simp [*]; done)), H', ⟨by have := HK1.out; have := HK2.out; omega⟩, ⟨by (with_reducible repeat (first | apply Kd.R_alloc | apply Kd.R_drewN | apply Kd.R_drew)); exact Kd.R_mono HO_6.out (fun _ hk => hk.1)⟩, ⟨by (with_reducible repeat (first | apply Kd.V_alloc | apply Kd.V_drewN | apply Kd.V_drew)); exact Kd.V_mono HO898.out (fun _ hk => ⟨hk.1, hk.2.1⟩)⟩, ⟨by repeat (first | (with_reducible first | exact HB.out | apply below_alloc | apply pw_below_drewN | apply below_drew1) | exact HB.out)⟩⟩
   ·rw [if_neg c7] at H
    have c7b0 : decide (0 ≤ x8_1) = false := decide_eq_false c7
    clear c7
    replace H := Option.bind_eq_some_iff.mp H
    obtain ⟨t876, A470, H⟩ := H
    (try dsimp only at H)
    have A47 := Aside0.mk A470
    clear A470
    simp only [Option.some.injEq, Prod.mk.injEq] at H
    obtain ⟨rfl, rfl⟩ := H
    obtain ⟨Ao48, co48, eo48⟩ := Kd.R_slice HO_6.out
    subst eo48
    go_wp2_with (first | ((with_reducible refine gate_callee (f := 52) rfl ?_); refine goesL_ (some 71) rfl rfl Try.func52 (by kernel_rfl) rfl #[.slice Ao48 x6_1.length co48] rfl (by (try simp only [List.map_toArray, List.map_cons, List.map_nil]); first | done | rfl | (simp only [List.length_drop, List.length_take]; rfl)) ?_; (with_reducible refine (chattelref01_Trim.calls k1 (fun k_ => some k_ = (.slice Ao48 x6_1.length co48 : Value).ownBlock) _ _ x6_1 t876 _ ?side1 A47.out).mono ?_); (case side1 => exact Kd.R_V (Kd.R_tight rfl (HO_6.out))); rintro e w49 ⟨v877, rfl, ho0, hb⟩; refine ⟨_, rfl, ?_⟩; have n0_ := Aside0.mk (rb HO_6.out hb); have n1_ := Aside0.mk (vb HO_7.out hb); have n2_ := Aside0.mk (Kd.V_lower (Kd.V_mono (ok' := fun k_ => (w.heap.size ≤ k_)) ho0 (fun k_ hk_ => Or.elim hk_ (fun hs_ => ((HO_6.out).1 k_ hs_.symm)) (fun hn_ => (Nat.le_trans (bz HB.out) hn_)))) (bz HB.out)); have n3_ := Aside0.mk (bs HB.out hb); clear HO_6; clear HO_7; clear HB; have HO_6 := n0_; have HO_7 := n1_; have HO878 := n2_; have HB := n3_; clear n0_ n1_ n2_ n3_; (try clear hb); (try clear hb2); (try clear hk); (try clear hi); (try clear ho0)))
    go_ret2
    exact ⟨_, _, by first | rfl | (simp [errW_none, errW_some] <;> rfl) | (simp [*, errW_none, errW_some] <;> rfl), by (with_reducible repeat (first | apply Kd.V_alloc | apply Kd.V_drewN | apply Kd.V_drew)); exact HO878.out, by (with_reducible repeat (first | apply Kd.V_alloc | apply Kd.V_drewN | apply Kd.V_drew)); exact Kd.V_mono HO_7.out (fun _ hk => hk.1), by repeat (first | (with_reducible first | exact HB.out | apply below_alloc | apply pw_below_drewN | apply below_drew1) | exact HB.out)⟩
end Go.Proofs.Ytebjbmgfbejapaa.F
end

section
namespace Go.Proofs.Ytebjbmgfbejapaa.F
open Go.RowKit Go.Proofs.YtebjbmgfbejapaaW.PrintWords Go.Proofs.YtebjbmgfbejapaaW.PrintLast Go.Proofs.YtebjbmgfbejapaaW.PrintMore Go.Proofs.YtebjbmgfbejapaaX
attribute [local go_sem] max2_int cell_some xrun_add64 xrun_sub64
attribute [local go_sem] max2_int min2_int max_two min_two max_three min_three max_four min_four
set_option linter.unusedVariables false
set_option linter.unusedSimpArgs false
def slices_Equal_int_int.l0 : Nat → List Int → List Int → Int → Int → Option (Bool)
  | 0, _, _, _, _ => none
  | k + 1, x0, x1, x12, x13 => if x13 < x12 then (if 0 ≤ x13 then (if x13 < (x0.length : Int) then (if x13 < (x1.length : Int) then (if (rd x0 x13) = (rd x1 x13) then (slices_Equal_int_int.l0 k x0 x1 x12 (wrap64 (x13 + 1))) else (some false)) else (none)) else (none)) else (none)) else (some true)
def slices_Equal_int_int.f (k : Nat) (l0 : List Int) (l1 : List Int) : Option (Bool) := if (l0.length : Int) = (l1.length : Int) then (slices_Equal_int_int.l0 k l0 l1 (l0.length : Int) 0) else (some false)
set_option maxHeartbeats 8000000 in
set_option maxRecDepth 100000 in
theorem slices_Equal_int_int.calls (k : Nat) (A0 : Option Addr) (c0 : Nat) (l0 : List Int) (A1 : Option Addr) (c1 : Nat) (l1 : List Int) (r : Bool) (w : World) (hr0 : Kd.C (Kd.int .i64) w A0 l0.length l0) (hc0 : l0.length ≤ c0) (hr1 : Kd.C (Kd.int .i64) w A1 l1.length l1) (hc1 : l1.length ≤ c1) (h : slices_Equal_int_int.f k l0 l1 = some r) :
    Calls Try.prog 53 #[.slice A0 l0.length c0, .slice A1 l1.length c1] w fun e w' => e = .returned (.bool r) ∧ Drawn0 w w' := by
  have HR0 := Aside0.mk hr0
  have HC0 := Aside0.mk hc0
  clear hr0 hc0
  have HR1 := Aside0.mk hr1
  have HC1 := Aside0.mk hc1
  clear hr1 hc1
  have H : (if (l0.length : Int) = (l1.length : Int) then (slices_Equal_int_int.l0 k l0 l1 (l0.length : Int) 0) else (some false)) = some r := h
  clear h
  by_cases c3 : (l0.length : Int) = (l1.length : Int)
  · rw [if_pos c3] at H
    have c3b0 : ((l0.length : Int) == (l1.length : Int)) = true := beq_iff_eq.mpr c3
    have c3b1 : ((l0.length : Int) != (l1.length : Int)) = false := bne_eq_false_iff_eq.mpr c3
    have c3b2 : (l0.length == l1.length) = true := by first | simpa using c3 | (simp at c3 ⊢; omega)
    clear c3
    have H' := Aside0.mk H
    clear H
    go_enter Try.func53, Try.ntmps53
    go_wp2
    repeat (go_quiet (fail); try go_wp2)
    go_loopg [13] k (fun kq v13 w' => ∃ (x13_1 : Int), v13 = .int .i64 x13_1 ∧ Aside0 (slices_Equal_int_int.l0 kq l0 l1 (l0.length : Int) x13_1 = some r) ∧ Aside0 (kq ≤ k) ∧ Drawn0 w w')
    case atStart => exact ⟨(0), (by first | rfl | (simp; done) | (simp [*]; done)), H', ⟨Nat.le_refl _⟩, by repeat (first | exact Drawn0.refl _ | apply Drawn0.step)⟩
    case round =>
      clear H'
      try clear c1
      try clear p2
      try clear c3
      try clear c3b0
      try clear c3b1
      try clear c3b2
      obtain ⟨x13_1, rfl, HA, HK1, ⟨m1, rfl⟩⟩ := hrel
      cases gk with
      | zero => exact absurd HA.out (by simp [slices_Equal_int_int.l0])
      | succ k1 =>
        have H := HA.out
        clear HA
        simp only [slices_Equal_int_int.l0] at H
        by_cases c4 : x13_1 < (l0.length : Int)
        · rw [if_pos c4] at H
          have c4b0 : decide (x13_1 < (l0.length : Int)) = true := decide_eq_true c4
          clear c4
          by_cases c5 : 0 ≤ x13_1
          rotate_left
          · rw [if_neg c5] at H
            exact absurd H (by simp)
          rw [if_pos c5] at H
          have c5b0 : decide (0 ≤ x13_1) = true := decide_eq_true c5
          clear c5
          by_cases c6 : x13_1 < (l0.length : Int)
          rotate_left
          · rw [if_neg c6] at H
            exact absurd H (by simp)
          rw [if_pos c6] at H
          have c6b0 : decide (x13_1 < (l0.length : Int)) = true := decide_eq_true c6
          clear c6
          by_cases c7 : x13_1 < (l1.length : Int)
          rotate_left
          · rw [if_neg c7] at H
            exact absurd H (by simp)
          rw [if_pos c7] at H
          have c7b0 : decide (x13_1 < (l1.length : Int)) = true := decide_eq_true c7
          clear c7
          by_cases c8 : (rd l0 x13_1) = (rd l1 x13_1)
          · rw [if_pos c8] at H
            have c8b0 : ((rd l0 x13_1) == (rd l1 x13_1)) = true := beq_iff_eq.mpr c8
            have c8b1 : ((rd l0 x13_1) != (rd l1 x13_1)) = false := bne_eq_false_iff_eq.mpr c8
            clear c8
            have H' := Aside0.mk H
            clear H
            have p399 : 0 ≤ (x13_1 : Int) := of_decide_eq_true (by first | (with_reducible assumption) | assumption)
            have q399 : x13_1 < (l0.length : Int) := of_decide_eq_true (by first | (with_reducible assumption) | assumption)
            obtain ⟨ad399, e399, hx399_0⟩ := Kd.at_int HR0.out x13_1 p399 q399
            cases e399
            replace p399 := eq_true p399
            replace q399 := eq_true q399
            have p400 : 0 ≤ (x13_1 : Int) := of_decide_eq_true (by first | (with_reducible assumption) | assumption)
            have q400 : x13_1 < (l1.length : Int) := of_decide_eq_true (by first | (with_reducible assumption) | assumption)
            obtain ⟨ad400, e400, hx400_0⟩ := Kd.at_int HR1.out x13_1 p400 q400
            cases e400
            replace p400 := eq_true p400
            replace q400 := eq_true q400
            go_wp2
            repeat (go_quiet (fail); try go_wp2)
            go_roundg k1
            case measure => have := HK1.out; omega
            case rel => exact ⟨(wrap64 (x13_1 + 1)), (by first | rfl | (simp; done) | (simp [*]; done)), H', ⟨by have := HK1.out; omega⟩, by repeat (first | exact Drawn0.refl _ | apply Drawn0.step)⟩
          · rw [if_neg c8] at H
            have c8b0 : ((rd l0 x13_1) == (rd l1 x13_1)) = false := beq_eq_false_iff_ne.mpr c8
            have c8b1 : ((rd l0 x13_1) != (rd l1 x13_1)) = true := bne_iff_ne.mpr c8
            obtain rfl := Option.some.inj H
            have p399 : 0 ≤ (x13_1 : Int) := of_decide_eq_true (by first | (with_reducible assumption) | assumption)
            have q399 : x13_1 < (l0.length : Int) := of_decide_eq_true (by first | (with_reducible assumption) | assumption)
            obtain ⟨ad399, e399, hx399_0⟩ := Kd.at_int HR0.out x13_1 p399 q399
            cases e399
            replace p399 := eq_true p399
            replace q399 := eq_true q399
            have p400 : 0 ≤ (x13_1 : Int) := of_decide_eq_true (by first | (with_reducible assumption) | assumption)
            have q400 : x13_1 < (l1.length : Int) := of_decide_eq_true (by first | (with_reducible assumption) | assumption)
            obtain ⟨ad400, e400, hx400_0⟩ := Kd.at_int HR1.out x13_1 p400 q400
            cases e400
            replace p400 := eq_true p400
            replace q400 := eq_true q400
            go_wp2
            repeat (go_quiet (fail); try go_wp2)
            go_ret
            exact ⟨by first | rfl | (simp; done) | (simp [*]; done), by repeat (first | exact Drawn0.refl _ | apply Drawn0.step)⟩
        · rw [if_neg c4] at H
          have c4b0 : decide (x13_1 < (l0.length : Int)) = false := decide_eq_false c4
          clear c4
          obtain rfl := Option.some.inj H
          go_wp2
          repeat (go_quiet (fail); try go_wp2)
          go_ret
          exact ⟨by first | rfl | (simp; done) | (simp [*]; done), by repeat (first | exact Drawn0.refl _ | apply Drawn0.step)⟩
  · rw [if_neg c3] at H
    have c3b0 : ((l0.length : Int) == (l1.length : Int)) = false := beq_eq_false_iff_ne.mpr c3
    have c3b1 : ((l0.length : Int) != (l1.length : Int)) = true := bne_iff_ne.mpr c3
    have c3b2 : (l0.length == l1.length) = false := by first | simpa using c3 | (simp at c3 ⊢; omega)
    obtain rfl := Option.some.inj H
    go_enter Try.func53, Try.ntmps53
    go_wp2
    repeat (go_quiet (fail); try go_wp2)
    go_ret
    exact ⟨by first | rfl | (simp; done) | (simp [*]; done), by repeat (first | exact Drawn0.refl _ | apply Drawn0.step)⟩
def chattellaw02_same.f (k : Nat) (l0_0 : List Int) (l1 : List Int) : Option (Bool) := (nat_Nat_Limbs.f l0_0).bind fun t907 => ((chattelref01_Of.f k t907).bind fun t910 => ((slices_Equal_int_int.f k t910 l1).bind fun t913 => (some t913)))
set_option maxHeartbeats 8000000 in
set_option maxRecDepth 100000 in
theorem chattellaw02_same.calls (k : Nat) (A0_0 : Option Addr) (c0_0 : Nat) (l0_0 : List Int) (A1 : Option Addr) (c1 : Nat) (l1 : List Int) (r : Bool) (w : World) (hr0_0 : Kd.C (Kd.int .u64) w A0_0 l0_0.length l0_0) (hc0_0 : l0_0.length ≤ c0_0) (hr1 : Kd.C (Kd.int .i64) w A1 l1.length l1) (hc1 : l1.length ≤ c1) (h : chattellaw02_same.f k l0_0 l1 = some r) :
    Calls Try.prog 36 #[.agg #[.slice A0_0 l0_0.length c0_0], .slice A1 l1.length c1] w fun e w' => e = .returned (.bool r) ∧ Below w.heap.size w w' := by
  have hu25 := Try.underlying25
  have HR0_0 := Aside0.mk hr0_0
  have HC0_0 := Aside0.mk hc0_0
  clear hr0_0 hc0_0
  have HR1 := Aside0.mk hr1
  have HC1 := Aside0.mk hc1
  clear hr1 hc1
  have HB := Aside0.mk (Below.refl w.heap.size w)
  have H : ((nat_Nat_Limbs.f l0_0).bind fun t907 => ((chattelref01_Of.f k t907).bind fun t910 => ((slices_Equal_int_int.f k t910 l1).bind fun t913 => (some t913)))) = some r := h
  clear h
  replace H := Option.bind_eq_some_iff.mp H
  obtain ⟨t907, A30, H⟩ := H
  replace H : ((chattelref01_Of.f k t907).bind fun t910 => ((slices_Equal_int_int.f k t910 l1).bind fun t913 => (some t913))) = some r := H
  have A3 := Aside0.mk A30
  clear A30
  replace H := Option.bind_eq_some_iff.mp H
  obtain ⟨t910, A40, H⟩ := H
  replace H : ((slices_Equal_int_int.f k t910 l1).bind fun t913 => (some t913)) = some r := H
  have A4 := Aside0.mk A40
  clear A40
  replace H := Option.bind_eq_some_iff.mp H
  obtain ⟨t913, A50, H⟩ := H
  replace H : (some t913) = some r := H
  have A5 := Aside0.mk A50
  clear A50
  obtain rfl := Option.some.inj H
  go_enter Try.func36, Try.ntmps36
  go_wp2_with (first | ((with_reducible refine gate_dst (N := 2) rfl ?_); refine box_event ?hg (N := 2) ?hd (cs := #[.slice A0_0 l0_0.length c0_0]) (t := 25) ?hr ?_; (case hd => rfl); (case hg => rfl); (case hr => first | (go_simp; done) | (go_simp; rfl)); intro gb906 hg w6 hbox hb; have n0_ := Aside0.mk (below_step (by repeat (first | (with_reducible first | exact HB.out | apply below_alloc | apply pw_below_drewN | apply below_drew1) | exact HB.out)) hb); have n1_ := Aside0.mk (hbox); have n2_ := Aside0.mk ((by rw [hg]; exact (below_size (by repeat (first | (with_reducible first | exact HB.out | apply below_alloc | apply pw_below_drewN | apply below_drew1) | exact HB.out))) : w.heap.size ≤ gb906)); have n3_ := Aside0.mk ((by rw [hg]; exact (below_size (by repeat (first | (with_reducible first | exact HB.out | apply below_alloc | apply pw_below_drewN | apply below_drew1) | exact HB.out))) : w.heap.size ≤ gb906)); clear HB; have HB := n0_; have BK906 := n1_; have GW906 := n2_; have GE906 := n3_; clear n0_ n1_ n2_ n3_; clear hb hbox hg; have hcz7_0 : w6.cell? ⟨gb906, 0, none⟩ = some (.slice A0_0 l0_0.length c0_0) := (blk_cell BK906.out 0).trans rfl; have hfz7_0 := blk_frozen BK906.out 0) | ((with_reducible refine gate_callee (f := 16) rfl ?_); refine goesL_ (some 6) rfl rfl Try.func16 (by kernel_rfl) rfl #[.agg #[.slice A0_0 l0_0.length c0_0]] rfl (by (try simp only [List.map_toArray, List.map_cons, List.map_nil]); first | done | rfl | (simp only [List.length_drop, List.length_take]; rfl)) ?_; (with_reducible refine (nat_Nat_Limbs.calls _ _ l0_0 t907 _ ?side1 ?side2 A3.out).mono ?_); (case side1 => repeat (first | exact (Kd.C_below HR0_0.out HB.out) | (with_reducible refine Kd.C_alloc ?_ _) | (with_reducible refine Kd.C_drewN ?_ _) | (with_reducible refine Kd.C_drew ?_))); (case side2 => exact HC0_0.out); rintro e w8 ⟨v908, rfl, ho0, hb⟩; refine ⟨_, rfl, ?_⟩; have HO909 := Aside0.mk (Kd.R_lower ho0 (bz HB.out)); replace BK906 := Aside0.mk (bb BK906.out hb); replace HB := Aside0.mk (bs HB.out hb); (try clear hb); (try clear hb2); (try clear hk); (try clear hi); (try clear ho0); obtain ⟨Ao9, co9, eo9⟩ := Kd.R_slice HO909.out; subst eo9) | ((with_reducible refine gate_callee (f := 23) rfl ?_); refine goesL_ (some 7) rfl rfl Try.func23 (by kernel_rfl) rfl #[.slice Ao9 t907.length co9] rfl (by (try simp only [List.map_toArray, List.map_cons, List.map_nil]); first | done | rfl | (simp only [List.length_drop, List.length_take]; rfl)) ?_; (with_reducible refine (chattelref01_Of.calls k _ _ t907 t910 _ ?side1 ?side2 A4.out).mono ?_); (case side1 => exact cr HO909.out); (case side2 => exact (Kd.R_reads' HO909.out).2.1); rintro e w10 ⟨v911, rfl, ho0, hb⟩; refine ⟨_, rfl, ?_⟩; have n0_ := Aside0.mk (rb HO909.out hb); have n1_ := Aside0.mk (Kd.V_lower (Kd.V_mono (ok' := fun k_ => some k_ ≠ (.slice Ao9 t907.length co9 : Value).ownBlock ∧ k_ ≠ gb906) ho0 (fun k_ hk_ => ⟨(Kd.fresh' (Kd.R_lt (by (with_reducible repeat (first | apply Kd.R_alloc | apply Kd.R_drewN | apply Kd.R_drew)); exact HO909.out)) k_ hk_), (fb BK906.out k_ hk_)⟩)) (bz HB.out)); have n2_ := Aside0.mk (bb BK906.out hb); have n3_ := Aside0.mk (bs HB.out hb); clear HO909; clear BK906; clear HB; have HO909 := n0_; have HO912 := n1_; have BK906 := n2_; have HB := n3_; clear n0_ n1_ n2_ n3_; (try clear hb); (try clear hb2); (try clear hk); (try clear hi); (try clear ho0); obtain ⟨Ao11, co11, eo11⟩ := Kd.V_slice HO912.out; subst eo11) | ((with_reducible refine gate_callee (f := 53) rfl ?_); refine goesL_ (some 9) rfl rfl Try.func53 (by kernel_rfl) rfl #[.slice Ao11 t910.length co11, .slice A1 l1.length c1] rfl (by (try simp only [List.map_toArray, List.map_cons, List.map_nil]); first | done | rfl | (simp only [List.length_drop, List.length_take]; rfl)) ?_; (with_reducible refine (slices_Equal_int_int.calls k _ _ t910 _ _ l1 t913 _ ?side1 ?side2 ?side3 ?side4 A5.out).mono ?_); (case side1 => exact cv HO912.out); (case side2 => exact (Kd.V_reads' HO912.out).2.1); (case side3 => repeat (first | exact (Kd.C_below HR1.out HB.out) | (with_reducible refine Kd.C_alloc ?_ _) | (with_reducible refine Kd.C_drewN ?_ _) | (with_reducible refine Kd.C_drew ?_))); (case side4 => exact HC1.out); rintro e w' ⟨rfl, ⟨nd, rfl⟩⟩; refine ⟨_, rfl, ?_⟩))
  go_ret
  exact ⟨by first | rfl | (simp [errW_none, errW_some] <;> rfl) | (simp [*, errW_none, errW_some] <;> rfl), by repeat (first | (with_reducible first | exact HB.out | apply below_alloc | apply pw_below_drewN | apply below_drew1 | refine below_set ?_ GE906.out) | exact HB.out)⟩
def chattellaw02_QuotDivides.f (k : Nat) (l0 : List Int) (l1 : List Int) : Option (Bool) := (chattellaw02_cut.f l0).bind fun t914 => ((nat_Of.f k t914).bind fun t917 => ((chattellaw02_cut.f l1).bind fun t920 => ((nat_Of.f k t920).bind fun t923 => ((quot_Div.f k t917 t923).bind fun bt926 => ((chattellaw02_cut.f l0).bind fun t935 => ((chattelref01_Of.f k t935).bind fun t938 => ((chattellaw02_cut.f l1).bind fun t941 => ((chattelref01_Of.f k t941).bind fun t944 => (if (t944.length : Int) = 0 then ((chattellaw02_wakes.f k).bind fun t947 => (if t947 = true then (if bt926.2.2 = 8 then ((nat_Nat_Zero.f bt926.1).bind fun t948 => (if t948 = true then ((nat_Nat_Zero.f bt926.2.1).bind fun t949 => (some t949)) else (some false))) else (some false)) else (some false))) else ((chattelref01_DivMod.f k t938 t944).bind fun bt950 => ((chattellaw02_wakes.f k).bind fun t956 => (if t956 = true then (if bt926.2.2 = 0 then ((chattellaw02_same.f k bt926.1 bt950.1).bind fun t957 => (if t957 = true then ((chattellaw02_same.f k bt926.2.1 bt950.2).bind fun t958 => (some t958)) else (some false))) else (some false)) else (some false)))))))))))))
set_option maxHeartbeats 8000000 in
set_option maxRecDepth 100000 in
theorem chattellaw02_QuotDivides.calls (k : Nat) (A0 : Option Addr) (c0 : Nat) (l0 : List Int) (A1 : Option Addr) (c1 : Nat) (l1 : List Int) (r : Bool) (w : World) (hr0 : Kd.C (Kd.int .u64) w A0 l0.length l0) (hc0 : l0.length ≤ c0) (hr1 : Kd.C (Kd.int .u64) w A1 l1.length l1) (hc1 : l1.length ≤ c1) (h : chattellaw02_QuotDivides.f k l0 l1 = some r) (ht_ : r = true) :
  Calls Try.prog 8 #[.slice A0 l0.length c0, .slice A1 l1.length c1] w fun e w' => e = .returned (.bool r) ∧ Below w.heap.size w w' := by
 have hu25 := Try.underlying25
 have HR0 := Aside0.mk hr0
 have HC0 := Aside0.mk hc0
 clear hr0 hc0
 have HR1 := Aside0.mk hr1
 have HC1 := Aside0.mk hc1
 clear hr1 hc1
 have HB := Aside0.mk (Below.refl w.heap.size w)
 have H : ((chattellaw02_cut.f l0).bind fun t914 => ((nat_Of.f k t914).bind fun t917 => ((chattellaw02_cut.f l1).bind fun t920 => ((nat_Of.f k t920).bind fun t923 => ((quot_Div.f k t917 t923).bind fun bt926 => ((chattellaw02_cut.f l0).bind fun t935 => ((chattelref01_Of.f k t935).bind fun t938 => ((chattellaw02_cut.f l1).bind fun t941 => ((chattelref01_Of.f k t941).bind fun t944 => (if (t944.length : Int) = 0 then ((chattellaw02_wakes.f k).bind fun t947 => (if t947 = true then (if bt926.2.2 = 8 then ((nat_Nat_Zero.f bt926.1).bind fun t948 => (if t948 = true then ((nat_Nat_Zero.f bt926.2.1).bind fun t949 => (some t949)) else (some false))) else (some false)) else (some false))) else ((chattelref01_DivMod.f k t938 t944).bind fun bt950 => ((chattellaw02_wakes.f k).bind fun t956 => (if t956 = true then (if bt926.2.2 = 0 then ((chattellaw02_same.f k bt926.1 bt950.1).bind fun t957 => (if t957 = true then ((chattellaw02_same.f k bt926.2.1 bt950.2).bind fun t958 => (some t958)) else (some false))) else (some false)) else (some false)))))))))))))) = some r := h
 clear h
 replace H := Option.bind_eq_some_iff.mp H
 obtain ⟨t914, A30, H⟩ := H
 (try dsimp only at H)
 have A3 := Aside0.mk A30
 clear A30
 replace H := Option.bind_eq_some_iff.mp H
 obtain ⟨t917, A40, H⟩ := H
 (try dsimp only at H)
 have A4 := Aside0.mk A40
 clear A40
 replace H := Option.bind_eq_some_iff.mp H
 obtain ⟨t920, A50, H⟩ := H
 (try dsimp only at H)
 have A5 := Aside0.mk A50
 clear A50
 replace H := Option.bind_eq_some_iff.mp H
 obtain ⟨t923, A60, H⟩ := H
 (try dsimp only at H)
 have A6 := Aside0.mk A60
 clear A60
 replace H := Option.bind_eq_some_iff.mp H
 obtain ⟨⟨t926, t929, t932⟩, A70, H⟩ := H
 (try dsimp only at H)
 have A7 := Aside0.mk A70
 clear A70
 replace H := Option.bind_eq_some_iff.mp H
 obtain ⟨t935, A80, H⟩ := H
 (try dsimp only at H)
 have A8 := Aside0.mk A80
 clear A80
 replace H := Option.bind_eq_some_iff.mp H
 obtain ⟨t938, A90, H⟩ := H
 (try dsimp only at H)
 have A9 := Aside0.mk A90
 clear A90
 replace H := Option.bind_eq_some_iff.mp H
 obtain ⟨t941, A100, H⟩ := H
 (try dsimp only at H)
 have A10 := Aside0.mk A100
 clear A100
 replace H := Option.bind_eq_some_iff.mp H
 obtain ⟨t944, A110, H⟩ := H
 (try dsimp only at H)
 have A11 := Aside0.mk A110
 clear A110
 by_cases c12 : (t944.length : Int) = 0
 ·rw [if_pos c12] at H
  have c12b0 : ((t944.length : Int) == 0) = true := beq_iff_eq.mpr c12
  have c12b1 : ((t944.length : Int) != 0) = false := bne_eq_false_iff_eq.mpr c12
  clear c12
  replace H := Option.bind_eq_some_iff.mp H
  obtain ⟨t947, A130, H⟩ := H
  (try dsimp only at H)
  have A13 := Aside0.mk A130
  clear A130
  by_cases c14 : t947 = true
  ·subst c14
   have H1 : (if t932 = 8 then ((nat_Nat_Zero.f t926).bind fun t948 => (if t948 = true then ((nat_Nat_Zero.f t929).bind fun t949 => (some t949)) else (some false))) else (some false)) = some r := by rw [if_pos rfl] at H; exact H
   clear H
   have H := H1
   clear H1
   by_cases c15 : t932 = 8
   rotate_left
   ·rw [if_neg c15] at H
    have c15b0 : (t932 == 8) = false := beq_eq_false_iff_ne.mpr c15
    have c15b1 : (t932 != 8) = true := bne_iff_ne.mpr c15
    exact absurd (Option.some.inj H) (by rw [ht_]; decide)
   rw [if_pos c15] at H
   have c15b0 : (t932 == 8) = true := beq_iff_eq.mpr c15
   have c15b1 : (t932 != 8) = false := bne_eq_false_iff_eq.mpr c15
   clear c15
   replace H := Option.bind_eq_some_iff.mp H
   obtain ⟨t948, A160, H⟩ := H
   (try dsimp only at H)
   have A16 := Aside0.mk A160
   clear A160
   by_cases c17 : t948 = true
   ·subst c17
    have H1 : ((nat_Nat_Zero.f t929).bind fun t949 => (some t949)) = some r := by rw [if_pos rfl] at H; exact H
    clear H
    have H := H1
    clear H1
    replace H := Option.bind_eq_some_iff.mp H
    obtain ⟨t949, A180, H⟩ := H
    (try dsimp only at H)
    have A18 := Aside0.mk A180
    clear A180
    obtain rfl := Option.some.inj H
    go_enter Try.func8, Try.ntmps8
    go_wp2_with (first | ((with_reducible refine gate_callee (f := 33) rfl ?_); refine goesL_ (some 14) rfl rfl Try.func33 (by kernel_rfl) rfl #[.slice A0 l0.length c0] rfl (by (try simp only [List.map_toArray, List.map_cons, List.map_nil]); first | done | rfl | (simp only [List.length_drop, List.length_take]; rfl)) ?_; (with_reducible refine (chattellaw02_cut.calls (fun k_ => k_ < w.heap.size) _ _ l0 t914 _ ?side1 A3.out).mono ?_); (case side1 => exact Kd.V_mk HC0.out (Kd.F_below (Kd.C_F (Kd.heap_int .u64) HR0.out) (by repeat (first | (with_reducible first | exact HB.out | apply below_alloc | apply pw_below_drewN | apply below_drew1) | exact HB.out)))); rintro e w19 ⟨v915, rfl, ho0, hb⟩; refine ⟨_, rfl, ?_⟩; have HO916 := Aside0.mk (Kd.V_lower (Kd.V_mono (ok' := fun k_ => True) ho0 (fun k_ hk_ => trivial)) (below_size (by repeat (first | (with_reducible first | exact HB.out | apply below_alloc | apply pw_below_drewN | apply below_drew1) | exact HB.out)))); replace HB := Aside0.mk (below_step (by repeat (first | (with_reducible first | exact HB.out | apply below_alloc | apply pw_below_drewN | apply below_drew1) | exact HB.out)) hb); (try clear hb); (try clear hb2); (try clear hk); (try clear hi); (try clear ho0); obtain ⟨Ao20, co20, eo20⟩ := Kd.V_slice HO916.out; subst eo20) | ((with_reducible refine gate_callee (f := 14) rfl ?_); refine goesL_ (some 15) rfl rfl Try.func14 (by kernel_rfl) rfl #[.slice Ao20 t914.length co20] rfl (by (try simp only [List.map_toArray, List.map_cons, List.map_nil]); first | done | rfl | (simp only [List.length_drop, List.length_take]; rfl)) ?_; (with_reducible refine (nat_Of.calls k _ _ t914 t917 _ ?side1 ?side2 A4.out).mono ?_); (case side1 => exact cv HO916.out); (case side2 => exact (Kd.V_reads' HO916.out).2.1); rintro e w21 ⟨v918, rfl, ho0, hb⟩; refine ⟨_, rfl, ?_⟩; replace HO916 := Aside0.mk (vb HO916.out hb); have HO919 := Aside0.mk (Kd.V_lower (Kd.V_mono (ok' := fun k_ => True) ho0 (fun k_ hk_ => trivial)) (bz HB.out)); replace HB := Aside0.mk (bs HB.out hb); (try clear hb); (try clear hb2); (try clear hk); (try clear hi); (try clear ho0)) | ((with_reducible refine gate_callee (f := 33) rfl ?_); refine goesL_ (some 17) rfl rfl Try.func33 (by kernel_rfl) rfl #[.slice A1 l1.length c1] rfl (by (try simp only [List.map_toArray, List.map_cons, List.map_nil]); first | done | rfl | (simp only [List.length_drop, List.length_take]; rfl)) ?_; (with_reducible refine (chattellaw02_cut.calls (fun k_ => k_ < w.heap.size) _ _ l1 t920 _ ?side1 A5.out).mono ?_); (case side1 => exact Kd.V_mk HC1.out (Kd.F_below (Kd.C_F (Kd.heap_int .u64) HR1.out) (by repeat (first | (with_reducible first | exact HB.out | apply below_alloc | apply pw_below_drewN | apply below_drew1) | exact HB.out)))); rintro e w22 ⟨v921, rfl, ho0, hb⟩; refine ⟨_, rfl, ?_⟩; replace HO916 := Aside0.mk (vb HO916.out hb); replace HO919 := Aside0.mk (vb HO919.out hb); have HO922 := Aside0.mk (Kd.V_lower (Kd.V_mono (ok' := fun k_ => True) ho0 (fun k_ hk_ => trivial)) (bz HB.out)); replace HB := Aside0.mk (bs HB.out hb); (try clear hb); (try clear hb2); (try clear hk); (try clear hi); (try clear ho0); obtain ⟨Ao23, co23, eo23⟩ := Kd.V_slice HO922.out; subst eo23) | ((with_reducible refine gate_callee (f := 14) rfl ?_); refine goesL_ (some 18) rfl rfl Try.func14 (by kernel_rfl) rfl #[.slice Ao23 t920.length co23] rfl (by (try simp only [List.map_toArray, List.map_cons, List.map_nil]); first | done | rfl | (simp only [List.length_drop, List.length_take]; rfl)) ?_; (with_reducible refine (nat_Of.calls k _ _ t920 t923 _ ?side1 ?side2 A6.out).mono ?_); (case side1 => exact cv HO922.out); (case side2 => exact (Kd.V_reads' HO922.out).2.1); rintro e w24 ⟨v924, rfl, ho0, hb⟩; refine ⟨_, rfl, ?_⟩; replace HO916 := Aside0.mk (vb HO916.out hb); replace HO919 := Aside0.mk (vb HO919.out hb); replace HO922 := Aside0.mk (vb HO922.out hb); have HO925 := Aside0.mk (Kd.V_lower (Kd.V_mono (ok' := fun k_ => True) ho0 (fun k_ hk_ => trivial)) (bz HB.out)); replace HB := Aside0.mk (bs HB.out hb); (try clear hb); (try clear hb2); (try clear hk); (try clear hi); (try clear ho0); obtain ⟨Ao25, co25, eo25⟩ := Kd.V_slice HO919.out; subst eo25; obtain ⟨Ao26, co26, eo26⟩ := Kd.V_slice HO925.out; subst eo26) | ((with_reducible refine gate_callee (f := 32) rfl ?_); refine goesL_ (some 19) rfl rfl Try.func32 (by kernel_rfl) rfl #[.agg #[.slice Ao25 t917.length co25], .agg #[.slice Ao26 t923.length co26]] rfl (by (try simp only [List.map_toArray, List.map_cons, List.map_nil]); first | done | rfl | (simp only [List.length_drop, List.length_take]; rfl)) ?_; (with_reducible refine (quot_Div.calls k (fun k_ => True) _ _ t917 _ _ t923 t926 t929 t932 _ ?side1 ?side2 ?side3 A7.out).mono ?_); (case side1 => exact HO919.out); (case side2 => exact cv HO925.out); (case side3 => exact (Kd.V_reads' HO925.out).2.1); rintro e w27 ⟨v927, v930, rfl, ho0, ho1, hb⟩; refine ⟨_, rfl, ?_⟩; replace HO916 := Aside0.mk (vb HO916.out hb); replace HO919 := Aside0.mk (vb HO919.out hb); replace HO922 := Aside0.mk (vb HO922.out hb); replace HO925 := Aside0.mk (vb HO925.out hb); have HO928 := Aside0.mk (Kd.V_lower (Kd.V_mono (ok' := fun k_ => True) ho0 (fun k_ hk_ => trivial)) (bz HB.out)); have HO931 := Aside0.mk (Kd.V_lower (Kd.V_mono (ok' := fun k_ => True) ho1 (fun k_ hk_ => trivial)) (bz HB.out)); replace HB := Aside0.mk (bs HB.out hb); (try clear hb); (try clear hb2); (try clear hk); (try clear hi); (try clear ho0); (try clear ho1)) | ((with_reducible refine gate_dst (N := 5) rfl ?_); refine box_event ?hg (N := 5) ?hd (cs := #[.slice none 0 0]) (t := 25) ?hr ?_; (case hd => rfl); (case hg => rfl); (case hr => first | (go_simp; done) | (go_simp; rfl)); intro gb933 hg w28 hbox hb; have n0_ := Aside0.mk (Kd.V_below (Kd.V_elderB HO916.out gb933 (Nat.le_of_eq hg.symm)) hb); have n1_ := Aside0.mk (Kd.V_below (Kd.V_elderB HO919.out gb933 (Nat.le_of_eq hg.symm)) hb); have n2_ := Aside0.mk (Kd.V_below (Kd.V_elderB HO922.out gb933 (Nat.le_of_eq hg.symm)) hb); have n3_ := Aside0.mk (Kd.V_below (Kd.V_elderB HO925.out gb933 (Nat.le_of_eq hg.symm)) hb); have n4_ := Aside0.mk (Kd.V_below (Kd.V_elderB HO928.out gb933 (Nat.le_of_eq hg.symm)) hb); have n5_ := Aside0.mk (Kd.V_below (Kd.V_elderB HO931.out gb933 (Nat.le_of_eq hg.symm)) hb); have n6_ := Aside0.mk (below_step (by repeat (first | (with_reducible first | exact HB.out | apply below_alloc | apply pw_below_drewN | apply below_drew1) | exact HB.out)) hb); have n7_ := Aside0.mk (hbox); have n8_ := Aside0.mk ((by rw [hg]; exact (below_size (by repeat (first | (with_reducible first | exact HB.out | apply below_alloc | apply pw_below_drewN | apply below_drew1) | exact HB.out))) : w.heap.size ≤ gb933)); have n9_ := Aside0.mk ((by rw [hg]; exact (below_size (by repeat (first | (with_reducible first | exact HB.out | apply below_alloc | apply pw_below_drewN | apply below_drew1) | exact HB.out))) : w.heap.size ≤ gb933)); clear HO916; clear HO919; clear HO922; clear HO925; clear HO928; clear HO931; clear HB; have HO916 := n0_; have HO919 := n1_; have HO922 := n2_; have HO925 := n3_; have HO928 := n4_; have HO931 := n5_; have HB := n6_; have BK933 := n7_; have GW933 := n8_; have GE933 := n9_; clear n0_ n1_ n2_ n3_ n4_ n5_ n6_ n7_ n8_ n9_; clear hb hbox hg) | ((with_reducible refine gate_dst (N := 6) rfl ?_); refine box_event ?hg (N := 6) ?hd (cs := #[.slice none 0 0]) (t := 25) ?hr ?_; (case hd => rfl); (case hg => rfl); (case hr => first | (go_simp; done) | (go_simp; rfl)); intro gb934 hg w29 hbox hb; have n0_ := Aside0.mk (Kd.V_below (Kd.V_elderB HO916.out gb934 (Nat.le_of_eq hg.symm)) hb); have n1_ := Aside0.mk (Kd.V_below (Kd.V_elderB HO919.out gb934 (Nat.le_of_eq hg.symm)) hb); have n2_ := Aside0.mk (Kd.V_below (Kd.V_elderB HO922.out gb934 (Nat.le_of_eq hg.symm)) hb); have n3_ := Aside0.mk (Kd.V_below (Kd.V_elderB HO925.out gb934 (Nat.le_of_eq hg.symm)) hb); have n4_ := Aside0.mk (Kd.V_below (Kd.V_elderB HO928.out gb934 (Nat.le_of_eq hg.symm)) hb); have n5_ := Aside0.mk (Kd.V_below (Kd.V_elderB HO931.out gb934 (Nat.le_of_eq hg.symm)) hb); have n6_ := Aside0.mk (bb BK933.out hb); have n7_ := Aside0.mk (bs HB.out hb); have n8_ := Aside0.mk (hbox); have n9_ := Aside0.mk ((by rw [hg]; exact (bz HB.out) : w.heap.size ≤ gb934)); have n10_ := Aside0.mk ((by rw [hg]; exact (bz HB.out) : w.heap.size ≤ gb934)); have n11_ := Aside0.mk ((by rw [hg]; exact Nat.ne_of_lt (blk_lt (g := gb933) (o := .cells #[.slice none 0 0] 25 (0, 0)) BK933.out) : gb933 ≠ gb934)); have n12_ := Aside0.mk ((by rw [hg]; exact Nat.ne_of_gt (blk_lt (g := gb933) (o := .cells #[.slice none 0 0] 25 (0, 0)) BK933.out) : gb934 ≠ gb933)); clear HO916; clear HO919; clear HO922; clear HO925; clear HO928; clear HO931; clear BK933; clear HB; have HO916 := n0_; have HO919 := n1_; have HO922 := n2_; have HO925 := n3_; have HO928 := n4_; have HO931 := n5_; have BK933 := n6_; have HB := n7_; have BK934 := n8_; have GW934 := n9_; have GE934 := n10_; have NB933_934 := n11_; have NB934_933 := n12_; clear n0_ n1_ n2_ n3_ n4_ n5_ n6_ n7_ n8_ n9_ n10_ n11_ n12_; clear hb hbox hg; obtain ⟨Ao30, co30, eo30⟩ := Kd.V_slice HO928.out; subst eo30; have hnb31 := NB933_934.out; have hnc31 := NB934_933.out; have hcz32_0 : w29.cell? ⟨gb933, 0, none⟩ = some (.slice none 0 0) := (blk_cell BK933.out 0).trans rfl; have hfz32_0 := blk_frozen BK933.out 0) | ((with_reducible refine gate_store (t := 25) (p := 5) rfl ?_); refine store_event (t := 25) (p := 5) (v := ?vo_w33) (w1 := (w29.setCell ⟨gb933, 0, none⟩ (.slice Ao30 t926.length co30))) ?hg ?ho ?hn ?hr ?_; (case ho => rfl); (case hg => rfl); (case hn => rfl); (case hr => first | (go_simp; done) | (go_simp; rfl)); intro w33 hw; have n0_ : Aside0 (Kd.V (Kd.int .u64) 27 w33 w.heap.size (fun k_ => k_ ≠ gb933 ∧ k_ ≠ gb934) (.slice Ao20 t914.length co20) t914) := ⟨(by rw [hw]; exact (by (with_reducible repeat (first | apply Kd.V_alloc | apply Kd.V_drewN | apply Kd.V_drew)); exact Kd.V_mono (Kd.V_far (p := ⟨gb933, 0, none⟩) (Kd.V_mono HO916.out (fun k_ hk => (⟨hk, hk.1.2⟩ : _ ∧ k_ ≠ gb933))) (fun _ hk => hk.2) (.slice Ao30 t926.length co30)) (fun _ hk => ⟨hk.1.1.2, hk.1.2⟩)))⟩; have n1_ : Aside0 (Kd.V (Kd.int .u64) 27 w33 w.heap.size (fun k_ => k_ ≠ gb933 ∧ k_ ≠ gb934) (.slice Ao25 t917.length co25) t917) := ⟨(by rw [hw]; exact (by (with_reducible repeat (first | apply Kd.V_alloc | apply Kd.V_drewN | apply Kd.V_drew)); exact Kd.V_mono (Kd.V_far (p := ⟨gb933, 0, none⟩) (Kd.V_mono HO919.out (fun k_ hk => (⟨hk, hk.1.2⟩ : _ ∧ k_ ≠ gb933))) (fun _ hk => hk.2) (.slice Ao30 t926.length co30)) (fun _ hk => ⟨hk.1.1.2, hk.1.2⟩)))⟩; have n2_ : Aside0 (Kd.V (Kd.int .u64) 27 w33 w.heap.size (fun k_ => k_ ≠ gb933 ∧ k_ ≠ gb934) (.slice Ao23 t920.length co23) t920) := ⟨(by rw [hw]; exact (by (with_reducible repeat (first | apply Kd.V_alloc | apply Kd.V_drewN | apply Kd.V_drew)); exact Kd.V_mono (Kd.V_far (p := ⟨gb933, 0, none⟩) (Kd.V_mono HO922.out (fun k_ hk => (⟨hk, hk.1.2⟩ : _ ∧ k_ ≠ gb933))) (fun _ hk => hk.2) (.slice Ao30 t926.length co30)) (fun _ hk => ⟨hk.1.1.2, hk.1.2⟩)))⟩; have n3_ : Aside0 (Kd.V (Kd.int .u64) 27 w33 w.heap.size (fun k_ => k_ ≠ gb933 ∧ k_ ≠ gb934) (.slice Ao26 t923.length co26) t923) := ⟨(by rw [hw]; exact (by (with_reducible repeat (first | apply Kd.V_alloc | apply Kd.V_drewN | apply Kd.V_drew)); exact Kd.V_mono (Kd.V_far (p := ⟨gb933, 0, none⟩) (Kd.V_mono HO925.out (fun k_ hk => (⟨hk, hk.1.2⟩ : _ ∧ k_ ≠ gb933))) (fun _ hk => hk.2) (.slice Ao30 t926.length co30)) (fun _ hk => ⟨hk.1.1.2, hk.1.2⟩)))⟩; have n4_ : Aside0 (Kd.V (Kd.int .u64) 27 w33 w.heap.size (fun k_ => k_ ≠ gb933 ∧ k_ ≠ gb934) (.slice Ao30 t926.length co30) t926) := ⟨(by rw [hw]; exact (by (with_reducible repeat (first | apply Kd.V_alloc | apply Kd.V_drewN | apply Kd.V_drew)); exact Kd.V_mono (Kd.V_far (p := ⟨gb933, 0, none⟩) (Kd.V_mono HO928.out (fun k_ hk => (⟨hk, hk.1.2⟩ : _ ∧ k_ ≠ gb933))) (fun _ hk => hk.2) (.slice Ao30 t926.length co30)) (fun _ hk => ⟨hk.1.1.2, hk.1.2⟩)))⟩; have n5_ : Aside0 (Kd.V (Kd.int .u64) 27 w33 w.heap.size (fun k_ => k_ ≠ gb933 ∧ k_ ≠ gb934) v930 t929) := ⟨(by rw [hw]; exact (by (with_reducible repeat (first | apply Kd.V_alloc | apply Kd.V_drewN | apply Kd.V_drew)); exact Kd.V_mono (Kd.V_far (p := ⟨gb933, 0, none⟩) (Kd.V_mono HO931.out (fun k_ hk => (⟨hk, hk.1.2⟩ : _ ∧ k_ ≠ gb933))) (fun _ hk => hk.2) (.slice Ao30 t926.length co30)) (fun _ hk => ⟨hk.1.1.2, hk.1.2⟩)))⟩; have n6_ : Aside0 (w33.heap[gb933]? = some (.cells #[.slice Ao30 t926.length co30] 25 (0, 0))) := ⟨(by rw [hw]; exact (by (with_reducible repeat (first | refine blk_drewN ?_ _ | refine blk_drew ?_ | refine blk_alloc ?_ _)); refine blk_put (cs := #[.slice none 0 0]) ?_ 0 _ rfl; (with_reducible repeat (first | refine blk_drewN ?_ _ | refine blk_drew ?_ | refine blk_alloc ?_ _)); exact BK933.out))⟩; have n7_ : Aside0 (w33.heap[gb934]? = some (.cells #[.slice none 0 0] 25 (0, 0))) := ⟨(by rw [hw]; exact (by (with_reducible repeat (first | refine blk_drewN ?_ _ | refine blk_drew ?_ | refine blk_alloc ?_ _)); refine blk_far ?_ NB934_933.out _; (with_reducible repeat (first | refine blk_drewN ?_ _ | refine blk_drew ?_ | refine blk_alloc ?_ _)); exact BK934.out))⟩; have n8_ : Aside0 (Below w.heap.size w w33) := ⟨(by rw [hw]; exact (by repeat (first | (with_reducible first | exact HB.out | apply below_alloc | apply pw_below_drewN | apply below_drew1 | refine below_set ?_ GE933.out | refine below_set ?_ GE934.out) | exact HB.out)))⟩; clear hw; clear HO916; clear HO919; clear HO922; clear HO925; clear HO928; clear HO931; clear BK933; clear BK934; clear HB; have HO916 := n0_; have HO919 := n1_; have HO922 := n2_; have HO925 := n3_; have HO928 := n4_; have HO931 := n5_; have BK933 := n6_; have BK934 := n7_; have HB := n8_; clear n0_ n1_ n2_ n3_ n4_ n5_ n6_ n7_ n8_; obtain ⟨Ao34, co34, eo34⟩ := Kd.V_slice HO931.out; subst eo34; have hcz35_0 : w33.cell? ⟨gb934, 0, none⟩ = some (.slice none 0 0) := (blk_cell BK934.out 0).trans rfl; have hfz35_0 := blk_frozen BK934.out 0) | ((with_reducible refine gate_store (t := 25) (p := 6) rfl ?_); refine store_event (t := 25) (p := 6) (v := ?vo_w36) (w1 := (w33.setCell ⟨gb934, 0, none⟩ (.slice Ao34 t929.length co34))) ?hg ?ho ?hn ?hr ?_; (case ho => rfl); (case hg => rfl); (case hn => rfl); (case hr => first | (go_simp; done) | (go_simp; rfl)); intro w36 hw; have n0_ : Aside0 (Kd.V (Kd.int .u64) 27 w36 w.heap.size (fun k_ => k_ ≠ gb933 ∧ k_ ≠ gb934) (.slice Ao20 t914.length co20) t914) := ⟨(by rw [hw]; exact (by (with_reducible repeat (first | apply Kd.V_alloc | apply Kd.V_drewN | apply Kd.V_drew)); exact Kd.V_mono (Kd.V_far (p := ⟨gb934, 0, none⟩) (Kd.V_mono HO916.out (fun k_ hk => (⟨hk, hk.2⟩ : _ ∧ k_ ≠ gb934))) (fun _ hk => hk.2) (.slice Ao34 t929.length co34)) (fun _ hk => ⟨hk.1.1, hk.1.2⟩)))⟩; have n1_ : Aside0 (Kd.V (Kd.int .u64) 27 w36 w.heap.size (fun k_ => k_ ≠ gb933 ∧ k_ ≠ gb934) (.slice Ao25 t917.length co25) t917) := ⟨(by rw [hw]; exact (by (with_reducible repeat (first | apply Kd.V_alloc | apply Kd.V_drewN | apply Kd.V_drew)); exact Kd.V_mono (Kd.V_far (p := ⟨gb934, 0, none⟩) (Kd.V_mono HO919.out (fun k_ hk => (⟨hk, hk.2⟩ : _ ∧ k_ ≠ gb934))) (fun _ hk => hk.2) (.slice Ao34 t929.length co34)) (fun _ hk => ⟨hk.1.1, hk.1.2⟩)))⟩; have n2_ : Aside0 (Kd.V (Kd.int .u64) 27 w36 w.heap.size (fun k_ => k_ ≠ gb933 ∧ k_ ≠ gb934) (.slice Ao23 t920.length co23) t920) := ⟨(by rw [hw]; exact (by (with_reducible repeat (first | apply Kd.V_alloc | apply Kd.V_drewN | apply Kd.V_drew)); exact Kd.V_mono (Kd.V_far (p := ⟨gb934, 0, none⟩) (Kd.V_mono HO922.out (fun k_ hk => (⟨hk, hk.2⟩ : _ ∧ k_ ≠ gb934))) (fun _ hk => hk.2) (.slice Ao34 t929.length co34)) (fun _ hk => ⟨hk.1.1, hk.1.2⟩)))⟩; have n3_ : Aside0 (Kd.V (Kd.int .u64) 27 w36 w.heap.size (fun k_ => k_ ≠ gb933 ∧ k_ ≠ gb934) (.slice Ao26 t923.length co26) t923) := ⟨(by rw [hw]; exact (by (with_reducible repeat (first | apply Kd.V_alloc | apply Kd.V_drewN | apply Kd.V_drew)); exact Kd.V_mono (Kd.V_far (p := ⟨gb934, 0, none⟩) (Kd.V_mono HO925.out (fun k_ hk => (⟨hk, hk.2⟩ : _ ∧ k_ ≠ gb934))) (fun _ hk => hk.2) (.slice Ao34 t929.length co34)) (fun _ hk => ⟨hk.1.1, hk.1.2⟩)))⟩; have n4_ : Aside0 (Kd.V (Kd.int .u64) 27 w36 w.heap.size (fun k_ => k_ ≠ gb933 ∧ k_ ≠ gb934) (.slice Ao30 t926.length co30) t926) := ⟨(by rw [hw]; exact (by (with_reducible repeat (first | apply Kd.V_alloc | apply Kd.V_drewN | apply Kd.V_drew)); exact Kd.V_mono (Kd.V_far (p := ⟨gb934, 0, none⟩) (Kd.V_mono HO928.out (fun k_ hk => (⟨hk, hk.2⟩ : _ ∧ k_ ≠ gb934))) (fun _ hk => hk.2) (.slice Ao34 t929.length co34)) (fun _ hk => ⟨hk.1.1, hk.1.2⟩)))⟩; have n5_ : Aside0 (Kd.V (Kd.int .u64) 27 w36 w.heap.size (fun k_ => k_ ≠ gb933 ∧ k_ ≠ gb934) (.slice Ao34 t929.length co34) t929) := ⟨(by rw [hw]; exact (by (with_reducible repeat (first | apply Kd.V_alloc | apply Kd.V_drewN | apply Kd.V_drew)); exact Kd.V_mono (Kd.V_far (p := ⟨gb934, 0, none⟩) (Kd.V_mono HO931.out (fun k_ hk => (⟨hk, hk.2⟩ : _ ∧ k_ ≠ gb934))) (fun _ hk => hk.2) (.slice Ao34 t929.length co34)) (fun _ hk => ⟨hk.1.1, hk.1.2⟩)))⟩; have n6_ : Aside0 (w36.heap[gb933]? = some (.cells #[.slice Ao30 t926.length co30] 25 (0, 0))) := ⟨(by rw [hw]; exact (by (with_reducible repeat (first | refine blk_drewN ?_ _ | refine blk_drew ?_ | refine blk_alloc ?_ _)); refine blk_far ?_ NB933_934.out _; (with_reducible repeat (first | refine blk_drewN ?_ _ | refine blk_drew ?_ | refine blk_alloc ?_ _)); exact BK933.out))⟩; have n7_ : Aside0 (w36.heap[gb934]? = some (.cells #[.slice Ao34 t929.length co34] 25 (0, 0))) := ⟨(by rw [hw]; exact (by (with_reducible repeat (first | refine blk_drewN ?_ _ | refine blk_drew ?_ | refine blk_alloc ?_ _)); refine blk_put (cs := #[.slice none 0 0]) ?_ 0 _ rfl; (with_reducible repeat (first | refine blk_drewN ?_ _ | refine blk_drew ?_ | refine blk_alloc ?_ _)); exact BK934.out))⟩; have n8_ : Aside0 (Below w.heap.size w w36) := ⟨(by rw [hw]; exact (by repeat (first | (with_reducible first | exact HB.out | apply below_alloc | apply pw_below_drewN | apply below_drew1 | refine below_set ?_ GE933.out | refine below_set ?_ GE934.out) | exact HB.out)))⟩; clear hw; clear HO916; clear HO919; clear HO922; clear HO925; clear HO928; clear HO931; clear BK933; clear BK934; clear HB; have HO916 := n0_; have HO919 := n1_; have HO922 := n2_; have HO925 := n3_; have HO928 := n4_; have HO931 := n5_; have BK933 := n6_; have BK934 := n7_; have HB := n8_; clear n0_ n1_ n2_ n3_ n4_ n5_ n6_ n7_ n8_) | ((with_reducible refine gate_callee (f := 33) rfl ?_); refine goesL_ (some 24) rfl rfl Try.func33 (by kernel_rfl) rfl #[.slice A0 l0.length c0] rfl (by (try simp only [List.map_toArray, List.map_cons, List.map_nil]); first | done | rfl | (simp only [List.length_drop, List.length_take]; rfl)) ?_; (with_reducible refine (chattellaw02_cut.calls (fun k_ => k_ < w.heap.size) _ _ l0 t935 _ ?side1 A8.out).mono ?_); (case side1 => exact Kd.V_mk HC0.out (Kd.F_below (Kd.C_F (Kd.heap_int .u64) HR0.out) (by repeat (first | (with_reducible first | exact HB.out | apply below_alloc | apply pw_below_drewN | apply below_drew1 | refine below_set ?_ GE933.out | refine below_set ?_ GE934.out) | exact HB.out)))); rintro e w37 ⟨v936, rfl, ho0, hb⟩; refine ⟨_, rfl, ?_⟩; replace HO916 := Aside0.mk (vb HO916.out hb); replace HO919 := Aside0.mk (vb HO919.out hb); replace HO922 := Aside0.mk (vb HO922.out hb); replace HO925 := Aside0.mk (vb HO925.out hb); replace HO928 := Aside0.mk (vb HO928.out hb); replace HO931 := Aside0.mk (vb HO931.out hb); have HO937 := Aside0.mk (Kd.V_lower (Kd.V_mono (ok' := fun k_ => k_ ≠ gb933 ∧ k_ ≠ gb934) ho0 (fun k_ hk_ => ⟨Or.elim hk_ (fun hs_ => fun e_ => Nat.not_le.2 hs_ (by rw [e_]; exact GW933.out)) (fun hn_ => (fb BK933.out k_ hn_)), Or.elim hk_ (fun hs_ => fun e_ => Nat.not_le.2 hs_ (by rw [e_]; exact GW934.out)) (fun hn_ => (fb BK934.out k_ hn_))⟩)) (bz HB.out)); replace BK933 := Aside0.mk (bb BK933.out hb); replace BK934 := Aside0.mk (bb BK934.out hb); replace HB := Aside0.mk (bs HB.out hb); (try clear hb); (try clear hb2); (try clear hk); (try clear hi); (try clear ho0); obtain ⟨Ao38, co38, eo38⟩ := Kd.V_slice HO937.out; subst eo38) | ((with_reducible refine gate_callee (f := 23) rfl ?_); refine goesL_ (some 25) rfl rfl Try.func23 (by kernel_rfl) rfl #[.slice Ao38 t935.length co38] rfl (by (try simp only [List.map_toArray, List.map_cons, List.map_nil]); first | done | rfl | (simp only [List.length_drop, List.length_take]; rfl)) ?_; (with_reducible refine (chattelref01_Of.calls k _ _ t935 t938 _ ?side1 ?side2 A9.out).mono ?_); (case side1 => exact cv HO937.out); (case side2 => exact (Kd.V_reads' HO937.out).2.1); rintro e w39 ⟨v939, rfl, ho0, hb⟩; refine ⟨_, rfl, ?_⟩; replace HO916 := Aside0.mk (vb HO916.out hb); replace HO919 := Aside0.mk (vb HO919.out hb); replace HO922 := Aside0.mk (vb HO922.out hb); replace HO925 := Aside0.mk (vb HO925.out hb); replace HO928 := Aside0.mk (vb HO928.out hb); replace HO931 := Aside0.mk (vb HO931.out hb); replace HO937 := Aside0.mk (vb HO937.out hb); have HO940 := Aside0.mk (Kd.V_lower (Kd.V_mono (ok' := fun k_ => k_ ≠ gb933 ∧ k_ ≠ gb934) ho0 (fun k_ hk_ => ⟨(fb BK933.out k_ hk_), (fb BK934.out k_ hk_)⟩)) (bz HB.out)); replace BK933 := Aside0.mk (bb BK933.out hb); replace BK934 := Aside0.mk (bb BK934.out hb); replace HB := Aside0.mk (bs HB.out hb); (try clear hb); (try clear hb2); (try clear hk); (try clear hi); (try clear ho0)) | ((with_reducible refine gate_callee (f := 33) rfl ?_); refine goesL_ (some 27) rfl rfl Try.func33 (by kernel_rfl) rfl #[.slice A1 l1.length c1] rfl (by (try simp only [List.map_toArray, List.map_cons, List.map_nil]); first | done | rfl | (simp only [List.length_drop, List.length_take]; rfl)) ?_; (with_reducible refine (chattellaw02_cut.calls (fun k_ => k_ < w.heap.size) _ _ l1 t941 _ ?side1 A10.out).mono ?_); (case side1 => exact Kd.V_mk HC1.out (Kd.F_below (Kd.C_F (Kd.heap_int .u64) HR1.out) (by repeat (first | (with_reducible first | exact HB.out | apply below_alloc | apply pw_below_drewN | apply below_drew1 | refine below_set ?_ GE933.out | refine below_set ?_ GE934.out) | exact HB.out)))); rintro e w40 ⟨v942, rfl, ho0, hb⟩; refine ⟨_, rfl, ?_⟩; replace HO916 := Aside0.mk (vb HO916.out hb); replace HO919 := Aside0.mk (vb HO919.out hb); replace HO922 := Aside0.mk (vb HO922.out hb); replace HO925 := Aside0.mk (vb HO925.out hb); replace HO928 := Aside0.mk (vb HO928.out hb); replace HO931 := Aside0.mk (vb HO931.out hb); replace HO937 := Aside0.mk (vb HO937.out hb); replace HO940 := Aside0.mk (vb HO940.out hb); have HO943 := Aside0.mk (Kd.V_lower (Kd.V_mono (ok' := fun k_ => k_ ≠ gb933 ∧ k_ ≠ gb934) ho0 (fun k_ hk_ => ⟨Or.elim hk_ (fun hs_ => fun e_ => Nat.not_le.2 hs_ (by rw [e_]; exact GW933.out)) (fun hn_ => (fb BK933.out k_ hn_)), Or.elim hk_ (fun hs_ => fun e_ => Nat.not_le.2 hs_ (by rw [e_]; exact GW934.out)) (fun hn_ => (fb BK934.out k_ hn_))⟩)) (bz HB.out)); replace BK933 := Aside0.mk (bb BK933.out hb); replace BK934 := Aside0.mk (bb BK934.out hb); replace HB := Aside0.mk (bs HB.out hb); (try clear hb); (try clear hb2); (try clear hk); (try clear hi); (try clear ho0); obtain ⟨Ao41, co41, eo41⟩ := Kd.V_slice HO943.out; subst eo41) | ((with_reducible refine gate_callee (f := 23) rfl ?_); refine goesL_ (some 28) rfl rfl Try.func23 (by kernel_rfl) rfl #[.slice Ao41 t941.length co41] rfl (by (try simp only [List.map_toArray, List.map_cons, List.map_nil]); first | done | rfl | (simp only [List.length_drop, List.length_take]; rfl)) ?_; (with_reducible refine (chattelref01_Of.calls k _ _ t941 t944 _ ?side1 ?side2 A11.out).mono ?_); (case side1 => exact cv HO943.out); (case side2 => exact (Kd.V_reads' HO943.out).2.1); rintro e w42 ⟨v945, rfl, ho0, hb⟩; refine ⟨_, rfl, ?_⟩; replace HO916 := Aside0.mk (vb HO916.out hb); replace HO919 := Aside0.mk (vb HO919.out hb); replace HO922 := Aside0.mk (vb HO922.out hb); replace HO925 := Aside0.mk (vb HO925.out hb); replace HO928 := Aside0.mk (vb HO928.out hb); replace HO931 := Aside0.mk (vb HO931.out hb); replace HO937 := Aside0.mk (vb HO937.out hb); replace HO940 := Aside0.mk (vb HO940.out hb); replace HO943 := Aside0.mk (vb HO943.out hb); have HO946 := Aside0.mk (Kd.V_lower (Kd.V_mono (ok' := fun k_ => k_ ≠ gb933 ∧ k_ ≠ gb934) ho0 (fun k_ hk_ => ⟨(fb BK933.out k_ hk_), (fb BK934.out k_ hk_)⟩)) (bz HB.out)); replace BK933 := Aside0.mk (bb BK933.out hb); replace BK934 := Aside0.mk (bb BK934.out hb); replace HB := Aside0.mk (bs HB.out hb); (try clear hb); (try clear hb2); (try clear hk); (try clear hi); (try clear ho0); obtain ⟨Ao43, co43, eo43⟩ := Kd.V_slice HO946.out; subst eo43) | ((with_reducible refine gate_callee (f := 34) rfl ?_); refine goesL_ (some 32) rfl rfl Try.func34 (by kernel_rfl) rfl #[] rfl (by (try simp only [List.map_toArray, List.map_cons, List.map_nil]); first | done | rfl | (simp only [List.length_drop, List.length_take]; rfl)) ?_; (with_reducible refine (chattellaw02_wakes.calls k  true _ A13.out (by first | rfl | exact ht_ | assumption)).mono ?_); rintro e w44 ⟨rfl, hb⟩; refine ⟨_, rfl, ?_⟩; replace HO916 := Aside0.mk (vb HO916.out hb); replace HO919 := Aside0.mk (vb HO919.out hb); replace HO922 := Aside0.mk (vb HO922.out hb); replace HO925 := Aside0.mk (vb HO925.out hb); replace HO928 := Aside0.mk (vb HO928.out hb); replace HO931 := Aside0.mk (vb HO931.out hb); replace HO937 := Aside0.mk (vb HO937.out hb); replace HO940 := Aside0.mk (vb HO940.out hb); replace HO943 := Aside0.mk (vb HO943.out hb); replace HO946 := Aside0.mk (vb HO946.out hb); replace BK933 := Aside0.mk (bb BK933.out hb); replace BK934 := Aside0.mk (bb BK934.out hb); replace HB := Aside0.mk (bs HB.out hb); (try clear hb); (try clear hb2); (try clear hk); (try clear hi); have hcz45_0 : w44.cell? ⟨gb933, 0, none⟩ = some (.slice Ao30 t926.length co30) := (blk_cell BK933.out 0).trans rfl; have hfz45_0 := blk_frozen BK933.out 0) | (go_at_call 18; (with_reducible refine (nat_Nat_Zero.calls _ _ t926 true _ ?side1 ?side2 A16.out).mono ?_); (case side1 => exact cv HO928.out); (case side2 => exact (Kd.V_reads' HO928.out).2.1); rintro e w46 ⟨rfl, hb⟩; replace HO916 := Aside0.mk (vb HO916.out hb); replace HO919 := Aside0.mk (vb HO919.out hb); replace HO922 := Aside0.mk (vb HO922.out hb); replace HO925 := Aside0.mk (vb HO925.out hb); replace HO928 := Aside0.mk (vb HO928.out hb); replace HO931 := Aside0.mk (vb HO931.out hb); replace HO937 := Aside0.mk (vb HO937.out hb); replace HO940 := Aside0.mk (vb HO940.out hb); replace HO943 := Aside0.mk (vb HO943.out hb); replace HO946 := Aside0.mk (vb HO946.out hb); replace BK933 := Aside0.mk (bb BK933.out hb); replace BK934 := Aside0.mk (bb BK934.out hb); replace HB := Aside0.mk (bs HB.out hb); (try clear hb); (try clear hb2); (try clear hk); (try clear hi); have hcz47_0 : w46.cell? ⟨gb934, 0, none⟩ = some (.slice Ao34 t929.length co34) := (blk_cell BK934.out 0).trans rfl; have hfz47_0 := blk_frozen BK934.out 0) | (go_at_call 18; (with_reducible refine (nat_Nat_Zero.calls _ _ t929 t949 _ ?side1 ?side2 A18.out).mono ?_); (case side1 => exact cv HO931.out); (case side2 => exact (Kd.V_reads' HO931.out).2.1); rintro e w48 ⟨rfl, hb⟩; replace HO916 := Aside0.mk (vb HO916.out hb); replace HO919 := Aside0.mk (vb HO919.out hb); replace HO922 := Aside0.mk (vb HO922.out hb); replace HO925 := Aside0.mk (vb HO925.out hb); replace HO928 := Aside0.mk (vb HO928.out hb); replace HO931 := Aside0.mk (vb HO931.out hb); replace HO937 := Aside0.mk (vb HO937.out hb); replace HO940 := Aside0.mk (vb HO940.out hb); replace HO943 := Aside0.mk (vb HO943.out hb); replace HO946 := Aside0.mk (vb HO946.out hb); replace BK933 := Aside0.mk (bb BK933.out hb); replace BK934 := Aside0.mk (bb BK934.out hb); replace HB := Aside0.mk (bs HB.out hb); (try clear hb); (try clear hb2); (try clear hk); (try clear hi)))
    go_ret
    exact ⟨by first | rfl | (simp [errW_none, errW_some] <;> rfl) | (simp [*, errW_none, errW_some] <;> rfl), by repeat (first | (with_reducible first | exact HB.out | apply below_alloc | apply pw_below_drewN | apply below_drew1 | refine below_set ?_ GE933.out | refine below_set ?_ GE934.out) | exact HB.out)⟩
   ·replace c17 := Bool.eq_false_iff.mpr c17
    subst c17
    have H1 : (some false) = some r := by rw [if_neg (show ¬ (false = true) by decide)] at H; exact H
    clear H
    have H := H1
    clear H1
    exact absurd (Option.some.inj H) (by rw [ht_]; decide)
  ·replace c14 := Bool.eq_false_iff.mpr c14
   subst c14
   have H1 : (some false) = some r := by rw [if_neg (show ¬ (false = true) by decide)] at H; exact H
   clear H
   have H := H1
   clear H1
   exact absurd (Option.some.inj H) (by rw [ht_]; decide)
 ·rw [if_neg c12] at H
  have c12b0 : ((t944.length : Int) == 0) = false := beq_eq_false_iff_ne.mpr c12
  have c12b1 : ((t944.length : Int) != 0) = true := bne_iff_ne.mpr c12
  have c12b2 : ¬ (t944 = []) := fun h_ => c12 (by rw [h_]; rfl)
  replace H := Option.bind_eq_some_iff.mp H
  obtain ⟨⟨t950, t953⟩, A490, H⟩ := H
  (try dsimp only at H)
  have A49 := Aside0.mk A490
  clear A490
  replace H := Option.bind_eq_some_iff.mp H
  obtain ⟨t956, A500, H⟩ := H
  (try dsimp only at H)
  have A50 := Aside0.mk A500
  clear A500
  by_cases c51 : t956 = true
  ·subst c51
   have H1 : (if t932 = 0 then ((chattellaw02_same.f k t926 t950).bind fun t957 => (if t957 = true then ((chattellaw02_same.f k t929 t953).bind fun t958 => (some t958)) else (some false))) else (some false)) = some r := by rw [if_pos rfl] at H; exact H
   clear H
   have H := H1
   clear H1
   by_cases c52 : t932 = 0
   rotate_left
   ·rw [if_neg c52] at H
    have c52b0 : (t932 == 0) = false := beq_eq_false_iff_ne.mpr c52
    have c52b1 : (t932 != 0) = true := bne_iff_ne.mpr c52
    exact absurd (Option.some.inj H) (by rw [ht_]; decide)
   rw [if_pos c52] at H
   have c52b0 : (t932 == 0) = true := beq_iff_eq.mpr c52
   have c52b1 : (t932 != 0) = false := bne_eq_false_iff_eq.mpr c52
   clear c52
   replace H := Option.bind_eq_some_iff.mp H
   obtain ⟨t957, A530, H⟩ := H
   (try dsimp only at H)
   have A53 := Aside0.mk A530
   clear A530
   by_cases c54 : t957 = true
   ·subst c54
    have H1 : ((chattellaw02_same.f k t929 t953).bind fun t958 => (some t958)) = some r := by rw [if_pos rfl] at H; exact H
    clear H
    have H := H1
    clear H1
    replace H := Option.bind_eq_some_iff.mp H
    obtain ⟨t958, A550, H⟩ := H
    (try dsimp only at H)
    have A55 := Aside0.mk A550
    clear A550
    obtain rfl := Option.some.inj H
    go_enter Try.func8, Try.ntmps8
    go_wp2_with (first | ((with_reducible refine gate_callee (f := 33) rfl ?_); refine goesL_ (some 14) rfl rfl Try.func33 (by kernel_rfl) rfl #[.slice A0 l0.length c0] rfl (by (try simp only [List.map_toArray, List.map_cons, List.map_nil]); first | done | rfl | (simp only [List.length_drop, List.length_take]; rfl)) ?_; (with_reducible refine (chattellaw02_cut.calls (fun k_ => k_ < w.heap.size) _ _ l0 t914 _ ?side1 A3.out).mono ?_); (case side1 => exact Kd.V_mk HC0.out (Kd.F_below (Kd.C_F (Kd.heap_int .u64) HR0.out) (by repeat (first | (with_reducible first | exact HB.out | apply below_alloc | apply pw_below_drewN | apply below_drew1) | exact HB.out)))); rintro e w56 ⟨v915, rfl, ho0, hb⟩; refine ⟨_, rfl, ?_⟩; have HO916 := Aside0.mk (Kd.V_lower (Kd.V_mono (ok' := fun k_ => True) ho0 (fun k_ hk_ => trivial)) (below_size (by repeat (first | (with_reducible first | exact HB.out | apply below_alloc | apply pw_below_drewN | apply below_drew1) | exact HB.out)))); replace HB := Aside0.mk (below_step (by repeat (first | (with_reducible first | exact HB.out | apply below_alloc | apply pw_below_drewN | apply below_drew1) | exact HB.out)) hb); (try clear hb); (try clear hb2); (try clear hk); (try clear hi); (try clear ho0); obtain ⟨Ao57, co57, eo57⟩ := Kd.V_slice HO916.out; subst eo57) | ((with_reducible refine gate_callee (f := 14) rfl ?_); refine goesL_ (some 15) rfl rfl Try.func14 (by kernel_rfl) rfl #[.slice Ao57 t914.length co57] rfl (by (try simp only [List.map_toArray, List.map_cons, List.map_nil]); first | done | rfl | (simp only [List.length_drop, List.length_take]; rfl)) ?_; (with_reducible refine (nat_Of.calls k _ _ t914 t917 _ ?side1 ?side2 A4.out).mono ?_); (case side1 => exact cv HO916.out); (case side2 => exact (Kd.V_reads' HO916.out).2.1); rintro e w58 ⟨v918, rfl, ho0, hb⟩; refine ⟨_, rfl, ?_⟩; replace HO916 := Aside0.mk (vb HO916.out hb); have HO919 := Aside0.mk (Kd.V_lower (Kd.V_mono (ok' := fun k_ => True) ho0 (fun k_ hk_ => trivial)) (bz HB.out)); replace HB := Aside0.mk (bs HB.out hb); (try clear hb); (try clear hb2); (try clear hk); (try clear hi); (try clear ho0)) | ((with_reducible refine gate_callee (f := 33) rfl ?_); refine goesL_ (some 17) rfl rfl Try.func33 (by kernel_rfl) rfl #[.slice A1 l1.length c1] rfl (by (try simp only [List.map_toArray, List.map_cons, List.map_nil]); first | done | rfl | (simp only [List.length_drop, List.length_take]; rfl)) ?_; (with_reducible refine (chattellaw02_cut.calls (fun k_ => k_ < w.heap.size) _ _ l1 t920 _ ?side1 A5.out).mono ?_); (case side1 => exact Kd.V_mk HC1.out (Kd.F_below (Kd.C_F (Kd.heap_int .u64) HR1.out) (by repeat (first | (with_reducible first | exact HB.out | apply below_alloc | apply pw_below_drewN | apply below_drew1) | exact HB.out)))); rintro e w59 ⟨v921, rfl, ho0, hb⟩; refine ⟨_, rfl, ?_⟩; replace HO916 := Aside0.mk (vb HO916.out hb); replace HO919 := Aside0.mk (vb HO919.out hb); have HO922 := Aside0.mk (Kd.V_lower (Kd.V_mono (ok' := fun k_ => True) ho0 (fun k_ hk_ => trivial)) (bz HB.out)); replace HB := Aside0.mk (bs HB.out hb); (try clear hb); (try clear hb2); (try clear hk); (try clear hi); (try clear ho0); obtain ⟨Ao60, co60, eo60⟩ := Kd.V_slice HO922.out; subst eo60) | ((with_reducible refine gate_callee (f := 14) rfl ?_); refine goesL_ (some 18) rfl rfl Try.func14 (by kernel_rfl) rfl #[.slice Ao60 t920.length co60] rfl (by (try simp only [List.map_toArray, List.map_cons, List.map_nil]); first | done | rfl | (simp only [List.length_drop, List.length_take]; rfl)) ?_; (with_reducible refine (nat_Of.calls k _ _ t920 t923 _ ?side1 ?side2 A6.out).mono ?_); (case side1 => exact cv HO922.out); (case side2 => exact (Kd.V_reads' HO922.out).2.1); rintro e w61 ⟨v924, rfl, ho0, hb⟩; refine ⟨_, rfl, ?_⟩; replace HO916 := Aside0.mk (vb HO916.out hb); replace HO919 := Aside0.mk (vb HO919.out hb); replace HO922 := Aside0.mk (vb HO922.out hb); have HO925 := Aside0.mk (Kd.V_lower (Kd.V_mono (ok' := fun k_ => True) ho0 (fun k_ hk_ => trivial)) (bz HB.out)); replace HB := Aside0.mk (bs HB.out hb); (try clear hb); (try clear hb2); (try clear hk); (try clear hi); (try clear ho0); obtain ⟨Ao62, co62, eo62⟩ := Kd.V_slice HO919.out; subst eo62; obtain ⟨Ao63, co63, eo63⟩ := Kd.V_slice HO925.out; subst eo63) | ((with_reducible refine gate_callee (f := 32) rfl ?_); refine goesL_ (some 19) rfl rfl Try.func32 (by kernel_rfl) rfl #[.agg #[.slice Ao62 t917.length co62], .agg #[.slice Ao63 t923.length co63]] rfl (by (try simp only [List.map_toArray, List.map_cons, List.map_nil]); first | done | rfl | (simp only [List.length_drop, List.length_take]; rfl)) ?_; (with_reducible refine (quot_Div.calls k (fun k_ => True) _ _ t917 _ _ t923 t926 t929 t932 _ ?side1 ?side2 ?side3 A7.out).mono ?_); (case side1 => exact HO919.out); (case side2 => exact cv HO925.out); (case side3 => exact (Kd.V_reads' HO925.out).2.1); rintro e w64 ⟨v927, v930, rfl, ho0, ho1, hb⟩; refine ⟨_, rfl, ?_⟩; replace HO916 := Aside0.mk (vb HO916.out hb); replace HO919 := Aside0.mk (vb HO919.out hb); replace HO922 := Aside0.mk (vb HO922.out hb); replace HO925 := Aside0.mk (vb HO925.out hb); have HO928 := Aside0.mk (Kd.V_lower (Kd.V_mono (ok' := fun k_ => True) ho0 (fun k_ hk_ => trivial)) (bz HB.out)); have HO931 := Aside0.mk (Kd.V_lower (Kd.V_mono (ok' := fun k_ => True) ho1 (fun k_ hk_ => trivial)) (bz HB.out)); replace HB := Aside0.mk (bs HB.out hb); (try clear hb); (try clear hb2); (try clear hk); (try clear hi); (try clear ho0); (try clear ho1)) | ((with_reducible refine gate_dst (N := 5) rfl ?_); refine box_event ?hg (N := 5) ?hd (cs := #[.slice none 0 0]) (t := 25) ?hr ?_; (case hd => rfl); (case hg => rfl); (case hr => first | (go_simp; done) | (go_simp; rfl)); intro gb933 hg w65 hbox hb; have n0_ := Aside0.mk (Kd.V_below (Kd.V_elderB HO916.out gb933 (Nat.le_of_eq hg.symm)) hb); have n1_ := Aside0.mk (Kd.V_below (Kd.V_elderB HO919.out gb933 (Nat.le_of_eq hg.symm)) hb); have n2_ := Aside0.mk (Kd.V_below (Kd.V_elderB HO922.out gb933 (Nat.le_of_eq hg.symm)) hb); have n3_ := Aside0.mk (Kd.V_below (Kd.V_elderB HO925.out gb933 (Nat.le_of_eq hg.symm)) hb); have n4_ := Aside0.mk (Kd.V_below (Kd.V_elderB HO928.out gb933 (Nat.le_of_eq hg.symm)) hb); have n5_ := Aside0.mk (Kd.V_below (Kd.V_elderB HO931.out gb933 (Nat.le_of_eq hg.symm)) hb); have n6_ := Aside0.mk (below_step (by repeat (first | (with_reducible first | exact HB.out | apply below_alloc | apply pw_below_drewN | apply below_drew1) | exact HB.out)) hb); have n7_ := Aside0.mk (hbox); have n8_ := Aside0.mk ((by rw [hg]; exact (below_size (by repeat (first | (with_reducible first | exact HB.out | apply below_alloc | apply pw_below_drewN | apply below_drew1) | exact HB.out))) : w.heap.size ≤ gb933)); have n9_ := Aside0.mk ((by rw [hg]; exact (below_size (by repeat (first | (with_reducible first | exact HB.out | apply below_alloc | apply pw_below_drewN | apply below_drew1) | exact HB.out))) : w.heap.size ≤ gb933)); clear HO916; clear HO919; clear HO922; clear HO925; clear HO928; clear HO931; clear HB; have HO916 := n0_; have HO919 := n1_; have HO922 := n2_; have HO925 := n3_; have HO928 := n4_; have HO931 := n5_; have HB := n6_; have BK933 := n7_; have GW933 := n8_; have GE933 := n9_; clear n0_ n1_ n2_ n3_ n4_ n5_ n6_ n7_ n8_ n9_; clear hb hbox hg) | ((with_reducible refine gate_dst (N := 6) rfl ?_); refine box_event ?hg (N := 6) ?hd (cs := #[.slice none 0 0]) (t := 25) ?hr ?_; (case hd => rfl); (case hg => rfl); (case hr => first | (go_simp; done) | (go_simp; rfl)); intro gb934 hg w66 hbox hb; have n0_ := Aside0.mk (Kd.V_below (Kd.V_elderB HO916.out gb934 (Nat.le_of_eq hg.symm)) hb); have n1_ := Aside0.mk (Kd.V_below (Kd.V_elderB HO919.out gb934 (Nat.le_of_eq hg.symm)) hb); have n2_ := Aside0.mk (Kd.V_below (Kd.V_elderB HO922.out gb934 (Nat.le_of_eq hg.symm)) hb); have n3_ := Aside0.mk (Kd.V_below (Kd.V_elderB HO925.out gb934 (Nat.le_of_eq hg.symm)) hb); have n4_ := Aside0.mk (Kd.V_below (Kd.V_elderB HO928.out gb934 (Nat.le_of_eq hg.symm)) hb); have n5_ := Aside0.mk (Kd.V_below (Kd.V_elderB HO931.out gb934 (Nat.le_of_eq hg.symm)) hb); have n6_ := Aside0.mk (bb BK933.out hb); have n7_ := Aside0.mk (bs HB.out hb); have n8_ := Aside0.mk (hbox); have n9_ := Aside0.mk ((by rw [hg]; exact (bz HB.out) : w.heap.size ≤ gb934)); have n10_ := Aside0.mk ((by rw [hg]; exact (bz HB.out) : w.heap.size ≤ gb934)); have n11_ := Aside0.mk ((by rw [hg]; exact Nat.ne_of_lt (blk_lt (g := gb933) (o := .cells #[.slice none 0 0] 25 (0, 0)) BK933.out) : gb933 ≠ gb934)); have n12_ := Aside0.mk ((by rw [hg]; exact Nat.ne_of_gt (blk_lt (g := gb933) (o := .cells #[.slice none 0 0] 25 (0, 0)) BK933.out) : gb934 ≠ gb933)); clear HO916; clear HO919; clear HO922; clear HO925; clear HO928; clear HO931; clear BK933; clear HB; have HO916 := n0_; have HO919 := n1_; have HO922 := n2_; have HO925 := n3_; have HO928 := n4_; have HO931 := n5_; have BK933 := n6_; have HB := n7_; have BK934 := n8_; have GW934 := n9_; have GE934 := n10_; have NB933_934 := n11_; have NB934_933 := n12_; clear n0_ n1_ n2_ n3_ n4_ n5_ n6_ n7_ n8_ n9_ n10_ n11_ n12_; clear hb hbox hg; obtain ⟨Ao67, co67, eo67⟩ := Kd.V_slice HO928.out; subst eo67; have hnb68 := NB933_934.out; have hnc68 := NB934_933.out; have hcz69_0 : w66.cell? ⟨gb933, 0, none⟩ = some (.slice none 0 0) := (blk_cell BK933.out 0).trans rfl; have hfz69_0 := blk_frozen BK933.out 0) | ((with_reducible refine gate_store (t := 25) (p := 5) rfl ?_); refine store_event (t := 25) (p := 5) (v := ?vo_w70) (w1 := (w66.setCell ⟨gb933, 0, none⟩ (.slice Ao67 t926.length co67))) ?hg ?ho ?hn ?hr ?_; (case ho => rfl); (case hg => rfl); (case hn => rfl); (case hr => first | (go_simp; done) | (go_simp; rfl)); intro w70 hw; have n0_ : Aside0 (Kd.V (Kd.int .u64) 27 w70 w.heap.size (fun k_ => k_ ≠ gb933 ∧ k_ ≠ gb934) (.slice Ao57 t914.length co57) t914) := ⟨(by rw [hw]; exact (by (with_reducible repeat (first | apply Kd.V_alloc | apply Kd.V_drewN | apply Kd.V_drew)); exact Kd.V_mono (Kd.V_far (p := ⟨gb933, 0, none⟩) (Kd.V_mono HO916.out (fun k_ hk => (⟨hk, hk.1.2⟩ : _ ∧ k_ ≠ gb933))) (fun _ hk => hk.2) (.slice Ao67 t926.length co67)) (fun _ hk => ⟨hk.1.1.2, hk.1.2⟩)))⟩; have n1_ : Aside0 (Kd.V (Kd.int .u64) 27 w70 w.heap.size (fun k_ => k_ ≠ gb933 ∧ k_ ≠ gb934) (.slice Ao62 t917.length co62) t917) := ⟨(by rw [hw]; exact (by (with_reducible repeat (first | apply Kd.V_alloc | apply Kd.V_drewN | apply Kd.V_drew)); exact Kd.V_mono (Kd.V_far (p := ⟨gb933, 0, none⟩) (Kd.V_mono HO919.out (fun k_ hk => (⟨hk, hk.1.2⟩ : _ ∧ k_ ≠ gb933))) (fun _ hk => hk.2) (.slice Ao67 t926.length co67)) (fun _ hk => ⟨hk.1.1.2, hk.1.2⟩)))⟩; have n2_ : Aside0 (Kd.V (Kd.int .u64) 27 w70 w.heap.size (fun k_ => k_ ≠ gb933 ∧ k_ ≠ gb934) (.slice Ao60 t920.length co60) t920) := ⟨(by rw [hw]; exact (by (with_reducible repeat (first | apply Kd.V_alloc | apply Kd.V_drewN | apply Kd.V_drew)); exact Kd.V_mono (Kd.V_far (p := ⟨gb933, 0, none⟩) (Kd.V_mono HO922.out (fun k_ hk => (⟨hk, hk.1.2⟩ : _ ∧ k_ ≠ gb933))) (fun _ hk => hk.2) (.slice Ao67 t926.length co67)) (fun _ hk => ⟨hk.1.1.2, hk.1.2⟩)))⟩; have n3_ : Aside0 (Kd.V (Kd.int .u64) 27 w70 w.heap.size (fun k_ => k_ ≠ gb933 ∧ k_ ≠ gb934) (.slice Ao63 t923.length co63) t923) := ⟨(by rw [hw]; exact (by (with_reducible repeat (first | apply Kd.V_alloc | apply Kd.V_drewN | apply Kd.V_drew)); exact Kd.V_mono (Kd.V_far (p := ⟨gb933, 0, none⟩) (Kd.V_mono HO925.out (fun k_ hk => (⟨hk, hk.1.2⟩ : _ ∧ k_ ≠ gb933))) (fun _ hk => hk.2) (.slice Ao67 t926.length co67)) (fun _ hk => ⟨hk.1.1.2, hk.1.2⟩)))⟩; have n4_ : Aside0 (Kd.V (Kd.int .u64) 27 w70 w.heap.size (fun k_ => k_ ≠ gb933 ∧ k_ ≠ gb934) (.slice Ao67 t926.length co67) t926) := ⟨(by rw [hw]; exact (by (with_reducible repeat (first | apply Kd.V_alloc | apply Kd.V_drewN | apply Kd.V_drew)); exact Kd.V_mono (Kd.V_far (p := ⟨gb933, 0, none⟩) (Kd.V_mono HO928.out (fun k_ hk => (⟨hk, hk.1.2⟩ : _ ∧ k_ ≠ gb933))) (fun _ hk => hk.2) (.slice Ao67 t926.length co67)) (fun _ hk => ⟨hk.1.1.2, hk.1.2⟩)))⟩; have n5_ : Aside0 (Kd.V (Kd.int .u64) 27 w70 w.heap.size (fun k_ => k_ ≠ gb933 ∧ k_ ≠ gb934) v930 t929) := ⟨(by rw [hw]; exact (by (with_reducible repeat (first | apply Kd.V_alloc | apply Kd.V_drewN | apply Kd.V_drew)); exact Kd.V_mono (Kd.V_far (p := ⟨gb933, 0, none⟩) (Kd.V_mono HO931.out (fun k_ hk => (⟨hk, hk.1.2⟩ : _ ∧ k_ ≠ gb933))) (fun _ hk => hk.2) (.slice Ao67 t926.length co67)) (fun _ hk => ⟨hk.1.1.2, hk.1.2⟩)))⟩; have n6_ : Aside0 (w70.heap[gb933]? = some (.cells #[.slice Ao67 t926.length co67] 25 (0, 0))) := ⟨(by rw [hw]; exact (by (with_reducible repeat (first | refine blk_drewN ?_ _ | refine blk_drew ?_ | refine blk_alloc ?_ _)); refine blk_put (cs := #[.slice none 0 0]) ?_ 0 _ rfl; (with_reducible repeat (first | refine blk_drewN ?_ _ | refine blk_drew ?_ | refine blk_alloc ?_ _)); exact BK933.out))⟩; have n7_ : Aside0 (w70.heap[gb934]? = some (.cells #[.slice none 0 0] 25 (0, 0))) := ⟨(by rw [hw]; exact (by (with_reducible repeat (first | refine blk_drewN ?_ _ | refine blk_drew ?_ | refine blk_alloc ?_ _)); refine blk_far ?_ NB934_933.out _; (with_reducible repeat (first | refine blk_drewN ?_ _ | refine blk_drew ?_ | refine blk_alloc ?_ _)); exact BK934.out))⟩; have n8_ : Aside0 (Below w.heap.size w w70) := ⟨(by rw [hw]; exact (by repeat (first | (with_reducible first | exact HB.out | apply below_alloc | apply pw_below_drewN | apply below_drew1 | refine below_set ?_ GE933.out | refine below_set ?_ GE934.out) | exact HB.out)))⟩; clear hw; clear HO916; clear HO919; clear HO922; clear HO925; clear HO928; clear HO931; clear BK933; clear BK934; clear HB; have HO916 := n0_; have HO919 := n1_; have HO922 := n2_; have HO925 := n3_; have HO928 := n4_; have HO931 := n5_; have BK933 := n6_; have BK934 := n7_; have HB := n8_; clear n0_ n1_ n2_ n3_ n4_ n5_ n6_ n7_ n8_; obtain ⟨Ao71, co71, eo71⟩ := Kd.V_slice HO931.out; subst eo71; have hcz72_0 : w70.cell? ⟨gb934, 0, none⟩ = some (.slice none 0 0) := (blk_cell BK934.out 0).trans rfl; have hfz72_0 := blk_frozen BK934.out 0) | ((with_reducible refine gate_store (t := 25) (p := 6) rfl ?_); refine store_event (t := 25) (p := 6) (v := ?vo_w73) (w1 := (w70.setCell ⟨gb934, 0, none⟩ (.slice Ao71 t929.length co71))) ?hg ?ho ?hn ?hr ?_; (case ho => rfl); (case hg => rfl); (case hn => rfl); (case hr => first | (go_simp; done) | (go_simp; rfl)); intro w73 hw; have n0_ : Aside0 (Kd.V (Kd.int .u64) 27 w73 w.heap.size (fun k_ => k_ ≠ gb933 ∧ k_ ≠ gb934) (.slice Ao57 t914.length co57) t914) := ⟨(by rw [hw]; exact (by (with_reducible repeat (first | apply Kd.V_alloc | apply Kd.V_drewN | apply Kd.V_drew)); exact Kd.V_mono (Kd.V_far (p := ⟨gb934, 0, none⟩) (Kd.V_mono HO916.out (fun k_ hk => (⟨hk, hk.2⟩ : _ ∧ k_ ≠ gb934))) (fun _ hk => hk.2) (.slice Ao71 t929.length co71)) (fun _ hk => ⟨hk.1.1, hk.1.2⟩)))⟩; have n1_ : Aside0 (Kd.V (Kd.int .u64) 27 w73 w.heap.size (fun k_ => k_ ≠ gb933 ∧ k_ ≠ gb934) (.slice Ao62 t917.length co62) t917) := ⟨(by rw [hw]; exact (by (with_reducible repeat (first | apply Kd.V_alloc | apply Kd.V_drewN | apply Kd.V_drew)); exact Kd.V_mono (Kd.V_far (p := ⟨gb934, 0, none⟩) (Kd.V_mono HO919.out (fun k_ hk => (⟨hk, hk.2⟩ : _ ∧ k_ ≠ gb934))) (fun _ hk => hk.2) (.slice Ao71 t929.length co71)) (fun _ hk => ⟨hk.1.1, hk.1.2⟩)))⟩; have n2_ : Aside0 (Kd.V (Kd.int .u64) 27 w73 w.heap.size (fun k_ => k_ ≠ gb933 ∧ k_ ≠ gb934) (.slice Ao60 t920.length co60) t920) := ⟨(by rw [hw]; exact (by (with_reducible repeat (first | apply Kd.V_alloc | apply Kd.V_drewN | apply Kd.V_drew)); exact Kd.V_mono (Kd.V_far (p := ⟨gb934, 0, none⟩) (Kd.V_mono HO922.out (fun k_ hk => (⟨hk, hk.2⟩ : _ ∧ k_ ≠ gb934))) (fun _ hk => hk.2) (.slice Ao71 t929.length co71)) (fun _ hk => ⟨hk.1.1, hk.1.2⟩)))⟩; have n3_ : Aside0 (Kd.V (Kd.int .u64) 27 w73 w.heap.size (fun k_ => k_ ≠ gb933 ∧ k_ ≠ gb934) (.slice Ao63 t923.length co63) t923) := ⟨(by rw [hw]; exact (by (with_reducible repeat (first | apply Kd.V_alloc | apply Kd.V_drewN | apply Kd.V_drew)); exact Kd.V_mono (Kd.V_far (p := ⟨gb934, 0, none⟩) (Kd.V_mono HO925.out (fun k_ hk => (⟨hk, hk.2⟩ : _ ∧ k_ ≠ gb934))) (fun _ hk => hk.2) (.slice Ao71 t929.length co71)) (fun _ hk => ⟨hk.1.1, hk.1.2⟩)))⟩; have n4_ : Aside0 (Kd.V (Kd.int .u64) 27 w73 w.heap.size (fun k_ => k_ ≠ gb933 ∧ k_ ≠ gb934) (.slice Ao67 t926.length co67) t926) := ⟨(by rw [hw]; exact (by (with_reducible repeat (first | apply Kd.V_alloc | apply Kd.V_drewN | apply Kd.V_drew)); exact Kd.V_mono (Kd.V_far (p := ⟨gb934, 0, none⟩) (Kd.V_mono HO928.out (fun k_ hk => (⟨hk, hk.2⟩ : _ ∧ k_ ≠ gb934))) (fun _ hk => hk.2) (.slice Ao71 t929.length co71)) (fun _ hk => ⟨hk.1.1, hk.1.2⟩)))⟩; have n5_ : Aside0 (Kd.V (Kd.int .u64) 27 w73 w.heap.size (fun k_ => k_ ≠ gb933 ∧ k_ ≠ gb934) (.slice Ao71 t929.length co71) t929) := ⟨(by rw [hw]; exact (by (with_reducible repeat (first | apply Kd.V_alloc | apply Kd.V_drewN | apply Kd.V_drew)); exact Kd.V_mono (Kd.V_far (p := ⟨gb934, 0, none⟩) (Kd.V_mono HO931.out (fun k_ hk => (⟨hk, hk.2⟩ : _ ∧ k_ ≠ gb934))) (fun _ hk => hk.2) (.slice Ao71 t929.length co71)) (fun _ hk => ⟨hk.1.1, hk.1.2⟩)))⟩; have n6_ : Aside0 (w73.heap[gb933]? = some (.cells #[.slice Ao67 t926.length co67] 25 (0, 0))) := ⟨(by rw [hw]; exact (by (with_reducible repeat (first | refine blk_drewN ?_ _ | refine blk_drew ?_ | refine blk_alloc ?_ _)); refine blk_far ?_ NB933_934.out _; (with_reducible repeat (first | refine blk_drewN ?_ _ | refine blk_drew ?_ | refine blk_alloc ?_ _)); exact BK933.out))⟩; have n7_ : Aside0 (w73.heap[gb934]? = some (.cells #[.slice Ao71 t929.length co71] 25 (0, 0))) := ⟨(by rw [hw]; exact (by (with_reducible repeat (first | refine blk_drewN ?_ _ | refine blk_drew ?_ | refine blk_alloc ?_ _)); refine blk_put (cs := #[.slice none 0 0]) ?_ 0 _ rfl; (with_reducible repeat (first | refine blk_drewN ?_ _ | refine blk_drew ?_ | refine blk_alloc ?_ _)); exact BK934.out))⟩; have n8_ : Aside0 (Below w.heap.size w w73) := ⟨(by rw [hw]; exact (by repeat (first | (with_reducible first | exact HB.out | apply below_alloc | apply pw_below_drewN | apply below_drew1 | refine below_set ?_ GE933.out | refine below_set ?_ GE934.out) | exact HB.out)))⟩; clear hw; clear HO916; clear HO919; clear HO922; clear HO925; clear HO928; clear HO931; clear BK933; clear BK934; clear HB; have HO916 := n0_; have HO919 := n1_; have HO922 := n2_; have HO925 := n3_; have HO928 := n4_; have HO931 := n5_; have BK933 := n6_; have BK934 := n7_; have HB := n8_; clear n0_ n1_ n2_ n3_ n4_ n5_ n6_ n7_ n8_) | ((with_reducible refine gate_callee (f := 33) rfl ?_); refine goesL_ (some 24) rfl rfl Try.func33 (by kernel_rfl) rfl #[.slice A0 l0.length c0] rfl (by (try simp only [List.map_toArray, List.map_cons, List.map_nil]); first | done | rfl | (simp only [List.length_drop, List.length_take]; rfl)) ?_; (with_reducible refine (chattellaw02_cut.calls (fun k_ => k_ < w.heap.size) _ _ l0 t935 _ ?side1 A8.out).mono ?_); (case side1 => exact Kd.V_mk HC0.out (Kd.F_below (Kd.C_F (Kd.heap_int .u64) HR0.out) (by repeat (first | (with_reducible first | exact HB.out | apply below_alloc | apply pw_below_drewN | apply below_drew1 | refine below_set ?_ GE933.out | refine below_set ?_ GE934.out) | exact HB.out)))); rintro e w74 ⟨v936, rfl, ho0, hb⟩; refine ⟨_, rfl, ?_⟩; replace HO916 := Aside0.mk (vb HO916.out hb); replace HO919 := Aside0.mk (vb HO919.out hb); replace HO922 := Aside0.mk (vb HO922.out hb); replace HO925 := Aside0.mk (vb HO925.out hb); replace HO928 := Aside0.mk (vb HO928.out hb); replace HO931 := Aside0.mk (vb HO931.out hb); have HO937 := Aside0.mk (Kd.V_lower (Kd.V_mono (ok' := fun k_ => k_ ≠ gb933 ∧ k_ ≠ gb934) ho0 (fun k_ hk_ => ⟨Or.elim hk_ (fun hs_ => fun e_ => Nat.not_le.2 hs_ (by rw [e_]; exact GW933.out)) (fun hn_ => (fb BK933.out k_ hn_)), Or.elim hk_ (fun hs_ => fun e_ => Nat.not_le.2 hs_ (by rw [e_]; exact GW934.out)) (fun hn_ => (fb BK934.out k_ hn_))⟩)) (bz HB.out)); replace BK933 := Aside0.mk (bb BK933.out hb); replace BK934 := Aside0.mk (bb BK934.out hb); replace HB := Aside0.mk (bs HB.out hb); (try clear hb); (try clear hb2); (try clear hk); (try clear hi); (try clear ho0); obtain ⟨Ao75, co75, eo75⟩ := Kd.V_slice HO937.out; subst eo75) | ((with_reducible refine gate_callee (f := 23) rfl ?_); refine goesL_ (some 25) rfl rfl Try.func23 (by kernel_rfl) rfl #[.slice Ao75 t935.length co75] rfl (by (try simp only [List.map_toArray, List.map_cons, List.map_nil]); first | done | rfl | (simp only [List.length_drop, List.length_take]; rfl)) ?_; (with_reducible refine (chattelref01_Of.calls k _ _ t935 t938 _ ?side1 ?side2 A9.out).mono ?_); (case side1 => exact cv HO937.out); (case side2 => exact (Kd.V_reads' HO937.out).2.1); rintro e w76 ⟨v939, rfl, ho0, hb⟩; refine ⟨_, rfl, ?_⟩; replace HO916 := Aside0.mk (vb HO916.out hb); replace HO919 := Aside0.mk (vb HO919.out hb); replace HO922 := Aside0.mk (vb HO922.out hb); replace HO925 := Aside0.mk (vb HO925.out hb); replace HO928 := Aside0.mk (vb HO928.out hb); replace HO931 := Aside0.mk (vb HO931.out hb); replace HO937 := Aside0.mk (vb HO937.out hb); have HO940 := Aside0.mk (Kd.V_lower (Kd.V_mono (ok' := fun k_ => k_ ≠ gb933 ∧ k_ ≠ gb934) ho0 (fun k_ hk_ => ⟨(fb BK933.out k_ hk_), (fb BK934.out k_ hk_)⟩)) (bz HB.out)); replace BK933 := Aside0.mk (bb BK933.out hb); replace BK934 := Aside0.mk (bb BK934.out hb); replace HB := Aside0.mk (bs HB.out hb); (try clear hb); (try clear hb2); (try clear hk); (try clear hi); (try clear ho0)) | ((with_reducible refine gate_callee (f := 33) rfl ?_); refine goesL_ (some 27) rfl rfl Try.func33 (by kernel_rfl) rfl #[.slice A1 l1.length c1] rfl (by (try simp only [List.map_toArray, List.map_cons, List.map_nil]); first | done | rfl | (simp only [List.length_drop, List.length_take]; rfl)) ?_; (with_reducible refine (chattellaw02_cut.calls (fun k_ => k_ < w.heap.size) _ _ l1 t941 _ ?side1 A10.out).mono ?_); (case side1 => exact Kd.V_mk HC1.out (Kd.F_below (Kd.C_F (Kd.heap_int .u64) HR1.out) (by repeat (first | (with_reducible first | exact HB.out | apply below_alloc | apply pw_below_drewN | apply below_drew1 | refine below_set ?_ GE933.out | refine below_set ?_ GE934.out) | exact HB.out)))); rintro e w77 ⟨v942, rfl, ho0, hb⟩; refine ⟨_, rfl, ?_⟩; replace HO916 := Aside0.mk (vb HO916.out hb); replace HO919 := Aside0.mk (vb HO919.out hb); replace HO922 := Aside0.mk (vb HO922.out hb); replace HO925 := Aside0.mk (vb HO925.out hb); replace HO928 := Aside0.mk (vb HO928.out hb); replace HO931 := Aside0.mk (vb HO931.out hb); replace HO937 := Aside0.mk (vb HO937.out hb); replace HO940 := Aside0.mk (vb HO940.out hb); have HO943 := Aside0.mk (Kd.V_lower (Kd.V_mono (ok' := fun k_ => k_ ≠ gb933 ∧ k_ ≠ gb934) ho0 (fun k_ hk_ => ⟨Or.elim hk_ (fun hs_ => fun e_ => Nat.not_le.2 hs_ (by rw [e_]; exact GW933.out)) (fun hn_ => (fb BK933.out k_ hn_)), Or.elim hk_ (fun hs_ => fun e_ => Nat.not_le.2 hs_ (by rw [e_]; exact GW934.out)) (fun hn_ => (fb BK934.out k_ hn_))⟩)) (bz HB.out)); replace BK933 := Aside0.mk (bb BK933.out hb); replace BK934 := Aside0.mk (bb BK934.out hb); replace HB := Aside0.mk (bs HB.out hb); (try clear hb); (try clear hb2); (try clear hk); (try clear hi); (try clear ho0); obtain ⟨Ao78, co78, eo78⟩ := Kd.V_slice HO943.out; subst eo78) | ((with_reducible refine gate_callee (f := 23) rfl ?_); refine goesL_ (some 28) rfl rfl Try.func23 (by kernel_rfl) rfl #[.slice Ao78 t941.length co78] rfl (by (try simp only [List.map_toArray, List.map_cons, List.map_nil]); first | done | rfl | (simp only [List.length_drop, List.length_take]; rfl)) ?_; (with_reducible refine (chattelref01_Of.calls k _ _ t941 t944 _ ?side1 ?side2 A11.out).mono ?_); (case side1 => exact cv HO943.out); (case side2 => exact (Kd.V_reads' HO943.out).2.1); rintro e w79 ⟨v945, rfl, ho0, hb⟩; refine ⟨_, rfl, ?_⟩; replace HO916 := Aside0.mk (vb HO916.out hb); replace HO919 := Aside0.mk (vb HO919.out hb); replace HO922 := Aside0.mk (vb HO922.out hb); replace HO925 := Aside0.mk (vb HO925.out hb); replace HO928 := Aside0.mk (vb HO928.out hb); replace HO931 := Aside0.mk (vb HO931.out hb); replace HO937 := Aside0.mk (vb HO937.out hb); replace HO940 := Aside0.mk (vb HO940.out hb); replace HO943 := Aside0.mk (vb HO943.out hb); have HO946 := Aside0.mk (Kd.V_lower (Kd.V_mono (ok' := fun k_ => k_ ≠ gb933 ∧ k_ ≠ gb934) ho0 (fun k_ hk_ => ⟨(fb BK933.out k_ hk_), (fb BK934.out k_ hk_)⟩)) (bz HB.out)); replace BK933 := Aside0.mk (bb BK933.out hb); replace BK934 := Aside0.mk (bb BK934.out hb); replace HB := Aside0.mk (bs HB.out hb); (try clear hb); (try clear hb2); (try clear hk); (try clear hi); (try clear ho0); obtain ⟨Ao80, co80, eo80⟩ := Kd.V_slice HO946.out; subst eo80; obtain ⟨Ao81, co81, eo81⟩ := Kd.V_slice HO940.out; subst eo81) | ((with_reducible refine gate_callee (f := 35) rfl ?_); refine goesL_ (some 48) rfl rfl Try.func35 (by kernel_rfl) rfl #[.slice Ao81 t938.length co81, .slice Ao80 t944.length co80] rfl (by (try simp only [List.map_toArray, List.map_cons, List.map_nil]); first | done | rfl | (simp only [List.length_drop, List.length_take]; rfl)) ?_; (with_reducible refine (chattelref01_DivMod.calls k _ _ t938 _ _ t944 t950 t953 _ ?side1 ?side2 ?side3 ?side4 A49.out).mono ?_); (case side1 => exact cv HO940.out); (case side2 => exact (Kd.V_reads' HO940.out).2.1); (case side3 => exact cv HO946.out); (case side4 => exact (Kd.V_reads' HO946.out).2.1); rintro e w82 ⟨v951, v954, rfl, ho0, ho1, hb⟩; refine ⟨_, rfl, ?_⟩; replace HO916 := Aside0.mk (vb HO916.out hb); replace HO919 := Aside0.mk (vb HO919.out hb); replace HO922 := Aside0.mk (vb HO922.out hb); replace HO925 := Aside0.mk (vb HO925.out hb); replace HO928 := Aside0.mk (vb HO928.out hb); replace HO931 := Aside0.mk (vb HO931.out hb); replace HO937 := Aside0.mk (vb HO937.out hb); replace HO940 := Aside0.mk (vb HO940.out hb); replace HO943 := Aside0.mk (vb HO943.out hb); replace HO946 := Aside0.mk (vb HO946.out hb); have HO952 := Aside0.mk (Kd.V_lower (Kd.V_mono (ok' := fun k_ => k_ ≠ gb933 ∧ k_ ≠ gb934) ho0 (fun k_ hk_ => ⟨(fb BK933.out k_ hk_), (fb BK934.out k_ hk_)⟩)) (bz HB.out)); have HO955 := Aside0.mk (Kd.V_lower (Kd.V_mono (ok' := fun k_ => k_ ≠ gb933 ∧ k_ ≠ gb934) ho1 (fun k_ hk_ => ⟨(fb BK933.out k_ hk_), (fb BK934.out k_ hk_)⟩)) (bz HB.out)); replace BK933 := Aside0.mk (bb BK933.out hb); replace BK934 := Aside0.mk (bb BK934.out hb); replace HB := Aside0.mk (bs HB.out hb); (try clear hb); (try clear hb2); (try clear hk); (try clear hi); (try clear ho0); (try clear ho1)) | ((with_reducible refine gate_callee (f := 34) rfl ?_); refine goesL_ (some 51) rfl rfl Try.func34 (by kernel_rfl) rfl #[] rfl (by (try simp only [List.map_toArray, List.map_cons, List.map_nil]); first | done | rfl | (simp only [List.length_drop, List.length_take]; rfl)) ?_; (with_reducible refine (chattellaw02_wakes.calls k  true _ A50.out (by first | rfl | exact ht_ | assumption)).mono ?_); rintro e w83 ⟨rfl, hb⟩; refine ⟨_, rfl, ?_⟩; replace HO916 := Aside0.mk (vb HO916.out hb); replace HO919 := Aside0.mk (vb HO919.out hb); replace HO922 := Aside0.mk (vb HO922.out hb); replace HO925 := Aside0.mk (vb HO925.out hb); replace HO928 := Aside0.mk (vb HO928.out hb); replace HO931 := Aside0.mk (vb HO931.out hb); replace HO937 := Aside0.mk (vb HO937.out hb); replace HO940 := Aside0.mk (vb HO940.out hb); replace HO943 := Aside0.mk (vb HO943.out hb); replace HO946 := Aside0.mk (vb HO946.out hb); replace HO952 := Aside0.mk (vb HO952.out hb); replace HO955 := Aside0.mk (vb HO955.out hb); replace BK933 := Aside0.mk (bb BK933.out hb); replace BK934 := Aside0.mk (bb BK934.out hb); replace HB := Aside0.mk (bs HB.out hb); (try clear hb); (try clear hb2); (try clear hk); (try clear hi); have hcz84_0 : w83.cell? ⟨gb933, 0, none⟩ = some (.slice Ao67 t926.length co67) := (blk_cell BK933.out 0).trans rfl; have hfz84_0 := blk_frozen BK933.out 0; obtain ⟨Ao85, co85, eo85⟩ := Kd.V_slice HO952.out; subst eo85) | (go_at_call 36; (with_reducible refine (chattellaw02_same.calls k _ _ t926 _ _ t950 true _ ?side1 ?side2 ?side3 ?side4 A53.out).mono ?_); (case side1 => exact cv HO928.out); (case side2 => exact (Kd.V_reads' HO928.out).2.1); (case side3 => exact cv HO952.out); (case side4 => exact (Kd.V_reads' HO952.out).2.1); rintro e w86 ⟨rfl, hb⟩; replace HO916 := Aside0.mk (vb HO916.out hb); replace HO919 := Aside0.mk (vb HO919.out hb); replace HO922 := Aside0.mk (vb HO922.out hb); replace HO925 := Aside0.mk (vb HO925.out hb); replace HO928 := Aside0.mk (vb HO928.out hb); replace HO931 := Aside0.mk (vb HO931.out hb); replace HO937 := Aside0.mk (vb HO937.out hb); replace HO940 := Aside0.mk (vb HO940.out hb); replace HO943 := Aside0.mk (vb HO943.out hb); replace HO946 := Aside0.mk (vb HO946.out hb); replace HO952 := Aside0.mk (vb HO952.out hb); replace HO955 := Aside0.mk (vb HO955.out hb); replace BK933 := Aside0.mk (bb BK933.out hb); replace BK934 := Aside0.mk (bb BK934.out hb); replace HB := Aside0.mk (bs HB.out hb); (try clear hb); (try clear hb2); (try clear hk); (try clear hi); have hcz87_0 : w86.cell? ⟨gb934, 0, none⟩ = some (.slice Ao71 t929.length co71) := (blk_cell BK934.out 0).trans rfl; have hfz87_0 := blk_frozen BK934.out 0; obtain ⟨Ao88, co88, eo88⟩ := Kd.V_slice HO955.out; subst eo88) | (go_at_call 36; (with_reducible refine (chattellaw02_same.calls k _ _ t929 _ _ t953 t958 _ ?side1 ?side2 ?side3 ?side4 A55.out).mono ?_); (case side1 => exact cv HO931.out); (case side2 => exact (Kd.V_reads' HO931.out).2.1); (case side3 => exact cv HO955.out); (case side4 => exact (Kd.V_reads' HO955.out).2.1); rintro e w89 ⟨rfl, hb⟩; replace HO916 := Aside0.mk (vb HO916.out hb); replace HO919 := Aside0.mk (vb HO919.out hb); replace HO922 := Aside0.mk (vb HO922.out hb); replace HO925 := Aside0.mk (vb HO925.out hb); replace HO928 := Aside0.mk (vb HO928.out hb); replace HO931 := Aside0.mk (vb HO931.out hb); replace HO937 := Aside0.mk (vb HO937.out hb); replace HO940 := Aside0.mk (vb HO940.out hb); replace HO943 := Aside0.mk (vb HO943.out hb); replace HO946 := Aside0.mk (vb HO946.out hb); replace HO952 := Aside0.mk (vb HO952.out hb); replace HO955 := Aside0.mk (vb HO955.out hb); replace BK933 := Aside0.mk (bb BK933.out hb); replace BK934 := Aside0.mk (bb BK934.out hb); replace HB := Aside0.mk (bs HB.out hb); (try clear hb); (try clear hb2); (try clear hk); (try clear hi)))
    go_ret
    exact ⟨by first | rfl | (simp [errW_none, errW_some] <;> rfl) | (simp [*, errW_none, errW_some] <;> rfl), by repeat (first | (with_reducible first | exact HB.out | apply below_alloc | apply pw_below_drewN | apply below_drew1 | refine below_set ?_ GE933.out | refine below_set ?_ GE934.out) | exact HB.out)⟩
   ·replace c54 := Bool.eq_false_iff.mpr c54
    subst c54
    have H1 : (some false) = some r := by rw [if_neg (show ¬ (false = true) by decide)] at H; exact H
    clear H
    have H := H1
    clear H1
    exact absurd (Option.some.inj H) (by rw [ht_]; decide)
  ·replace c51 := Bool.eq_false_iff.mpr c51
   subst c51
   have H1 : (some false) = some r := by rw [if_neg (show ¬ (false = true) by decide)] at H; exact H
   clear H
   have H := H1
   clear H1
   exact absurd (Option.some.inj H) (by rw [ht_]; decide)
def chattellaw02_QuotDivides.Pure : Prop := ∀ (l0 : List Int) (l1 : List Int), l0.length ≤ maxLen → l0.length * 8 ≤ 140737488351232 → (∀ x ∈ l0, (Lit.int .u64 x).wf = true) → l1.length ≤ maxLen → l1.length * 8 ≤ 140737488351232 → (∀ x ∈ l1, (Lit.int .u64 x).wf = true) → ∃ k, chattellaw02_QuotDivides.f k l0 l1 = some true
theorem chattellaw02_QuotDivides.walk (P : chattellaw02_QuotDivides.Pure) (a0 : Option Addr) (len0 cap0 : Nat) (z0 : List Int) (a1 : Option Addr) (len1 cap1 : Nat) (z1 : List Int) (w : World) (w0 : (a0 = none ∧ len0 = 0 ∧ cap0 = 0 ∧ z0 = []) ∨ ∃ x, a0 = some x ∧ len0 ≤ cap0 ∧ cap0 ≤ maxLen ∧ z0.length = cap0 ∧ (∀ i, i < z0.length → w.cell? (x.add i) = some (.int .u64 (z0.getD i 0))) ∧ ∀ n ∈ z0, (Lit.int .u64 n).wf = true) (y0 : len0 * 8 ≤ 140737488351232) (w1 : (a1 = none ∧ len1 = 0 ∧ cap1 = 0 ∧ z1 = []) ∨ ∃ x, a1 = some x ∧ len1 ≤ cap1 ∧ cap1 ≤ maxLen ∧ z1.length = cap1 ∧ (∀ i, i < z1.length → w.cell? (x.add i) = some (.int .u64 (z1.getD i 0))) ∧ ∀ n ∈ z1, (Lit.int .u64 n).wf = true) (y1 : len1 * 8 ≤ 140737488351232) :
  Calls Try.prog 8 #[.slice a0 len0 cap0, .slice a1 len1 cap1] w fun e w' => e = .returned (.bool true) ∧ Below w.heap.size w w' := by
 obtain ⟨l0, rfl, hr0, hm0, hw0, hc0⟩ := ReadsInt.ofRowC w0
 obtain ⟨l1, rfl, hr1, hm1, hw1, hc1⟩ := ReadsInt.ofRowC w1
 obtain ⟨k, h⟩ := P l0 l1 hm0 y0 hw0 hm1 y1 hw1
 refine (chattellaw02_QuotDivides.calls k _ _ l0 _ _ l1 true w (Kd.C_of_reads (d := (0 : Int)) (h1 := fun _ => rfl) hr0) hc0 (Kd.C_of_reads (d := (0 : Int)) (h1 := fun _ => rfl) hr1) hc1 h rfl).mono ?_
 rintro e w' ⟨rfl, hd⟩
 exact ⟨rfl, hd⟩
end Go.Proofs.Ytebjbmgfbejapaa.F
end
