-- Joined of: F32 F33 F34
import Derived.Test.YtebjbmgfbejapaaF0
import Derived.Test.YtebjbmgfbejapaaF5
import Derived.Test.YtebjbmgfbejapaaF24
import Derived.Test.YtebjbmgfbejapaaF1
import Derived.Test.YtebjbmgfbejapaaF4
import Derived.Test.YtebjbmgfbejapaaF16
import Derived.Test.YtebjbmgfbejapaaF17
import Derived.Test.YtebjbmgfbejapaaF18
import Derived.Test.YtebjbmgfbejapaaF21
import Derived.Test.YtebjbmgfbejapaaF22
import Derived.Test.YtebjbmgfbejapaaF28
import Derived.Test.YtebjbmgfbejapaaF30
import Derived.Test.YtebjbmgfbejapaaF31
section
-- Written by this session's printer (wip/tools), out of the translation's own print. Lean checks it.
namespace Go.Proofs.Ytebjbmgfbejapaa.F
open Go.RowKit Go.Proofs.YtebjbmgfbejapaaW.PrintWords Go.Proofs.YtebjbmgfbejapaaW.PrintLast Go.Proofs.YtebjbmgfbejapaaW.PrintMore Go.Proofs.YtebjbmgfbejapaaX
attribute [local go_sem] max2_int xrun_add64 xrun_sub64
attribute [local go_sem] max2_int min2_int max_two min_two max_three min_three max_four min_four   -- for this text's walks alone
set_option linter.unusedVariables false
set_option linter.unusedSimpArgs false

/-! ### slices_Equal_int_int: function 53 -/
def slices_Equal_int_int.l0 : Nat → List Int → List Int → Int → Int → Option (Bool)
  | 0, _, _, _, _ => none
  | k + 1, x0, x1, x12, x13 => if x13 < x12 then (if 0 ≤ x13 then (if x13 < (x0.length : Int) then (if x13 < (x1.length : Int) then (if (rd x0 x13) = (rd x1 x13) then (slices_Equal_int_int.l0 k x0 x1 x12 (wrap64 (x13 + 1))) else (some false)) else (none)) else (none)) else (none)) else (some true)
def slices_Equal_int_int.f (k : Nat) (l0 : List Int) (l1 : List Int) : Option (Bool) := if (l0.length : Int) = (l1.length : Int) then (slices_Equal_int_int.l0 k l0 l1 (l0.length : Int) 0) else (some false)
theorem slices_Equal_int_int.mono_l : ∀ k, (∀ y0 y1 y2 y3, LeO (slices_Equal_int_int.l0 k y0 y1 y2 y3) (slices_Equal_int_int.l0 (k + 1) y0 y1 y2 y3))
  | 0 => fun _ _ _ _ r h => by simp [slices_Equal_int_int.l0] at h
  | k + 1 => by
    have ih0 := slices_Equal_int_int.mono_l k
    · intro y0 y1 y2 y3
      unfold slices_Equal_int_int.l0
      repeat' first
      | (with_reducible exact ih0 _ _ _ _)
      | (with_reducible exact LeO.refl _)
      | (with_reducible exact LeO.none _)
      | (with_reducible refine LeO.ite ?_ ?_)
      | (with_reducible refine LeO.bind ?_ (fun _ => ?_))
      | exact ih0 _ _ _ _
      | exact LeO.none _
      | refine LeO.ite ?_ ?_
      | refine LeO.bind ?_ (fun _ => ?_)
theorem slices_Equal_int_int.mono : ∀ a0 a1 k, LeO (slices_Equal_int_int.f k a0 a1) (slices_Equal_int_int.f (k + 1) a0 a1) := by
  intro a0 a1 k
  have ih0 := slices_Equal_int_int.mono_l k
  unfold slices_Equal_int_int.f
  repeat' first
      | (with_reducible exact ih0 _ _ _ _)
      | (with_reducible exact LeO.refl _)
      | (with_reducible exact LeO.none _)
      | (with_reducible refine LeO.ite ?_ ?_)
      | (with_reducible refine LeO.bind ?_ (fun _ => ?_))
      | exact ih0 _ _ _ _
      | exact LeO.none _
      | refine LeO.ite ?_ ?_
      | refine LeO.bind ?_ (fun _ => ?_)
set_option maxHeartbeats 8000000 in
set_option maxRecDepth 100000 in
theorem slices_Equal_int_int.calls (k : Nat) (A0 : Option Addr) (c0 : Nat) (l0 : List Int) (A1 : Option Addr) (c1 : Nat) (l1 : List Int) (r : Bool) (w : World) (hr0 : Kd.C (Kd.int .i64) w A0 l0.length l0) (hc0 : l0.length ≤ c0) (hr1 : Kd.C (Kd.int .i64) w A1 l1.length l1) (hc1 : l1.length ≤ c1) (h : slices_Equal_int_int.f k l0 l1 = some r) :
    Calls Try.prog 53 #[.slice A0 l0.length c0, .slice A1 l1.length c1] w fun e w' => e = .returned (.bool r) ∧ Drawn0 w w' := by
  have HR0 := Aside0.mk hr0
  have HC0 := Aside0.mk hc0
  clear hr0 hc0
  have HR1 := Aside0.mk hr1
  have HC1 := Aside0.mk hc1
  clear hr1 hc1
  have H : (if (l0.length : Int) = (l1.length : Int) then (slices_Equal_int_int.l0 k l0 l1 (l0.length : Int) 0) else (some false)) = some r := h
  clear h
  by_cases c3 : (l0.length : Int) = (l1.length : Int)
  · rw [if_pos c3] at H
    have c3b0 : ((l0.length : Int) == (l1.length : Int)) = true := beq_iff_eq.mpr c3
    have c3b1 : ((l0.length : Int) != (l1.length : Int)) = false := bne_eq_false_iff_eq.mpr c3
    have c3b2 : (l0.length == l1.length) = true := by first | simpa using c3 | (simp at c3 ⊢; omega)
    clear c3
    have H' := Aside0.mk H
    clear H
    go_enter Try.func53, Try.ntmps53
    go_wp2
    repeat (go_quiet (fail); try go_wp2)
    go_loopg [13] k (fun kq v13 w' => ∃ (x13_1 : Int), v13 = .int .i64 x13_1 ∧ Aside0 (slices_Equal_int_int.l0 kq l0 l1 (l0.length : Int) x13_1 = some r) ∧ Aside0 (kq ≤ k) ∧ Drawn0 w w')
    case atStart => exact ⟨(0), (by first | rfl | (simp; done) | (simp [*]; done)), H', ⟨Nat.le_refl _⟩, by repeat (first | exact Drawn0.refl _ | apply Drawn0.step)⟩
    case round =>
      clear H'
      try clear c1
      try clear p2
      try clear c3
      try clear c3b0
      try clear c3b1
      try clear c3b2
      obtain ⟨x13_1, rfl, HA, HK1, ⟨m1, rfl⟩⟩ := hrel
      cases gk with
      | zero => exact absurd HA.out (by simp [slices_Equal_int_int.l0])
      | succ k1 =>
        have H := HA.out
        clear HA
        simp only [slices_Equal_int_int.l0] at H
        by_cases c4 : x13_1 < (l0.length : Int)
        · rw [if_pos c4] at H
          have c4b0 : decide (x13_1 < (l0.length : Int)) = true := decide_eq_true c4
          clear c4
          by_cases c5 : 0 ≤ x13_1
          rotate_left
          · rw [if_neg c5] at H
            exact absurd H (by simp)
          rw [if_pos c5] at H
          have c5b0 : decide (0 ≤ x13_1) = true := decide_eq_true c5
          clear c5
          by_cases c6 : x13_1 < (l0.length : Int)
          rotate_left
          · rw [if_neg c6] at H
            exact absurd H (by simp)
          rw [if_pos c6] at H
          have c6b0 : decide (x13_1 < (l0.length : Int)) = true := decide_eq_true c6
          clear c6
          by_cases c7 : x13_1 < (l1.length : Int)
          rotate_left
          · rw [if_neg c7] at H
            exact absurd H (by simp)
          rw [if_pos c7] at H
          have c7b0 : decide (x13_1 < (l1.length : Int)) = true := decide_eq_true c7
          clear c7
          by_cases c8 : (rd l0 x13_1) = (rd l1 x13_1)
          · rw [if_pos c8] at H
            have c8b0 : ((rd l0 x13_1) == (rd l1 x13_1)) = true := beq_iff_eq.mpr c8
            have c8b1 : ((rd l0 x13_1) != (rd l1 x13_1)) = false := bne_eq_false_iff_eq.mpr c8
            clear c8
            have H' := Aside0.mk H
            clear H
            have p399 : 0 ≤ (x13_1 : Int) := of_decide_eq_true (by first | (with_reducible assumption) | assumption)
            have q399 : x13_1 < (l0.length : Int) := of_decide_eq_true (by first | (with_reducible assumption) | assumption)
            obtain ⟨ad399, e399, hx399_0⟩ := Kd.at_int HR0.out x13_1 p399 q399
            cases e399
            replace p399 := eq_true p399
            replace q399 := eq_true q399
            have p400 : 0 ≤ (x13_1 : Int) := of_decide_eq_true (by first | (with_reducible assumption) | assumption)
            have q400 : x13_1 < (l1.length : Int) := of_decide_eq_true (by first | (with_reducible assumption) | assumption)
            obtain ⟨ad400, e400, hx400_0⟩ := Kd.at_int HR1.out x13_1 p400 q400
            cases e400
            replace p400 := eq_true p400
            replace q400 := eq_true q400
            go_wp2
            repeat (go_quiet (fail); try go_wp2)
            go_roundg k1
            case measure => have := HK1.out; omega
            case rel => exact ⟨(wrap64 (x13_1 + 1)), (by first | rfl | (simp; done) | (simp [*]; done)), H', ⟨by have := HK1.out; omega⟩, by repeat (first | exact Drawn0.refl _ | apply Drawn0.step)⟩
          · rw [if_neg c8] at H
            have c8b0 : ((rd l0 x13_1) == (rd l1 x13_1)) = false := beq_eq_false_iff_ne.mpr c8
            have c8b1 : ((rd l0 x13_1) != (rd l1 x13_1)) = true := bne_iff_ne.mpr c8
            obtain rfl := Option.some.inj H
            have p399 : 0 ≤ (x13_1 : Int) := of_decide_eq_true (by first | (with_reducible assumption) | assumption)
            have q399 : x13_1 < (l0.length : Int) := of_decide_eq_true (by first | (with_reducible assumption) | assumption)
            obtain ⟨ad399, e399, hx399_0⟩ := Kd.at_int HR0.out x13_1 p399 q399
            cases e399
            replace p399 := eq_true p399
            replace q399 := eq_true q399
            have p400 : 0 ≤ (x13_1 : Int) := of_decide_eq_true (by first | (with_reducible assumption) | assumption)
            have q400 : x13_1 < (l1.length : Int) := of_decide_eq_true (by first | (with_reducible assumption) | assumption)
            obtain ⟨ad400, e400, hx400_0⟩ := Kd.at_int HR1.out x13_1 p400 q400
            cases e400
            replace p400 := eq_true p400
            replace q400 := eq_true q400
            go_wp2
            repeat (go_quiet (fail); try go_wp2)
            go_ret
            exact ⟨by first | rfl | (simp; done) | (simp [*]; done), by repeat (first | exact Drawn0.refl _ | apply Drawn0.step)⟩
        · rw [if_neg c4] at H
          have c4b0 : decide (x13_1 < (l0.length : Int)) = false := decide_eq_false c4
          clear c4
          obtain rfl := Option.some.inj H
          go_wp2
          repeat (go_quiet (fail); try go_wp2)
          go_ret
          exact ⟨by first | rfl | (simp; done) | (simp [*]; done), by repeat (first | exact Drawn0.refl _ | apply Drawn0.step)⟩
  · rw [if_neg c3] at H
    have c3b0 : ((l0.length : Int) == (l1.length : Int)) = false := beq_eq_false_iff_ne.mpr c3
    have c3b1 : ((l0.length : Int) != (l1.length : Int)) = true := bne_iff_ne.mpr c3
    have c3b2 : (l0.length == l1.length) = false := by first | simpa using c3 | (simp at c3 ⊢; omega)
    obtain rfl := Option.some.inj H
    go_enter Try.func53, Try.ntmps53
    go_wp2
    repeat (go_quiet (fail); try go_wp2)
    go_ret
    exact ⟨by first | rfl | (simp; done) | (simp [*]; done), by repeat (first | exact Drawn0.refl _ | apply Drawn0.step)⟩

end Go.Proofs.Ytebjbmgfbejapaa.F
end

section
-- Written by this session's printer (wip/tools), out of the translation's own print. Lean checks it.
namespace Go.Proofs.Ytebjbmgfbejapaa.F
open Go.RowKit Go.Proofs.YtebjbmgfbejapaaW.PrintWords Go.Proofs.YtebjbmgfbejapaaW.PrintLast Go.Proofs.YtebjbmgfbejapaaW.PrintMore Go.Proofs.YtebjbmgfbejapaaX
attribute [local go_sem] max2_int xrun_add64 xrun_sub64
attribute [local go_sem] max2_int min2_int max_two min_two max_three min_three max_four min_four   -- for this text's walks alone
set_option linter.unusedVariables false
set_option linter.unusedSimpArgs false

/-! ### chattellaw01_same: function 28 -/
def chattellaw01_same.f (k : Nat) (l0_0 : List Int) (l1 : List Int) : Option (Bool) := (nat_Nat_Limbs.f l0_0).bind fun t402 => ((chattelref01_Of.f k t402).bind fun t405 => ((slices_Equal_int_int.f k t405 l1).bind fun t408 => (some t408)))
theorem chattellaw01_same.mono : ∀ a0 a1 k, LeO (chattellaw01_same.f k a0 a1) (chattellaw01_same.f (k + 1) a0 a1) := by
  intro a0 a1 k
  unfold chattellaw01_same.f
  repeat' first
      | (with_reducible exact chattelref01_Of.mono _ _)
      | (with_reducible exact slices_Equal_int_int.mono _ _ _)
      | (with_reducible exact LeO.refl _)
      | (with_reducible exact LeO.none _)
      | (with_reducible refine LeO.ite ?_ ?_)
      | (with_reducible refine LeO.bind ?_ (fun _ => ?_))
      | exact chattelref01_Of.mono _ _
      | exact slices_Equal_int_int.mono _ _ _
      | exact LeO.none _
      | refine LeO.ite ?_ ?_
      | refine LeO.bind ?_ (fun _ => ?_)
set_option maxHeartbeats 8000000 in
set_option maxRecDepth 100000 in
theorem chattellaw01_same.calls (k : Nat) (A0_0 : Option Addr) (c0_0 : Nat) (l0_0 : List Int) (A1 : Option Addr) (c1 : Nat) (l1 : List Int) (r : Bool) (w : World) (hr0_0 : Kd.C (Kd.int .u64) w A0_0 l0_0.length l0_0) (hc0_0 : l0_0.length ≤ c0_0) (hr1 : Kd.C (Kd.int .i64) w A1 l1.length l1) (hc1 : l1.length ≤ c1) (h : chattellaw01_same.f k l0_0 l1 = some r) :
    Calls Try.prog 28 #[.agg #[.slice A0_0 l0_0.length c0_0], .slice A1 l1.length c1] w fun e w' => e = .returned (.bool r) ∧ Below w.heap.size w w' := by
  have hu25 := Try.underlying25
  have HR0_0 := Aside0.mk hr0_0
  have HC0_0 := Aside0.mk hc0_0
  clear hr0_0 hc0_0
  have HR1 := Aside0.mk hr1
  have HC1 := Aside0.mk hc1
  clear hr1 hc1
  have HB := Aside0.mk (Below.refl w.heap.size w)
  have H : ((nat_Nat_Limbs.f l0_0).bind fun t402 => ((chattelref01_Of.f k t402).bind fun t405 => ((slices_Equal_int_int.f k t405 l1).bind fun t408 => (some t408)))) = some r := h
  clear h
  replace H := Option.bind_eq_some_iff.mp H
  obtain ⟨t402, A30, H⟩ := H
  replace H : ((chattelref01_Of.f k t402).bind fun t405 => ((slices_Equal_int_int.f k t405 l1).bind fun t408 => (some t408))) = some r := H
  have A3 := Aside0.mk A30
  clear A30
  replace H := Option.bind_eq_some_iff.mp H
  obtain ⟨t405, A40, H⟩ := H
  replace H : ((slices_Equal_int_int.f k t405 l1).bind fun t408 => (some t408)) = some r := H
  have A4 := Aside0.mk A40
  clear A40
  replace H := Option.bind_eq_some_iff.mp H
  obtain ⟨t408, A50, H⟩ := H
  replace H : (some t408) = some r := H
  have A5 := Aside0.mk A50
  clear A50
  obtain rfl := Option.some.inj H
  go_enter Try.func28, Try.ntmps28
  go_wp2_with (first | ((with_reducible refine gate_dst (N := 2) rfl ?_); refine box_event ?hg (N := 2) ?hd (cs := #[.slice A0_0 l0_0.length c0_0]) (t := 25) ?hr ?_; (case hd => rfl); (case hg => rfl); (case hr => first | (go_simp; done) | (go_simp; rfl)); intro gb401 hg w6 hbox hb; have n0_ := Aside0.mk (below_step (by repeat (first | (with_reducible first | exact HB.out | apply below_alloc | apply pw_below_drewN | apply below_drew1) | exact HB.out)) hb); have n1_ := Aside0.mk (hbox); have n2_ := Aside0.mk ((by rw [hg]; exact (below_size (by repeat (first | (with_reducible first | exact HB.out | apply below_alloc | apply pw_below_drewN | apply below_drew1) | exact HB.out))) : w.heap.size ≤ gb401)); have n3_ := Aside0.mk ((by rw [hg]; exact (below_size (by repeat (first | (with_reducible first | exact HB.out | apply below_alloc | apply pw_below_drewN | apply below_drew1) | exact HB.out))) : w.heap.size ≤ gb401)); clear HB; have HB := n0_; have BK401 := n1_; have GW401 := n2_; have GE401 := n3_; clear n0_ n1_ n2_ n3_; clear hb hbox hg; have hcz7_0 : w6.cell? ⟨gb401, 0, none⟩ = some (.slice A0_0 l0_0.length c0_0) := (blk_cell BK401.out 0).trans rfl; have hfz7_0 := blk_frozen BK401.out 0) | ((with_reducible refine gate_callee (f := 16) rfl ?_); refine goesL_ (some 6) rfl rfl Try.func16 (by kernel_rfl) rfl #[.agg #[.slice A0_0 l0_0.length c0_0]] rfl (by (try simp only [List.map_toArray, List.map_cons, List.map_nil]); first | done | rfl | (simp only [List.length_drop, List.length_take]; rfl)) ?_; (with_reducible refine (nat_Nat_Limbs.calls _ _ l0_0 t402 _ ?side1 ?side2 A3.out).mono ?_); (case side1 => repeat (first | exact (Kd.C_below HR0_0.out HB.out) | (with_reducible refine Kd.C_alloc ?_ _) | (with_reducible refine Kd.C_drewN ?_ _) | (with_reducible refine Kd.C_drew ?_))); (case side2 => exact HC0_0.out); rintro e w8 ⟨v403, rfl, ho0, hb⟩; refine ⟨_, rfl, ?_⟩; have HO404 := Aside0.mk (Kd.R_lower ho0 (bz HB.out)); replace BK401 := Aside0.mk (bb BK401.out hb); replace HB := Aside0.mk (bs HB.out hb); (try clear hb); (try clear hb2); (try clear hk); (try clear hi); (try clear ho0); obtain ⟨Ao9, co9, eo9⟩ := Kd.R_slice HO404.out; subst eo9) | ((with_reducible refine gate_callee (f := 23) rfl ?_); refine goesL_ (some 7) rfl rfl Try.func23 (by kernel_rfl) rfl #[.slice Ao9 t402.length co9] rfl (by (try simp only [List.map_toArray, List.map_cons, List.map_nil]); first | done | rfl | (simp only [List.length_drop, List.length_take]; rfl)) ?_; (with_reducible refine (chattelref01_Of.calls k _ _ t402 t405 _ ?side1 ?side2 A4.out).mono ?_); (case side1 => exact cr HO404.out); (case side2 => exact (Kd.R_reads' HO404.out).2.1); rintro e w10 ⟨v406, rfl, ho0, hb⟩; refine ⟨_, rfl, ?_⟩; have n0_ := Aside0.mk (rb HO404.out hb); have n1_ := Aside0.mk (Kd.V_lower (Kd.V_mono (ok' := fun k_ => some k_ ≠ (.slice Ao9 t402.length co9 : Value).ownBlock ∧ k_ ≠ gb401) ho0 (fun k_ hk_ => ⟨(Kd.fresh' (Kd.R_lt (by (with_reducible repeat (first | apply Kd.R_alloc | apply Kd.R_drewN | apply Kd.R_drew)); exact HO404.out)) k_ hk_), (fb BK401.out k_ hk_)⟩)) (bz HB.out)); have n2_ := Aside0.mk (bb BK401.out hb); have n3_ := Aside0.mk (bs HB.out hb); clear HO404; clear BK401; clear HB; have HO404 := n0_; have HO407 := n1_; have BK401 := n2_; have HB := n3_; clear n0_ n1_ n2_ n3_; (try clear hb); (try clear hb2); (try clear hk); (try clear hi); (try clear ho0); obtain ⟨Ao11, co11, eo11⟩ := Kd.V_slice HO407.out; subst eo11) | ((with_reducible refine gate_callee (f := 53) rfl ?_); refine goesL_ (some 9) rfl rfl Try.func53 (by kernel_rfl) rfl #[.slice Ao11 t405.length co11, .slice A1 l1.length c1] rfl (by (try simp only [List.map_toArray, List.map_cons, List.map_nil]); first | done | rfl | (simp only [List.length_drop, List.length_take]; rfl)) ?_; (with_reducible refine (slices_Equal_int_int.calls k _ _ t405 _ _ l1 t408 _ ?side1 ?side2 ?side3 ?side4 A5.out).mono ?_); (case side1 => exact cv HO407.out); (case side2 => exact (Kd.V_reads' HO407.out).2.1); (case side3 => repeat (first | exact (Kd.C_below HR1.out HB.out) | (with_reducible refine Kd.C_alloc ?_ _) | (with_reducible refine Kd.C_drewN ?_ _) | (with_reducible refine Kd.C_drew ?_))); (case side4 => exact HC1.out); rintro e w' ⟨rfl, ⟨nd, rfl⟩⟩; refine ⟨_, rfl, ?_⟩))
  go_ret
  exact ⟨by first | rfl | (simp [errW_none, errW_some] <;> rfl) | (simp [*, errW_none, errW_some] <;> rfl), by repeat (first | (with_reducible first | exact HB.out | apply below_alloc | apply pw_below_drewN | apply below_drew1 | refine below_set ?_ GE401.out) | exact HB.out)⟩

end Go.Proofs.Ytebjbmgfbejapaa.F
end

section
-- Written by this session's printer (wip/tools), out of the translation's own print. Lean checks it.
namespace Go.Proofs.Ytebjbmgfbejapaa.F
open Go.RowKit Go.Proofs.YtebjbmgfbejapaaW.PrintWords Go.Proofs.YtebjbmgfbejapaaW.PrintLast Go.Proofs.YtebjbmgfbejapaaW.PrintMore Go.Proofs.YtebjbmgfbejapaaX
attribute [local go_sem] max2_int xrun_add64 xrun_sub64
attribute [local go_sem] max2_int min2_int max_two min_two max_three min_three max_four min_four   -- for this text's walks alone
set_option linter.unusedVariables false
set_option linter.unusedSimpArgs false

/-! ### chattellaw01_NatSums: function 5 -/
def chattellaw01_NatSums.j0 : Nat → List Int → List Int → Bool → List Int → Bool → List Int → List Int → List Int → Option (Bool)
  | 0, _, _, _, _, _, _, _, _ => none
  | k + 1, x7, x8, x10, x11, x12, x422000, x423000, x440000 => (chattellaw01_wakes.f k).bind fun t444 => (if t444 = true then ((nat_Nat_Add.f k x422000 x423000).bind fun t445 => ((chattelref01_Add.f k x7 x8).bind fun t448 => ((chattellaw01_same.f k t445 t448).bind fun t451 => (if t451 = true then ((nat_Nat_Mul.f k x422000 x423000).bind fun t452 => ((chattelref01_Mul.f k x7 x8).bind fun t455 => ((chattellaw01_same.f k t452 t455).bind fun t458 => (if t458 = true then (if (x10 != x12) = true then ((chattellaw01_same.f k x440000 x11).bind fun t459 => (some t459)) else (some false)) else (some false))))) else (some false))))) else (some false))
def chattellaw01_NatSums.f (k : Nat) (l0 : List Int) (l1 : List Int) : Option (Bool) := (chattellaw01_cut.f l0).bind fun t409 => ((nat_Of.f k t409).bind fun t412 => ((chattellaw01_cut.f l1).bind fun t415 => ((nat_Of.f k t415).bind fun t418 => ((chattellaw01_cut.f l0).bind fun t423 => ((chattelref01_Of.f k t423).bind fun t426 => ((chattellaw01_cut.f l1).bind fun t429 => ((chattelref01_Of.f k t429).bind fun t432 => ((nat_Nat_Sub.f k t412 t418).bind fun bt435 => ((chattelref01_Cmp.f k t426 t432).bind fun t440 => (if t440 < 0 then (chattellaw01_NatSums.j0 k t426 t432 bt435.2 ([] : List Int) (decide (t440 < 0)) t412 t418 bt435.1) else ((chattelref01_Sub.f k t426 t432).bind fun t441 => (chattellaw01_NatSums.j0 k t426 t432 bt435.2 t441 (decide (t440 < 0)) t412 t418 bt435.1))))))))))))
theorem chattellaw01_NatSums.mono_l : ∀ k, (∀ y0 y1 y2 y3 y4 y5 y6 y7, LeO (chattellaw01_NatSums.j0 k y0 y1 y2 y3 y4 y5 y6 y7) (chattellaw01_NatSums.j0 (k + 1) y0 y1 y2 y3 y4 y5 y6 y7))
  | 0 => fun _ _ _ _ _ _ _ _ r h => by simp [chattellaw01_NatSums.j0] at h
  | k + 1 => by
    have ih0 := chattellaw01_NatSums.mono_l k
    · intro y0 y1 y2 y3 y4 y5 y6 y7
      unfold chattellaw01_NatSums.j0
      repeat' first
      | (with_reducible exact ih0 _ _ _ _ _ _ _ _)
      | (with_reducible exact chattellaw01_same.mono _ _ _)
      | (with_reducible exact chattellaw01_wakes.mono _)
      | (with_reducible exact chattelref01_Add.mono _ _ _)
      | (with_reducible exact chattelref01_Cmp.mono _ _ _)
      | (with_reducible exact chattelref01_Mul.mono _ _ _)
      | (with_reducible exact chattelref01_Of.mono _ _)
      | (with_reducible exact chattelref01_Sub.mono _ _ _)
      | (with_reducible exact nat_Nat_Add.mono _ _ _)
      | (with_reducible exact nat_Nat_Mul.mono _ _ _)
      | (with_reducible exact nat_Nat_Sub.mono _ _ _)
      | (with_reducible exact nat_Of.mono _ _)
      | (with_reducible exact LeO.refl _)
      | (with_reducible exact LeO.none _)
      | (with_reducible refine LeO.ite ?_ ?_)
      | (with_reducible refine LeO.bind ?_ (fun _ => ?_))
      | exact ih0 _ _ _ _ _ _ _ _
      | exact chattellaw01_same.mono _ _ _
      | exact chattellaw01_wakes.mono _
      | exact chattelref01_Add.mono _ _ _
      | exact chattelref01_Cmp.mono _ _ _
      | exact chattelref01_Mul.mono _ _ _
      | exact chattelref01_Of.mono _ _
      | exact chattelref01_Sub.mono _ _ _
      | exact nat_Nat_Add.mono _ _ _
      | exact nat_Nat_Mul.mono _ _ _
      | exact nat_Nat_Sub.mono _ _ _
      | exact nat_Of.mono _ _
      | exact LeO.none _
      | refine LeO.ite ?_ ?_
      | refine LeO.bind ?_ (fun _ => ?_)
theorem chattellaw01_NatSums.mono : ∀ a0 a1 k, LeO (chattellaw01_NatSums.f k a0 a1) (chattellaw01_NatSums.f (k + 1) a0 a1) := by
  intro a0 a1 k
  have ih0 := chattellaw01_NatSums.mono_l k
  unfold chattellaw01_NatSums.f
  repeat' first
      | (with_reducible exact ih0 _ _ _ _ _ _ _ _)
      | (with_reducible exact chattellaw01_same.mono _ _ _)
      | (with_reducible exact chattellaw01_wakes.mono _)
      | (with_reducible exact chattelref01_Add.mono _ _ _)
      | (with_reducible exact chattelref01_Cmp.mono _ _ _)
      | (with_reducible exact chattelref01_Mul.mono _ _ _)
      | (with_reducible exact chattelref01_Of.mono _ _)
      | (with_reducible exact chattelref01_Sub.mono _ _ _)
      | (with_reducible exact nat_Nat_Add.mono _ _ _)
      | (with_reducible exact nat_Nat_Mul.mono _ _ _)
      | (with_reducible exact nat_Nat_Sub.mono _ _ _)
      | (with_reducible exact nat_Of.mono _ _)
      | (with_reducible exact LeO.refl _)
      | (with_reducible exact LeO.none _)
      | (with_reducible refine LeO.ite ?_ ?_)
      | (with_reducible refine LeO.bind ?_ (fun _ => ?_))
      | exact ih0 _ _ _ _ _ _ _ _
      | exact chattellaw01_same.mono _ _ _
      | exact chattellaw01_wakes.mono _
      | exact chattelref01_Add.mono _ _ _
      | exact chattelref01_Cmp.mono _ _ _
      | exact chattelref01_Mul.mono _ _ _
      | exact chattelref01_Of.mono _ _
      | exact chattelref01_Sub.mono _ _ _
      | exact nat_Nat_Add.mono _ _ _
      | exact nat_Nat_Mul.mono _ _ _
      | exact nat_Nat_Sub.mono _ _ _
      | exact nat_Of.mono _ _
      | exact LeO.none _
      | refine LeO.ite ?_ ?_
      | refine LeO.bind ?_ (fun _ => ?_)
set_option maxHeartbeats 8000000 in
set_option maxRecDepth 100000 in
theorem chattellaw01_NatSums.calls (k : Nat) (A0 : Option Addr) (c0 : Nat) (l0 : List Int) (A1 : Option Addr) (c1 : Nat) (l1 : List Int) (r : Bool) (w : World) (hr0 : Kd.C (Kd.int .u64) w A0 l0.length l0) (hc0 : l0.length ≤ c0) (hr1 : Kd.C (Kd.int .u64) w A1 l1.length l1) (hc1 : l1.length ≤ c1) (h : chattellaw01_NatSums.f k l0 l1 = some r) (ht_ : r = true) :
    Calls Try.prog 5 #[.slice A0 l0.length c0, .slice A1 l1.length c1] w fun e w' => e = .returned (.bool r) ∧ Below w.heap.size w w' := by
  have hu25 := Try.underlying25
  have HR0 := Aside0.mk hr0
  have HC0 := Aside0.mk hc0
  clear hr0 hc0
  have HR1 := Aside0.mk hr1
  have HC1 := Aside0.mk hc1
  clear hr1 hc1
  have HB := Aside0.mk (Below.refl w.heap.size w)
  have H : ((chattellaw01_cut.f l0).bind fun t409 => ((nat_Of.f k t409).bind fun t412 => ((chattellaw01_cut.f l1).bind fun t415 => ((nat_Of.f k t415).bind fun t418 => ((chattellaw01_cut.f l0).bind fun t423 => ((chattelref01_Of.f k t423).bind fun t426 => ((chattellaw01_cut.f l1).bind fun t429 => ((chattelref01_Of.f k t429).bind fun t432 => ((nat_Nat_Sub.f k t412 t418).bind fun bt435 => ((chattelref01_Cmp.f k t426 t432).bind fun t440 => (if t440 < 0 then (chattellaw01_NatSums.j0 k t426 t432 bt435.2 ([] : List Int) (decide (t440 < 0)) t412 t418 bt435.1) else ((chattelref01_Sub.f k t426 t432).bind fun t441 => (chattellaw01_NatSums.j0 k t426 t432 bt435.2 t441 (decide (t440 < 0)) t412 t418 bt435.1))))))))))))) = some r := h
  clear h
  replace H := Option.bind_eq_some_iff.mp H
  obtain ⟨t409, A30, H⟩ := H
  replace H : ((nat_Of.f k t409).bind fun t412 => ((chattellaw01_cut.f l1).bind fun t415 => ((nat_Of.f k t415).bind fun t418 => ((chattellaw01_cut.f l0).bind fun t423 => ((chattelref01_Of.f k t423).bind fun t426 => ((chattellaw01_cut.f l1).bind fun t429 => ((chattelref01_Of.f k t429).bind fun t432 => ((nat_Nat_Sub.f k t412 t418).bind fun bt435 => ((chattelref01_Cmp.f k t426 t432).bind fun t440 => (if t440 < 0 then (chattellaw01_NatSums.j0 k t426 t432 bt435.2 ([] : List Int) (decide (t440 < 0)) t412 t418 bt435.1) else ((chattelref01_Sub.f k t426 t432).bind fun t441 => (chattellaw01_NatSums.j0 k t426 t432 bt435.2 t441 (decide (t440 < 0)) t412 t418 bt435.1)))))))))))) = some r := H
  have A3 := Aside0.mk A30
  clear A30
  replace H := Option.bind_eq_some_iff.mp H
  obtain ⟨t412, A40, H⟩ := H
  replace H : ((chattellaw01_cut.f l1).bind fun t415 => ((nat_Of.f k t415).bind fun t418 => ((chattellaw01_cut.f l0).bind fun t423 => ((chattelref01_Of.f k t423).bind fun t426 => ((chattellaw01_cut.f l1).bind fun t429 => ((chattelref01_Of.f k t429).bind fun t432 => ((nat_Nat_Sub.f k t412 t418).bind fun bt435 => ((chattelref01_Cmp.f k t426 t432).bind fun t440 => (if t440 < 0 then (chattellaw01_NatSums.j0 k t426 t432 bt435.2 ([] : List Int) (decide (t440 < 0)) t412 t418 bt435.1) else ((chattelref01_Sub.f k t426 t432).bind fun t441 => (chattellaw01_NatSums.j0 k t426 t432 bt435.2 t441 (decide (t440 < 0)) t412 t418 bt435.1))))))))))) = some r := H
  have A4 := Aside0.mk A40
  clear A40
  replace H := Option.bind_eq_some_iff.mp H
  obtain ⟨t415, A50, H⟩ := H
  replace H : ((nat_Of.f k t415).bind fun t418 => ((chattellaw01_cut.f l0).bind fun t423 => ((chattelref01_Of.f k t423).bind fun t426 => ((chattellaw01_cut.f l1).bind fun t429 => ((chattelref01_Of.f k t429).bind fun t432 => ((nat_Nat_Sub.f k t412 t418).bind fun bt435 => ((chattelref01_Cmp.f k t426 t432).bind fun t440 => (if t440 < 0 then (chattellaw01_NatSums.j0 k t426 t432 bt435.2 ([] : List Int) (decide (t440 < 0)) t412 t418 bt435.1) else ((chattelref01_Sub.f k t426 t432).bind fun t441 => (chattellaw01_NatSums.j0 k t426 t432 bt435.2 t441 (decide (t440 < 0)) t412 t418 bt435.1)))))))))) = some r := H
  have A5 := Aside0.mk A50
  clear A50
  replace H := Option.bind_eq_some_iff.mp H
  obtain ⟨t418, A60, H⟩ := H
  replace H : ((chattellaw01_cut.f l0).bind fun t423 => ((chattelref01_Of.f k t423).bind fun t426 => ((chattellaw01_cut.f l1).bind fun t429 => ((chattelref01_Of.f k t429).bind fun t432 => ((nat_Nat_Sub.f k t412 t418).bind fun bt435 => ((chattelref01_Cmp.f k t426 t432).bind fun t440 => (if t440 < 0 then (chattellaw01_NatSums.j0 k t426 t432 bt435.2 ([] : List Int) (decide (t440 < 0)) t412 t418 bt435.1) else ((chattelref01_Sub.f k t426 t432).bind fun t441 => (chattellaw01_NatSums.j0 k t426 t432 bt435.2 t441 (decide (t440 < 0)) t412 t418 bt435.1))))))))) = some r := H
  have A6 := Aside0.mk A60
  clear A60
  replace H := Option.bind_eq_some_iff.mp H
  obtain ⟨t423, A70, H⟩ := H
  replace H : ((chattelref01_Of.f k t423).bind fun t426 => ((chattellaw01_cut.f l1).bind fun t429 => ((chattelref01_Of.f k t429).bind fun t432 => ((nat_Nat_Sub.f k t412 t418).bind fun bt435 => ((chattelref01_Cmp.f k t426 t432).bind fun t440 => (if t440 < 0 then (chattellaw01_NatSums.j0 k t426 t432 bt435.2 ([] : List Int) (decide (t440 < 0)) t412 t418 bt435.1) else ((chattelref01_Sub.f k t426 t432).bind fun t441 => (chattellaw01_NatSums.j0 k t426 t432 bt435.2 t441 (decide (t440 < 0)) t412 t418 bt435.1)))))))) = some r := H
  have A7 := Aside0.mk A70
  clear A70
  replace H := Option.bind_eq_some_iff.mp H
  obtain ⟨t426, A80, H⟩ := H
  replace H : ((chattellaw01_cut.f l1).bind fun t429 => ((chattelref01_Of.f k t429).bind fun t432 => ((nat_Nat_Sub.f k t412 t418).bind fun bt435 => ((chattelref01_Cmp.f k t426 t432).bind fun t440 => (if t440 < 0 then (chattellaw01_NatSums.j0 k t426 t432 bt435.2 ([] : List Int) (decide (t440 < 0)) t412 t418 bt435.1) else ((chattelref01_Sub.f k t426 t432).bind fun t441 => (chattellaw01_NatSums.j0 k t426 t432 bt435.2 t441 (decide (t440 < 0)) t412 t418 bt435.1))))))) = some r := H
  have A8 := Aside0.mk A80
  clear A80
  replace H := Option.bind_eq_some_iff.mp H
  obtain ⟨t429, A90, H⟩ := H
  replace H : ((chattelref01_Of.f k t429).bind fun t432 => ((nat_Nat_Sub.f k t412 t418).bind fun bt435 => ((chattelref01_Cmp.f k t426 t432).bind fun t440 => (if t440 < 0 then (chattellaw01_NatSums.j0 k t426 t432 bt435.2 ([] : List Int) (decide (t440 < 0)) t412 t418 bt435.1) else ((chattelref01_Sub.f k t426 t432).bind fun t441 => (chattellaw01_NatSums.j0 k t426 t432 bt435.2 t441 (decide (t440 < 0)) t412 t418 bt435.1)))))) = some r := H
  have A9 := Aside0.mk A90
  clear A90
  replace H := Option.bind_eq_some_iff.mp H
  obtain ⟨t432, A100, H⟩ := H
  replace H : ((nat_Nat_Sub.f k t412 t418).bind fun bt435 => ((chattelref01_Cmp.f k t426 t432).bind fun t440 => (if t440 < 0 then (chattellaw01_NatSums.j0 k t426 t432 bt435.2 ([] : List Int) (decide (t440 < 0)) t412 t418 bt435.1) else ((chattelref01_Sub.f k t426 t432).bind fun t441 => (chattellaw01_NatSums.j0 k t426 t432 bt435.2 t441 (decide (t440 < 0)) t412 t418 bt435.1))))) = some r := H
  have A10 := Aside0.mk A100
  clear A100
  replace H := Option.bind_eq_some_iff.mp H
  obtain ⟨⟨t435, t438⟩, A110, H⟩ := H
  replace H : ((chattelref01_Cmp.f k t426 t432).bind fun t440 => (if t440 < 0 then (chattellaw01_NatSums.j0 k t426 t432 t438 ([] : List Int) (decide (t440 < 0)) t412 t418 t435) else ((chattelref01_Sub.f k t426 t432).bind fun t441 => (chattellaw01_NatSums.j0 k t426 t432 t438 t441 (decide (t440 < 0)) t412 t418 t435)))) = some r := H
  have A11 := Aside0.mk A110
  clear A110
  replace H := Option.bind_eq_some_iff.mp H
  obtain ⟨t440, A120, H⟩ := H
  replace H : (if t440 < 0 then (chattellaw01_NatSums.j0 k t426 t432 t438 ([] : List Int) (decide (t440 < 0)) t412 t418 t435) else ((chattelref01_Sub.f k t426 t432).bind fun t441 => (chattellaw01_NatSums.j0 k t426 t432 t438 t441 (decide (t440 < 0)) t412 t418 t435))) = some r := H
  have A12 := Aside0.mk A120
  clear A120
  have HC13 := Aside0.mk H
  clear H
  go_enter Try.func5, Try.ntmps5
  go_upto_if 36 with (first | ((with_reducible refine gate_callee (f := 13) rfl ?_); refine goesL_ (some 14) rfl rfl Try.func13 (by kernel_rfl) rfl #[.slice A0 l0.length c0] rfl (by (try simp only [List.map_toArray, List.map_cons, List.map_nil]); first | done | rfl | (simp only [List.length_drop, List.length_take]; rfl)) ?_; (with_reducible refine (chattellaw01_cut.calls (fun k_ => k_ < w.heap.size) _ _ l0 t409 _ ?side1 A3.out).mono ?_); (case side1 => exact Kd.V_mk HC0.out (Kd.F_below (Kd.C_F (Kd.heap_int .u64) HR0.out) (by repeat (first | (with_reducible first | exact HB.out | apply below_alloc | apply pw_below_drewN | apply below_drew1) | exact HB.out)))); rintro e w14 ⟨v410, rfl, ho0, hb⟩; refine ⟨_, rfl, ?_⟩; have HO411 := Aside0.mk (Kd.V_lower (Kd.V_mono (ok' := fun k_ => True) ho0 (fun k_ hk_ => trivial)) (below_size (by repeat (first | (with_reducible first | exact HB.out | apply below_alloc | apply pw_below_drewN | apply below_drew1) | exact HB.out)))); replace HB := Aside0.mk (below_step (by repeat (first | (with_reducible first | exact HB.out | apply below_alloc | apply pw_below_drewN | apply below_drew1) | exact HB.out)) hb); (try clear hb); (try clear hb2); (try clear hk); (try clear hi); (try clear ho0); obtain ⟨Ao15, co15, eo15⟩ := Kd.V_slice HO411.out; subst eo15) | ((with_reducible refine gate_callee (f := 14) rfl ?_); refine goesL_ (some 15) rfl rfl Try.func14 (by kernel_rfl) rfl #[.slice Ao15 t409.length co15] rfl (by (try simp only [List.map_toArray, List.map_cons, List.map_nil]); first | done | rfl | (simp only [List.length_drop, List.length_take]; rfl)) ?_; (with_reducible refine (nat_Of.calls k _ _ t409 t412 _ ?side1 ?side2 A4.out).mono ?_); (case side1 => exact cv HO411.out); (case side2 => exact (Kd.V_reads' HO411.out).2.1); rintro e w16 ⟨v413, rfl, ho0, hb⟩; refine ⟨_, rfl, ?_⟩; replace HO411 := Aside0.mk (vb HO411.out hb); have HO414 := Aside0.mk (Kd.V_lower (Kd.V_mono (ok' := fun k_ => True) ho0 (fun k_ hk_ => trivial)) (bz HB.out)); replace HB := Aside0.mk (bs HB.out hb); (try clear hb); (try clear hb2); (try clear hk); (try clear hi); (try clear ho0)) | ((with_reducible refine gate_callee (f := 13) rfl ?_); refine goesL_ (some 17) rfl rfl Try.func13 (by kernel_rfl) rfl #[.slice A1 l1.length c1] rfl (by (try simp only [List.map_toArray, List.map_cons, List.map_nil]); first | done | rfl | (simp only [List.length_drop, List.length_take]; rfl)) ?_; (with_reducible refine (chattellaw01_cut.calls (fun k_ => k_ < w.heap.size) _ _ l1 t415 _ ?side1 A5.out).mono ?_); (case side1 => exact Kd.V_mk HC1.out (Kd.F_below (Kd.C_F (Kd.heap_int .u64) HR1.out) (by repeat (first | (with_reducible first | exact HB.out | apply below_alloc | apply pw_below_drewN | apply below_drew1) | exact HB.out)))); rintro e w17 ⟨v416, rfl, ho0, hb⟩; refine ⟨_, rfl, ?_⟩; replace HO411 := Aside0.mk (vb HO411.out hb); replace HO414 := Aside0.mk (vb HO414.out hb); have HO417 := Aside0.mk (Kd.V_lower (Kd.V_mono (ok' := fun k_ => True) ho0 (fun k_ hk_ => trivial)) (bz HB.out)); replace HB := Aside0.mk (bs HB.out hb); (try clear hb); (try clear hb2); (try clear hk); (try clear hi); (try clear ho0); obtain ⟨Ao18, co18, eo18⟩ := Kd.V_slice HO417.out; subst eo18) | ((with_reducible refine gate_callee (f := 14) rfl ?_); refine goesL_ (some 18) rfl rfl Try.func14 (by kernel_rfl) rfl #[.slice Ao18 t415.length co18] rfl (by (try simp only [List.map_toArray, List.map_cons, List.map_nil]); first | done | rfl | (simp only [List.length_drop, List.length_take]; rfl)) ?_; (with_reducible refine (nat_Of.calls k _ _ t415 t418 _ ?side1 ?side2 A6.out).mono ?_); (case side1 => exact cv HO417.out); (case side2 => exact (Kd.V_reads' HO417.out).2.1); rintro e w19 ⟨v419, rfl, ho0, hb⟩; refine ⟨_, rfl, ?_⟩; replace HO411 := Aside0.mk (vb HO411.out hb); replace HO414 := Aside0.mk (vb HO414.out hb); replace HO417 := Aside0.mk (vb HO417.out hb); have HO420 := Aside0.mk (Kd.V_lower (Kd.V_mono (ok' := fun k_ => True) ho0 (fun k_ hk_ => trivial)) (bz HB.out)); replace HB := Aside0.mk (bs HB.out hb); (try clear hb); (try clear hb2); (try clear hk); (try clear hi); (try clear ho0)) | ((with_reducible refine gate_dst (N := 5) rfl ?_); refine box_event ?hg (N := 5) ?hd (cs := #[.slice none 0 0]) (t := 25) ?hr ?_; (case hd => rfl); (case hg => rfl); (case hr => first | (go_simp; done) | (go_simp; rfl)); intro gb421 hg w20 hbox hb; have n0_ := Aside0.mk (Kd.V_below (Kd.V_elderB (by (with_reducible repeat (first | apply Kd.V_alloc | apply Kd.V_drewN | apply Kd.V_drew)); exact HO411.out) gb421 (Nat.le_of_eq hg.symm)) hb); have n1_ := Aside0.mk (Kd.V_below (Kd.V_elderB (by (with_reducible repeat (first | apply Kd.V_alloc | apply Kd.V_drewN | apply Kd.V_drew)); exact HO414.out) gb421 (Nat.le_of_eq hg.symm)) hb); have n2_ := Aside0.mk (Kd.V_below (Kd.V_elderB (by (with_reducible repeat (first | apply Kd.V_alloc | apply Kd.V_drewN | apply Kd.V_drew)); exact HO417.out) gb421 (Nat.le_of_eq hg.symm)) hb); have n3_ := Aside0.mk (Kd.V_below (Kd.V_elderB (by (with_reducible repeat (first | apply Kd.V_alloc | apply Kd.V_drewN | apply Kd.V_drew)); exact HO420.out) gb421 (Nat.le_of_eq hg.symm)) hb); have n4_ := Aside0.mk (below_step (by repeat (first | (with_reducible first | exact HB.out | apply below_alloc | apply pw_below_drewN | apply below_drew1) | exact HB.out)) hb); have n5_ := Aside0.mk (hbox); have n6_ := Aside0.mk ((by rw [hg]; exact (below_size (by repeat (first | (with_reducible first | exact HB.out | apply below_alloc | apply pw_below_drewN | apply below_drew1) | exact HB.out))) : w.heap.size ≤ gb421)); have n7_ := Aside0.mk ((by rw [hg]; exact (below_size (by repeat (first | (with_reducible first | exact HB.out | apply below_alloc | apply pw_below_drewN | apply below_drew1) | exact HB.out))) : w.heap.size ≤ gb421)); clear HO411; clear HO414; clear HO417; clear HO420; clear HB; have HO411 := n0_; have HO414 := n1_; have HO417 := n2_; have HO420 := n3_; have HB := n4_; have BK421 := n5_; have GW421 := n6_; have GE421 := n7_; clear n0_ n1_ n2_ n3_ n4_ n5_ n6_ n7_; clear hb hbox hg) | ((with_reducible refine gate_dst (N := 6) rfl ?_); refine box_event ?hg (N := 6) ?hd (cs := #[.slice none 0 0]) (t := 25) ?hr ?_; (case hd => rfl); (case hg => rfl); (case hr => first | (go_simp; done) | (go_simp; rfl)); intro gb422 hg w21 hbox hb; have n0_ := Aside0.mk (Kd.V_below (Kd.V_elderB (by (with_reducible repeat (first | apply Kd.V_alloc | apply Kd.V_drewN | apply Kd.V_drew)); exact HO411.out) gb422 (Nat.le_of_eq hg.symm)) hb); have n1_ := Aside0.mk (Kd.V_below (Kd.V_elderB (by (with_reducible repeat (first | apply Kd.V_alloc | apply Kd.V_drewN | apply Kd.V_drew)); exact HO414.out) gb422 (Nat.le_of_eq hg.symm)) hb); have n2_ := Aside0.mk (Kd.V_below (Kd.V_elderB (by (with_reducible repeat (first | apply Kd.V_alloc | apply Kd.V_drewN | apply Kd.V_drew)); exact HO417.out) gb422 (Nat.le_of_eq hg.symm)) hb); have n3_ := Aside0.mk (Kd.V_below (Kd.V_elderB (by (with_reducible repeat (first | apply Kd.V_alloc | apply Kd.V_drewN | apply Kd.V_drew)); exact HO420.out) gb422 (Nat.le_of_eq hg.symm)) hb); have n4_ := Aside0.mk (bb BK421.out hb); have n5_ := Aside0.mk (bs HB.out hb); have n6_ := Aside0.mk (hbox); have n7_ := Aside0.mk ((by rw [hg]; exact (bz HB.out) : w.heap.size ≤ gb422)); have n8_ := Aside0.mk ((by rw [hg]; exact (bz HB.out) : w.heap.size ≤ gb422)); have n9_ := Aside0.mk ((by rw [hg]; exact Nat.ne_of_lt (blk_lt (g := gb421) (o := .cells #[.slice none 0 0] 25 (0, 0)) (by (with_reducible repeat (first | refine blk_drewN ?_ _ | refine blk_drew ?_ | refine blk_alloc ?_ _)); exact BK421.out)) : gb421 ≠ gb422)); have n10_ := Aside0.mk ((by rw [hg]; exact Nat.ne_of_gt (blk_lt (g := gb421) (o := .cells #[.slice none 0 0] 25 (0, 0)) (by (with_reducible repeat (first | refine blk_drewN ?_ _ | refine blk_drew ?_ | refine blk_alloc ?_ _)); exact BK421.out)) : gb422 ≠ gb421)); clear HO411; clear HO414; clear HO417; clear HO420; clear BK421; clear HB; have HO411 := n0_; have HO414 := n1_; have HO417 := n2_; have HO420 := n3_; have BK421 := n4_; have HB := n5_; have BK422 := n6_; have GW422 := n7_; have GE422 := n8_; have NB421_422 := n9_; have NB422_421 := n10_; clear n0_ n1_ n2_ n3_ n4_ n5_ n6_ n7_ n8_ n9_ n10_; clear hb hbox hg; obtain ⟨Ao22, co22, eo22⟩ := Kd.V_slice HO414.out; subst eo22; have hnb23 := NB421_422.out; have hnc23 := NB422_421.out; have hcz24_0 : w21.cell? ⟨gb421, 0, none⟩ = some (.slice none 0 0) := (blk_cell BK421.out 0).trans rfl; have hfz24_0 := blk_frozen BK421.out 0) | ((with_reducible refine gate_store (t := 25) (p := 5) rfl ?_); refine store_event (t := 25) (p := 5) (v := ?vo_w25) (w1 := (w21.setCell ⟨gb421, 0, none⟩ (.slice Ao22 t412.length co22))) ?hg ?ho ?hn ?hr ?_; (case ho => rfl); (case hg => rfl); (case hn => rfl); (case hr => first | (go_simp; done) | (go_simp; rfl)); intro w25 hw; have n0_ : Aside0 (Kd.V (Kd.int .u64) 27 w25 w.heap.size (fun k_ => k_ ≠ gb421 ∧ k_ ≠ gb422) (.slice Ao15 t409.length co15) t409) := ⟨(by rw [hw]; exact (by (with_reducible repeat (first | apply Kd.V_alloc | apply Kd.V_drewN | apply Kd.V_drew)); exact Kd.V_mono (Kd.V_far (p := ⟨gb421, 0, none⟩) (Kd.V_mono HO411.out (fun k_ hk => (⟨hk, hk.1.2⟩ : _ ∧ k_ ≠ gb421))) (fun _ hk => hk.2) (.slice Ao22 t412.length co22)) (fun _ hk => ⟨hk.1.1.2, hk.1.2⟩)))⟩; have n1_ : Aside0 (Kd.V (Kd.int .u64) 27 w25 w.heap.size (fun k_ => k_ ≠ gb421 ∧ k_ ≠ gb422) (.slice Ao22 t412.length co22) t412) := ⟨(by rw [hw]; exact (by (with_reducible repeat (first | apply Kd.V_alloc | apply Kd.V_drewN | apply Kd.V_drew)); exact Kd.V_mono (Kd.V_far (p := ⟨gb421, 0, none⟩) (Kd.V_mono HO414.out (fun k_ hk => (⟨hk, hk.1.2⟩ : _ ∧ k_ ≠ gb421))) (fun _ hk => hk.2) (.slice Ao22 t412.length co22)) (fun _ hk => ⟨hk.1.1.2, hk.1.2⟩)))⟩; have n2_ : Aside0 (Kd.V (Kd.int .u64) 27 w25 w.heap.size (fun k_ => k_ ≠ gb421 ∧ k_ ≠ gb422) (.slice Ao18 t415.length co18) t415) := ⟨(by rw [hw]; exact (by (with_reducible repeat (first | apply Kd.V_alloc | apply Kd.V_drewN | apply Kd.V_drew)); exact Kd.V_mono (Kd.V_far (p := ⟨gb421, 0, none⟩) (Kd.V_mono HO417.out (fun k_ hk => (⟨hk, hk.1.2⟩ : _ ∧ k_ ≠ gb421))) (fun _ hk => hk.2) (.slice Ao22 t412.length co22)) (fun _ hk => ⟨hk.1.1.2, hk.1.2⟩)))⟩; have n3_ : Aside0 (Kd.V (Kd.int .u64) 27 w25 w.heap.size (fun k_ => k_ ≠ gb421 ∧ k_ ≠ gb422) v419 t418) := ⟨(by rw [hw]; exact (by (with_reducible repeat (first | apply Kd.V_alloc | apply Kd.V_drewN | apply Kd.V_drew)); exact Kd.V_mono (Kd.V_far (p := ⟨gb421, 0, none⟩) (Kd.V_mono HO420.out (fun k_ hk => (⟨hk, hk.1.2⟩ : _ ∧ k_ ≠ gb421))) (fun _ hk => hk.2) (.slice Ao22 t412.length co22)) (fun _ hk => ⟨hk.1.1.2, hk.1.2⟩)))⟩; have n4_ : Aside0 (w25.heap[gb421]? = some (.cells #[.slice Ao22 t412.length co22] 25 (0, 0))) := ⟨(by rw [hw]; exact (by (with_reducible repeat (first | refine blk_drewN ?_ _ | refine blk_drew ?_ | refine blk_alloc ?_ _)); refine blk_put (cs := #[.slice none 0 0]) ?_ 0 _ rfl; (with_reducible repeat (first | refine blk_drewN ?_ _ | refine blk_drew ?_ | refine blk_alloc ?_ _)); exact BK421.out))⟩; have n5_ : Aside0 (w25.heap[gb422]? = some (.cells #[.slice none 0 0] 25 (0, 0))) := ⟨(by rw [hw]; exact (by (with_reducible repeat (first | refine blk_drewN ?_ _ | refine blk_drew ?_ | refine blk_alloc ?_ _)); refine blk_far ?_ NB422_421.out _; (with_reducible repeat (first | refine blk_drewN ?_ _ | refine blk_drew ?_ | refine blk_alloc ?_ _)); exact BK422.out))⟩; have n6_ : Aside0 (Below w.heap.size w w25) := ⟨(by rw [hw]; exact (by repeat (first | (with_reducible first | exact HB.out | apply below_alloc | apply pw_below_drewN | apply below_drew1 | refine below_set ?_ GE421.out | refine below_set ?_ GE422.out) | exact HB.out)))⟩; clear hw; clear HO411; clear HO414; clear HO417; clear HO420; clear BK421; clear BK422; clear HB; have HO411 := n0_; have HO414 := n1_; have HO417 := n2_; have HO420 := n3_; have BK421 := n4_; have BK422 := n5_; have HB := n6_; clear n0_ n1_ n2_ n3_ n4_ n5_ n6_; obtain ⟨Ao26, co26, eo26⟩ := Kd.V_slice HO420.out; subst eo26; have hcz27_0 : w25.cell? ⟨gb422, 0, none⟩ = some (.slice none 0 0) := (blk_cell BK422.out 0).trans rfl; have hfz27_0 := blk_frozen BK422.out 0) | ((with_reducible refine gate_store (t := 25) (p := 6) rfl ?_); refine store_event (t := 25) (p := 6) (v := ?vo_w28) (w1 := (w25.setCell ⟨gb422, 0, none⟩ (.slice Ao26 t418.length co26))) ?hg ?ho ?hn ?hr ?_; (case ho => rfl); (case hg => rfl); (case hn => rfl); (case hr => first | (go_simp; done) | (go_simp; rfl)); intro w28 hw; have n0_ : Aside0 (Kd.V (Kd.int .u64) 27 w28 w.heap.size (fun k_ => k_ ≠ gb421 ∧ k_ ≠ gb422) (.slice Ao15 t409.length co15) t409) := ⟨(by rw [hw]; exact (by (with_reducible repeat (first | apply Kd.V_alloc | apply Kd.V_drewN | apply Kd.V_drew)); exact Kd.V_mono (Kd.V_far (p := ⟨gb422, 0, none⟩) (Kd.V_mono HO411.out (fun k_ hk => (⟨hk, hk.2⟩ : _ ∧ k_ ≠ gb422))) (fun _ hk => hk.2) (.slice Ao26 t418.length co26)) (fun _ hk => ⟨hk.1.1, hk.1.2⟩)))⟩; have n1_ : Aside0 (Kd.V (Kd.int .u64) 27 w28 w.heap.size (fun k_ => k_ ≠ gb421 ∧ k_ ≠ gb422) (.slice Ao22 t412.length co22) t412) := ⟨(by rw [hw]; exact (by (with_reducible repeat (first | apply Kd.V_alloc | apply Kd.V_drewN | apply Kd.V_drew)); exact Kd.V_mono (Kd.V_far (p := ⟨gb422, 0, none⟩) (Kd.V_mono HO414.out (fun k_ hk => (⟨hk, hk.2⟩ : _ ∧ k_ ≠ gb422))) (fun _ hk => hk.2) (.slice Ao26 t418.length co26)) (fun _ hk => ⟨hk.1.1, hk.1.2⟩)))⟩; have n2_ : Aside0 (Kd.V (Kd.int .u64) 27 w28 w.heap.size (fun k_ => k_ ≠ gb421 ∧ k_ ≠ gb422) (.slice Ao18 t415.length co18) t415) := ⟨(by rw [hw]; exact (by (with_reducible repeat (first | apply Kd.V_alloc | apply Kd.V_drewN | apply Kd.V_drew)); exact Kd.V_mono (Kd.V_far (p := ⟨gb422, 0, none⟩) (Kd.V_mono HO417.out (fun k_ hk => (⟨hk, hk.2⟩ : _ ∧ k_ ≠ gb422))) (fun _ hk => hk.2) (.slice Ao26 t418.length co26)) (fun _ hk => ⟨hk.1.1, hk.1.2⟩)))⟩; have n3_ : Aside0 (Kd.V (Kd.int .u64) 27 w28 w.heap.size (fun k_ => k_ ≠ gb421 ∧ k_ ≠ gb422) (.slice Ao26 t418.length co26) t418) := ⟨(by rw [hw]; exact (by (with_reducible repeat (first | apply Kd.V_alloc | apply Kd.V_drewN | apply Kd.V_drew)); exact Kd.V_mono (Kd.V_far (p := ⟨gb422, 0, none⟩) (Kd.V_mono HO420.out (fun k_ hk => (⟨hk, hk.2⟩ : _ ∧ k_ ≠ gb422))) (fun _ hk => hk.2) (.slice Ao26 t418.length co26)) (fun _ hk => ⟨hk.1.1, hk.1.2⟩)))⟩; have n4_ : Aside0 (w28.heap[gb421]? = some (.cells #[.slice Ao22 t412.length co22] 25 (0, 0))) := ⟨(by rw [hw]; exact (by (with_reducible repeat (first | refine blk_drewN ?_ _ | refine blk_drew ?_ | refine blk_alloc ?_ _)); refine blk_far ?_ NB421_422.out _; (with_reducible repeat (first | refine blk_drewN ?_ _ | refine blk_drew ?_ | refine blk_alloc ?_ _)); exact BK421.out))⟩; have n5_ : Aside0 (w28.heap[gb422]? = some (.cells #[.slice Ao26 t418.length co26] 25 (0, 0))) := ⟨(by rw [hw]; exact (by (with_reducible repeat (first | refine blk_drewN ?_ _ | refine blk_drew ?_ | refine blk_alloc ?_ _)); refine blk_put (cs := #[.slice none 0 0]) ?_ 0 _ rfl; (with_reducible repeat (first | refine blk_drewN ?_ _ | refine blk_drew ?_ | refine blk_alloc ?_ _)); exact BK422.out))⟩; have n6_ : Aside0 (Below w.heap.size w w28) := ⟨(by rw [hw]; exact (by repeat (first | (with_reducible first | exact HB.out | apply below_alloc | apply pw_below_drewN | apply below_drew1 | refine below_set ?_ GE421.out | refine below_set ?_ GE422.out) | exact HB.out)))⟩; clear hw; clear HO411; clear HO414; clear HO417; clear HO420; clear BK421; clear BK422; clear HB; have HO411 := n0_; have HO414 := n1_; have HO417 := n2_; have HO420 := n3_; have BK421 := n4_; have BK422 := n5_; have HB := n6_; clear n0_ n1_ n2_ n3_ n4_ n5_ n6_) | ((with_reducible refine gate_callee (f := 13) rfl ?_); refine goesL_ (some 20) rfl rfl Try.func13 (by kernel_rfl) rfl #[.slice A0 l0.length c0] rfl (by (try simp only [List.map_toArray, List.map_cons, List.map_nil]); first | done | rfl | (simp only [List.length_drop, List.length_take]; rfl)) ?_; (with_reducible refine (chattellaw01_cut.calls (fun k_ => k_ < w.heap.size) _ _ l0 t423 _ ?side1 A7.out).mono ?_); (case side1 => exact Kd.V_mk HC0.out (Kd.F_below (Kd.C_F (Kd.heap_int .u64) HR0.out) (by repeat (first | (with_reducible first | exact HB.out | apply below_alloc | apply pw_below_drewN | apply below_drew1 | refine below_set ?_ GE421.out | refine below_set ?_ GE422.out) | exact HB.out)))); rintro e w29 ⟨v424, rfl, ho0, hb⟩; refine ⟨_, rfl, ?_⟩; replace HO411 := Aside0.mk (vb HO411.out hb); replace HO414 := Aside0.mk (vb HO414.out hb); replace HO417 := Aside0.mk (vb HO417.out hb); replace HO420 := Aside0.mk (vb HO420.out hb); have HO425 := Aside0.mk (Kd.V_lower (Kd.V_mono (ok' := fun k_ => k_ ≠ gb421 ∧ k_ ≠ gb422) ho0 (fun k_ hk_ => ⟨Or.elim hk_ (fun hs_ => fun e_ => Nat.not_le.2 hs_ (by rw [e_]; exact GW421.out)) (fun hn_ => (fb BK421.out k_ hn_)), Or.elim hk_ (fun hs_ => fun e_ => Nat.not_le.2 hs_ (by rw [e_]; exact GW422.out)) (fun hn_ => (fb BK422.out k_ hn_))⟩)) (bz HB.out)); replace BK421 := Aside0.mk (bb BK421.out hb); replace BK422 := Aside0.mk (bb BK422.out hb); replace HB := Aside0.mk (bs HB.out hb); (try clear hb); (try clear hb2); (try clear hk); (try clear hi); (try clear ho0); obtain ⟨Ao30, co30, eo30⟩ := Kd.V_slice HO425.out; subst eo30) | ((with_reducible refine gate_callee (f := 23) rfl ?_); refine goesL_ (some 21) rfl rfl Try.func23 (by kernel_rfl) rfl #[.slice Ao30 t423.length co30] rfl (by (try simp only [List.map_toArray, List.map_cons, List.map_nil]); first | done | rfl | (simp only [List.length_drop, List.length_take]; rfl)) ?_; (with_reducible refine (chattelref01_Of.calls k _ _ t423 t426 _ ?side1 ?side2 A8.out).mono ?_); (case side1 => exact cv HO425.out); (case side2 => exact (Kd.V_reads' HO425.out).2.1); rintro e w31 ⟨v427, rfl, ho0, hb⟩; refine ⟨_, rfl, ?_⟩; replace HO411 := Aside0.mk (vb HO411.out hb); replace HO414 := Aside0.mk (vb HO414.out hb); replace HO417 := Aside0.mk (vb HO417.out hb); replace HO420 := Aside0.mk (vb HO420.out hb); replace HO425 := Aside0.mk (vb HO425.out hb); have HO428 := Aside0.mk (Kd.V_lower (Kd.V_mono (ok' := fun k_ => k_ ≠ gb421 ∧ k_ ≠ gb422) ho0 (fun k_ hk_ => ⟨(fb BK421.out k_ hk_), (fb BK422.out k_ hk_)⟩)) (bz HB.out)); replace BK421 := Aside0.mk (bb BK421.out hb); replace BK422 := Aside0.mk (bb BK422.out hb); replace HB := Aside0.mk (bs HB.out hb); (try clear hb); (try clear hb2); (try clear hk); (try clear hi); (try clear ho0)) | ((with_reducible refine gate_callee (f := 13) rfl ?_); refine goesL_ (some 23) rfl rfl Try.func13 (by kernel_rfl) rfl #[.slice A1 l1.length c1] rfl (by (try simp only [List.map_toArray, List.map_cons, List.map_nil]); first | done | rfl | (simp only [List.length_drop, List.length_take]; rfl)) ?_; (with_reducible refine (chattellaw01_cut.calls (fun k_ => k_ < w.heap.size) _ _ l1 t429 _ ?side1 A9.out).mono ?_); (case side1 => exact Kd.V_mk HC1.out (Kd.F_below (Kd.C_F (Kd.heap_int .u64) HR1.out) (by repeat (first | (with_reducible first | exact HB.out | apply below_alloc | apply pw_below_drewN | apply below_drew1 | refine below_set ?_ GE421.out | refine below_set ?_ GE422.out) | exact HB.out)))); rintro e w32 ⟨v430, rfl, ho0, hb⟩; refine ⟨_, rfl, ?_⟩; replace HO411 := Aside0.mk (vb HO411.out hb); replace HO414 := Aside0.mk (vb HO414.out hb); replace HO417 := Aside0.mk (vb HO417.out hb); replace HO420 := Aside0.mk (vb HO420.out hb); replace HO425 := Aside0.mk (vb HO425.out hb); replace HO428 := Aside0.mk (vb HO428.out hb); have HO431 := Aside0.mk (Kd.V_lower (Kd.V_mono (ok' := fun k_ => k_ ≠ gb421 ∧ k_ ≠ gb422) ho0 (fun k_ hk_ => ⟨Or.elim hk_ (fun hs_ => fun e_ => Nat.not_le.2 hs_ (by rw [e_]; exact GW421.out)) (fun hn_ => (fb BK421.out k_ hn_)), Or.elim hk_ (fun hs_ => fun e_ => Nat.not_le.2 hs_ (by rw [e_]; exact GW422.out)) (fun hn_ => (fb BK422.out k_ hn_))⟩)) (bz HB.out)); replace BK421 := Aside0.mk (bb BK421.out hb); replace BK422 := Aside0.mk (bb BK422.out hb); replace HB := Aside0.mk (bs HB.out hb); (try clear hb); (try clear hb2); (try clear hk); (try clear hi); (try clear ho0); obtain ⟨Ao33, co33, eo33⟩ := Kd.V_slice HO431.out; subst eo33) | ((with_reducible refine gate_callee (f := 23) rfl ?_); refine goesL_ (some 24) rfl rfl Try.func23 (by kernel_rfl) rfl #[.slice Ao33 t429.length co33] rfl (by (try simp only [List.map_toArray, List.map_cons, List.map_nil]); first | done | rfl | (simp only [List.length_drop, List.length_take]; rfl)) ?_; (with_reducible refine (chattelref01_Of.calls k _ _ t429 t432 _ ?side1 ?side2 A10.out).mono ?_); (case side1 => exact cv HO431.out); (case side2 => exact (Kd.V_reads' HO431.out).2.1); rintro e w34 ⟨v433, rfl, ho0, hb⟩; refine ⟨_, rfl, ?_⟩; replace HO411 := Aside0.mk (vb HO411.out hb); replace HO414 := Aside0.mk (vb HO414.out hb); replace HO417 := Aside0.mk (vb HO417.out hb); replace HO420 := Aside0.mk (vb HO420.out hb); replace HO425 := Aside0.mk (vb HO425.out hb); replace HO428 := Aside0.mk (vb HO428.out hb); replace HO431 := Aside0.mk (vb HO431.out hb); have HO434 := Aside0.mk (Kd.V_lower (Kd.V_mono (ok' := fun k_ => k_ ≠ gb421 ∧ k_ ≠ gb422) ho0 (fun k_ hk_ => ⟨(fb BK421.out k_ hk_), (fb BK422.out k_ hk_)⟩)) (bz HB.out)); replace BK421 := Aside0.mk (bb BK421.out hb); replace BK422 := Aside0.mk (bb BK422.out hb); replace HB := Aside0.mk (bs HB.out hb); (try clear hb); (try clear hb2); (try clear hk); (try clear hi); (try clear ho0); have hcz35_0 : w34.cell? ⟨gb421, 0, none⟩ = some (.slice Ao22 t412.length co22) := (blk_cell BK421.out 0).trans rfl; have hfz35_0 := blk_frozen BK421.out 0; have hcz36_0 : w34.cell? ⟨gb422, 0, none⟩ = some (.slice Ao26 t418.length co26) := (blk_cell BK422.out 0).trans rfl; have hfz36_0 := blk_frozen BK422.out 0) | ((with_reducible refine gate_callee (f := 26) rfl ?_); refine goesL_ (some 28) rfl rfl Try.func26 (by kernel_rfl) rfl #[.agg #[.slice Ao22 t412.length co22], .agg #[.slice Ao26 t418.length co26]] rfl (by (try simp only [List.map_toArray, List.map_cons, List.map_nil]); first | done | rfl | (simp only [List.length_drop, List.length_take]; rfl)) ?_; (with_reducible refine (nat_Nat_Sub.calls k _ _ t412 _ _ t418 t435 t438 _ ?side1 ?side2 ?side3 ?side4 A11.out).mono ?_); (case side1 => exact cv HO414.out); (case side2 => exact (Kd.V_reads' HO414.out).2.1); (case side3 => exact cv HO420.out); (case side4 => exact (Kd.V_reads' HO420.out).2.1); rintro e w37 ⟨v436, rfl, ho0, hb⟩; refine ⟨_, rfl, ?_⟩; replace HO411 := Aside0.mk (vb HO411.out hb); replace HO414 := Aside0.mk (vb HO414.out hb); replace HO417 := Aside0.mk (vb HO417.out hb); replace HO420 := Aside0.mk (vb HO420.out hb); replace HO425 := Aside0.mk (vb HO425.out hb); replace HO428 := Aside0.mk (vb HO428.out hb); replace HO431 := Aside0.mk (vb HO431.out hb); replace HO434 := Aside0.mk (vb HO434.out hb); have HO437 := Aside0.mk (Kd.V_lower (Kd.V_mono (ok' := fun k_ => k_ ≠ gb421 ∧ k_ ≠ gb422) ho0 (fun k_ hk_ => ⟨(fb BK421.out k_ hk_), (fb BK422.out k_ hk_)⟩)) (bz HB.out)); replace BK421 := Aside0.mk (bb BK421.out hb); replace BK422 := Aside0.mk (bb BK422.out hb); replace HB := Aside0.mk (bs HB.out hb); (try clear hb); (try clear hb2); (try clear hk); (try clear hi); (try clear ho0)) | ((with_reducible refine gate_dst (N := 9) rfl ?_); refine box_event ?hg (N := 9) ?hd (cs := #[.slice none 0 0]) (t := 25) ?hr ?_; (case hd => rfl); (case hg => rfl); (case hr => first | (go_simp; done) | (go_simp; rfl)); intro gb439 hg w38 hbox hb; have n0_ := Aside0.mk (Kd.V_below (Kd.V_elderB (by (with_reducible repeat (first | apply Kd.V_alloc | apply Kd.V_drewN | apply Kd.V_drew)); exact HO411.out) gb439 (Nat.le_of_eq hg.symm)) hb); have n1_ := Aside0.mk (Kd.V_below (Kd.V_elderB (by (with_reducible repeat (first | apply Kd.V_alloc | apply Kd.V_drewN | apply Kd.V_drew)); exact HO414.out) gb439 (Nat.le_of_eq hg.symm)) hb); have n2_ := Aside0.mk (Kd.V_below (Kd.V_elderB (by (with_reducible repeat (first | apply Kd.V_alloc | apply Kd.V_drewN | apply Kd.V_drew)); exact HO417.out) gb439 (Nat.le_of_eq hg.symm)) hb); have n3_ := Aside0.mk (Kd.V_below (Kd.V_elderB (by (with_reducible repeat (first | apply Kd.V_alloc | apply Kd.V_drewN | apply Kd.V_drew)); exact HO420.out) gb439 (Nat.le_of_eq hg.symm)) hb); have n4_ := Aside0.mk (Kd.V_below (Kd.V_elderB (by (with_reducible repeat (first | apply Kd.V_alloc | apply Kd.V_drewN | apply Kd.V_drew)); exact HO425.out) gb439 (Nat.le_of_eq hg.symm)) hb); have n5_ := Aside0.mk (Kd.V_below (Kd.V_elderB (by (with_reducible repeat (first | apply Kd.V_alloc | apply Kd.V_drewN | apply Kd.V_drew)); exact HO428.out) gb439 (Nat.le_of_eq hg.symm)) hb); have n6_ := Aside0.mk (Kd.V_below (Kd.V_elderB (by (with_reducible repeat (first | apply Kd.V_alloc | apply Kd.V_drewN | apply Kd.V_drew)); exact HO431.out) gb439 (Nat.le_of_eq hg.symm)) hb); have n7_ := Aside0.mk (Kd.V_below (Kd.V_elderB (by (with_reducible repeat (first | apply Kd.V_alloc | apply Kd.V_drewN | apply Kd.V_drew)); exact HO434.out) gb439 (Nat.le_of_eq hg.symm)) hb); have n8_ := Aside0.mk (Kd.V_below (Kd.V_elderB (by (with_reducible repeat (first | apply Kd.V_alloc | apply Kd.V_drewN | apply Kd.V_drew)); exact HO437.out) gb439 (Nat.le_of_eq hg.symm)) hb); have n9_ := Aside0.mk (bb BK421.out hb); have n10_ := Aside0.mk (bb BK422.out hb); have n11_ := Aside0.mk (bs HB.out hb); have n12_ := Aside0.mk (hbox); have n13_ := Aside0.mk ((by rw [hg]; exact (bz HB.out) : w.heap.size ≤ gb439)); have n14_ := Aside0.mk ((by rw [hg]; exact (bz HB.out) : w.heap.size ≤ gb439)); have n15_ := Aside0.mk ((by rw [hg]; exact Nat.ne_of_lt (blk_lt (g := gb421) (o := .cells #[.slice Ao22 t412.length co22] 25 (0, 0)) (by (with_reducible repeat (first | refine blk_drewN ?_ _ | refine blk_drew ?_ | refine blk_alloc ?_ _)); exact BK421.out)) : gb421 ≠ gb439)); have n16_ := Aside0.mk ((by rw [hg]; exact Nat.ne_of_gt (blk_lt (g := gb421) (o := .cells #[.slice Ao22 t412.length co22] 25 (0, 0)) (by (with_reducible repeat (first | refine blk_drewN ?_ _ | refine blk_drew ?_ | refine blk_alloc ?_ _)); exact BK421.out)) : gb439 ≠ gb421)); have n17_ := Aside0.mk ((by rw [hg]; exact Nat.ne_of_lt (blk_lt (g := gb422) (o := .cells #[.slice Ao26 t418.length co26] 25 (0, 0)) (by (with_reducible repeat (first | refine blk_drewN ?_ _ | refine blk_drew ?_ | refine blk_alloc ?_ _)); exact BK422.out)) : gb422 ≠ gb439)); have n18_ := Aside0.mk ((by rw [hg]; exact Nat.ne_of_gt (blk_lt (g := gb422) (o := .cells #[.slice Ao26 t418.length co26] 25 (0, 0)) (by (with_reducible repeat (first | refine blk_drewN ?_ _ | refine blk_drew ?_ | refine blk_alloc ?_ _)); exact BK422.out)) : gb439 ≠ gb422)); clear HO411; clear HO414; clear HO417; clear HO420; clear HO425; clear HO428; clear HO431; clear HO434; clear HO437; clear BK421; clear BK422; clear HB; have HO411 := n0_; have HO414 := n1_; have HO417 := n2_; have HO420 := n3_; have HO425 := n4_; have HO428 := n5_; have HO431 := n6_; have HO434 := n7_; have HO437 := n8_; have BK421 := n9_; have BK422 := n10_; have HB := n11_; have BK439 := n12_; have GW439 := n13_; have GE439 := n14_; have NB421_439 := n15_; have NB439_421 := n16_; have NB422_439 := n17_; have NB439_422 := n18_; clear n0_ n1_ n2_ n3_ n4_ n5_ n6_ n7_ n8_ n9_ n10_ n11_ n12_ n13_ n14_ n15_ n16_ n17_ n18_; clear hb hbox hg; obtain ⟨Ao39, co39, eo39⟩ := Kd.V_slice HO437.out; subst eo39; have hnb40 := NB439_421.out; have hnc40 := NB421_439.out; have hnb41 := NB439_422.out; have hnc41 := NB422_439.out; have hcz42_0 : w38.cell? ⟨gb439, 0, none⟩ = some (.slice none 0 0) := (blk_cell BK439.out 0).trans rfl; have hfz42_0 := blk_frozen BK439.out 0; obtain ⟨Ao43, co43, eo43⟩ := Kd.V_slice HO428.out; subst eo43; obtain ⟨Ao44, co44, eo44⟩ := Kd.V_slice HO434.out; subst eo44) | ((with_reducible refine gate_callee (f := 22) rfl ?_); refine goesL_ (some 33) rfl rfl Try.func22 (by kernel_rfl) rfl #[.slice Ao43 t426.length co43, .slice Ao44 t432.length co44] rfl (by (try simp only [List.map_toArray, List.map_cons, List.map_nil]); first | done | rfl | (simp only [List.length_drop, List.length_take]; rfl)) ?_; (with_reducible refine (chattelref01_Cmp.calls k _ _ t426 _ _ t432 t440 _ ?side1 ?side2 ?side3 ?side4 A12.out).mono ?_); (case side1 => refine (Kd.V_reads' (e := 3) (base := w.heap.size) (ok := fun k_ => ((k_ ≠ gb421 ∧ k_ ≠ gb422) ∧ k_ ≠ gb439)) (n := t426.length) (c := co43) ?_).2.2; exact (by (with_reducible repeat (first | apply Kd.V_alloc | apply Kd.V_drewN | apply Kd.V_drew)); exact (Kd.V_mono (Kd.V_far (p := ⟨gb439, 0, none⟩) (Kd.V_mono HO428.out (fun k_ hk => (⟨hk, hk.2⟩ : _ ∧ k_ ≠ gb439))) (fun _ hk => hk.2) (.slice Ao39 t435.length co39)) (fun _ h_ => h_.1)))); (case side2 => exact (Kd.V_reads' HO428.out).2.1); (case side3 => refine (Kd.V_reads' (e := 3) (base := w.heap.size) (ok := fun k_ => ((k_ ≠ gb421 ∧ k_ ≠ gb422) ∧ k_ ≠ gb439)) (n := t432.length) (c := co44) ?_).2.2; exact (by (with_reducible repeat (first | apply Kd.V_alloc | apply Kd.V_drewN | apply Kd.V_drew)); exact (Kd.V_mono (Kd.V_far (p := ⟨gb439, 0, none⟩) (Kd.V_mono HO434.out (fun k_ hk => (⟨hk, hk.2⟩ : _ ∧ k_ ≠ gb439))) (fun _ hk => hk.2) (.slice Ao39 t435.length co39)) (fun _ h_ => h_.1)))); (case side4 => exact (Kd.V_reads' HO434.out).2.1); rintro e w' ⟨rfl, ⟨nd, rfl⟩⟩; refine ⟨_, rfl, ?_⟩))
  (try simp only [Act.put, List.setIfInBounds_toArray, List.set_cons_zero, List.set_cons_succ])
  go_cut [11] (fun v11 wc => ∃ (kq : Nat) (x11_12 : List Int), Aside0 (chattellaw01_NatSums.j0 kq t426 t432 t438 x11_12 (decide (t440 < 0)) t412 t418 t435 = some r) ∧ Aside0 (kq ≤ k) ∧ Aside0 (Kd.V (Kd.int .i64) 3 wc w.heap.size (fun k_ => k_ ≠ gb421 ∧ k_ ≠ gb422 ∧ k_ ≠ gb439) (.slice Ao43 t426.length co43) t426) ∧ Aside0 (Kd.V (Kd.int .i64) 3 wc w.heap.size (fun k_ => k_ ≠ gb421 ∧ k_ ≠ gb422 ∧ k_ ≠ gb439) (.slice Ao44 t432.length co44) t432) ∧ Aside0 (Kd.V (Kd.int .i64) 3 wc w.heap.size (fun k_ => k_ ≠ gb421 ∧ k_ ≠ gb422 ∧ k_ ≠ gb439) v11 x11_12) ∧ Aside0 (Kd.V (Kd.int .u64) 27 wc w.heap.size (fun k_ => k_ ≠ gb421 ∧ k_ ≠ gb422 ∧ k_ ≠ gb439) (.slice Ao22 t412.length co22) t412) ∧ Aside0 (Kd.V (Kd.int .u64) 27 wc w.heap.size (fun k_ => k_ ≠ gb421 ∧ k_ ≠ gb422 ∧ k_ ≠ gb439) (.slice Ao26 t418.length co26) t418) ∧ Aside0 (Kd.V (Kd.int .u64) 27 wc w.heap.size (fun k_ => k_ ≠ gb421 ∧ k_ ≠ gb422 ∧ k_ ≠ gb439) (.slice Ao39 t435.length co39) t435) ∧ Aside0 (wc.heap[gb421]? = some (.cells #[(.slice Ao22 t412.length co22)] 25 (0, 0))) ∧ Aside0 (wc.heap[gb422]? = some (.cells #[(.slice Ao26 t418.length co26)] 25 (0, 0))) ∧ Aside0 (wc.heap[gb439]? = some (.cells #[(.slice Ao39 t435.length co39)] 25 (0, 0))) ∧ Aside0 (Below w.heap.size w wc))
  case first =>
    have H := HC13.out
    clear HC13
    by_cases c45 : t440 < 0
    · rw [if_pos c45] at H
      have c45b0 : decide (t440 < 0) = true := decide_eq_true c45
      clear c45
      (first | rw [c45b0] | (simp only [i64_w, i32_w]; rw [c45b0]) | skip)
      have H' := Aside0.mk H
      clear H
      go_wp2
      (refine Met.intro ?_; go_step; (repeat apply Exists.intro); refine ⟨?rel, ?frame⟩)
      case frame => first | rfl | (rw [c45b0]; first | done | rfl) | (simp only [c45b0]; first | done | rfl)
      case rel => exact ⟨_, (([] : List Int)), H', ⟨by first | omega | exact Nat.le_refl _⟩, ⟨by (with_reducible repeat (first | apply Kd.V_alloc | apply Kd.V_drewN | apply Kd.V_drew)); exact Kd.V_mono (Kd.V_far (p := ⟨gb439, 0, none⟩) (Kd.V_mono HO428.out (fun k_ hk => (⟨hk, hk.2⟩ : _ ∧ k_ ≠ gb439))) (fun _ hk => hk.2) (.slice Ao39 t435.length co39)) (fun _ hk => ⟨hk.1.1.1, ⟨hk.1.1.2, hk.1.2⟩⟩)⟩, ⟨by (with_reducible repeat (first | apply Kd.V_alloc | apply Kd.V_drewN | apply Kd.V_drew)); exact Kd.V_mono (Kd.V_far (p := ⟨gb439, 0, none⟩) (Kd.V_mono HO434.out (fun k_ hk => (⟨hk, hk.2⟩ : _ ∧ k_ ≠ gb439))) (fun _ hk => hk.2) (.slice Ao39 t435.length co39)) (fun _ hk => ⟨hk.1.1.1, ⟨hk.1.1.2, hk.1.2⟩⟩)⟩, ⟨Kd.V_nil _ _ _ _ _⟩, ⟨by (with_reducible repeat (first | apply Kd.V_alloc | apply Kd.V_drewN | apply Kd.V_drew)); exact Kd.V_mono (Kd.V_far (p := ⟨gb439, 0, none⟩) (Kd.V_mono HO414.out (fun k_ hk => (⟨hk, hk.2⟩ : _ ∧ k_ ≠ gb439))) (fun _ hk => hk.2) (.slice Ao39 t435.length co39)) (fun _ hk => ⟨hk.1.1.1, ⟨hk.1.1.2, hk.1.2⟩⟩)⟩, ⟨by (with_reducible repeat (first | apply Kd.V_alloc | apply Kd.V_drewN | apply Kd.V_drew)); exact Kd.V_mono (Kd.V_far (p := ⟨gb439, 0, none⟩) (Kd.V_mono HO420.out (fun k_ hk => (⟨hk, hk.2⟩ : _ ∧ k_ ≠ gb439))) (fun _ hk => hk.2) (.slice Ao39 t435.length co39)) (fun _ hk => ⟨hk.1.1.1, ⟨hk.1.1.2, hk.1.2⟩⟩)⟩, ⟨by (with_reducible repeat (first | apply Kd.V_alloc | apply Kd.V_drewN | apply Kd.V_drew)); exact Kd.V_mono (Kd.V_far (p := ⟨gb439, 0, none⟩) (Kd.V_mono HO437.out (fun k_ hk => (⟨hk, hk.2⟩ : _ ∧ k_ ≠ gb439))) (fun _ hk => hk.2) (.slice Ao39 t435.length co39)) (fun _ hk => ⟨hk.1.1.1, ⟨hk.1.1.2, hk.1.2⟩⟩)⟩, ⟨by (with_reducible repeat (first | refine blk_drewN ?_ _ | refine blk_drew ?_ | refine blk_alloc ?_ _)); refine blk_far ?_ NB421_439.out _; (with_reducible repeat (first | refine blk_drewN ?_ _ | refine blk_drew ?_ | refine blk_alloc ?_ _)); exact BK421.out⟩, ⟨by (with_reducible repeat (first | refine blk_drewN ?_ _ | refine blk_drew ?_ | refine blk_alloc ?_ _)); refine blk_far ?_ NB422_439.out _; (with_reducible repeat (first | refine blk_drewN ?_ _ | refine blk_drew ?_ | refine blk_alloc ?_ _)); exact BK422.out⟩, ⟨by (with_reducible repeat (first | refine blk_drewN ?_ _ | refine blk_drew ?_ | refine blk_alloc ?_ _)); refine blk_put (cs := #[.slice none 0 0]) ?_ 0 _ rfl; (with_reducible repeat (first | refine blk_drewN ?_ _ | refine blk_drew ?_ | refine blk_alloc ?_ _)); exact BK439.out⟩, ⟨by repeat (first | (with_reducible first | exact HB.out | apply below_alloc | apply pw_below_drewN | apply below_drew1 | refine below_set ?_ GE421.out | refine below_set ?_ GE422.out | refine below_set ?_ GE439.out) | exact HB.out)⟩⟩
    · rw [if_neg c45] at H
      have c45b0 : decide (t440 < 0) = false := decide_eq_false c45
      clear c45
      (first | rw [c45b0] | (simp only [i64_w, i32_w]; rw [c45b0]) | skip)
      replace H := Option.bind_eq_some_iff.mp H
      obtain ⟨t441, A460, H⟩ := H
      replace H : (chattellaw01_NatSums.j0 k t426 t432 t438 t441 (decide (t440 < 0)) t412 t418 t435) = some r := H
      have A46 := Aside0.mk A460
      clear A460
      have H' := Aside0.mk H
      clear H
      go_wp2_with (first | ((with_reducible refine gate_callee (f := 27) rfl ?_); refine goesL_ (some 39) rfl rfl Try.func27 (by kernel_rfl) rfl #[.slice Ao43 t426.length co43, .slice Ao44 t432.length co44] rfl (by (try simp only [List.map_toArray, List.map_cons, List.map_nil]); first | done | rfl | (simp only [List.length_drop, List.length_take]; rfl)) ?_; (with_reducible refine (chattelref01_Sub.calls k _ _ t426 _ _ t432 t441 _ ?side1 ?side2 ?side3 ?side4 A46.out).mono ?_); (case side1 => refine (Kd.V_reads' (e := 3) (base := w.heap.size) (ok := fun k_ => ((k_ ≠ gb421 ∧ k_ ≠ gb422) ∧ k_ ≠ gb439)) (n := t426.length) (c := co43) ?_).2.2; exact (by (with_reducible repeat (first | apply Kd.V_alloc | apply Kd.V_drewN | apply Kd.V_drew)); exact (Kd.V_mono (Kd.V_far (p := ⟨gb439, 0, none⟩) (Kd.V_mono HO428.out (fun k_ hk => (⟨hk, hk.2⟩ : _ ∧ k_ ≠ gb439))) (fun _ hk => hk.2) (.slice Ao39 t435.length co39)) (fun _ h_ => h_.1)))); (case side2 => exact (Kd.V_reads' HO428.out).2.1); (case side3 => refine (Kd.V_reads' (e := 3) (base := w.heap.size) (ok := fun k_ => ((k_ ≠ gb421 ∧ k_ ≠ gb422) ∧ k_ ≠ gb439)) (n := t432.length) (c := co44) ?_).2.2; exact (by (with_reducible repeat (first | apply Kd.V_alloc | apply Kd.V_drewN | apply Kd.V_drew)); exact (Kd.V_mono (Kd.V_far (p := ⟨gb439, 0, none⟩) (Kd.V_mono HO434.out (fun k_ hk => (⟨hk, hk.2⟩ : _ ∧ k_ ≠ gb439))) (fun _ hk => hk.2) (.slice Ao39 t435.length co39)) (fun _ h_ => h_.1)))); (case side4 => exact (Kd.V_reads' HO434.out).2.1); rintro e w47 ⟨v442, rfl, ho0, hb⟩; refine ⟨_, rfl, ?_⟩; replace HO411 := Aside0.mk (Kd.V_below (by (with_reducible repeat (first | apply Kd.V_alloc | apply Kd.V_drewN | apply Kd.V_drew)); exact (Kd.V_mono (Kd.V_far (p := ⟨gb439, 0, none⟩) (Kd.V_mono HO411.out (fun k_ hk => (⟨hk, hk.2⟩ : _ ∧ k_ ≠ gb439))) (fun _ hk => hk.2) (.slice Ao39 t435.length co39)) (fun _ h_ => h_.1))) hb); replace HO414 := Aside0.mk (Kd.V_below (by (with_reducible repeat (first | apply Kd.V_alloc | apply Kd.V_drewN | apply Kd.V_drew)); exact (Kd.V_mono (Kd.V_far (p := ⟨gb439, 0, none⟩) (Kd.V_mono HO414.out (fun k_ hk => (⟨hk, hk.2⟩ : _ ∧ k_ ≠ gb439))) (fun _ hk => hk.2) (.slice Ao39 t435.length co39)) (fun _ h_ => h_.1))) hb); replace HO417 := Aside0.mk (Kd.V_below (by (with_reducible repeat (first | apply Kd.V_alloc | apply Kd.V_drewN | apply Kd.V_drew)); exact (Kd.V_mono (Kd.V_far (p := ⟨gb439, 0, none⟩) (Kd.V_mono HO417.out (fun k_ hk => (⟨hk, hk.2⟩ : _ ∧ k_ ≠ gb439))) (fun _ hk => hk.2) (.slice Ao39 t435.length co39)) (fun _ h_ => h_.1))) hb); replace HO420 := Aside0.mk (Kd.V_below (by (with_reducible repeat (first | apply Kd.V_alloc | apply Kd.V_drewN | apply Kd.V_drew)); exact (Kd.V_mono (Kd.V_far (p := ⟨gb439, 0, none⟩) (Kd.V_mono HO420.out (fun k_ hk => (⟨hk, hk.2⟩ : _ ∧ k_ ≠ gb439))) (fun _ hk => hk.2) (.slice Ao39 t435.length co39)) (fun _ h_ => h_.1))) hb); replace HO425 := Aside0.mk (Kd.V_below (by (with_reducible repeat (first | apply Kd.V_alloc | apply Kd.V_drewN | apply Kd.V_drew)); exact (Kd.V_mono (Kd.V_far (p := ⟨gb439, 0, none⟩) (Kd.V_mono HO425.out (fun k_ hk => (⟨hk, hk.2⟩ : _ ∧ k_ ≠ gb439))) (fun _ hk => hk.2) (.slice Ao39 t435.length co39)) (fun _ h_ => h_.1))) hb); replace HO428 := Aside0.mk (Kd.V_below (by (with_reducible repeat (first | apply Kd.V_alloc | apply Kd.V_drewN | apply Kd.V_drew)); exact (Kd.V_mono (Kd.V_far (p := ⟨gb439, 0, none⟩) (Kd.V_mono HO428.out (fun k_ hk => (⟨hk, hk.2⟩ : _ ∧ k_ ≠ gb439))) (fun _ hk => hk.2) (.slice Ao39 t435.length co39)) (fun _ h_ => h_.1))) hb); replace HO431 := Aside0.mk (Kd.V_below (by (with_reducible repeat (first | apply Kd.V_alloc | apply Kd.V_drewN | apply Kd.V_drew)); exact (Kd.V_mono (Kd.V_far (p := ⟨gb439, 0, none⟩) (Kd.V_mono HO431.out (fun k_ hk => (⟨hk, hk.2⟩ : _ ∧ k_ ≠ gb439))) (fun _ hk => hk.2) (.slice Ao39 t435.length co39)) (fun _ h_ => h_.1))) hb); replace HO434 := Aside0.mk (Kd.V_below (by (with_reducible repeat (first | apply Kd.V_alloc | apply Kd.V_drewN | apply Kd.V_drew)); exact (Kd.V_mono (Kd.V_far (p := ⟨gb439, 0, none⟩) (Kd.V_mono HO434.out (fun k_ hk => (⟨hk, hk.2⟩ : _ ∧ k_ ≠ gb439))) (fun _ hk => hk.2) (.slice Ao39 t435.length co39)) (fun _ h_ => h_.1))) hb); replace HO437 := Aside0.mk (Kd.V_below (by (with_reducible repeat (first | apply Kd.V_alloc | apply Kd.V_drewN | apply Kd.V_drew)); exact (Kd.V_mono (Kd.V_far (p := ⟨gb439, 0, none⟩) (Kd.V_mono HO437.out (fun k_ hk => (⟨hk, hk.2⟩ : _ ∧ k_ ≠ gb439))) (fun _ hk => hk.2) (.slice Ao39 t435.length co39)) (fun _ h_ => h_.1))) hb); have HO443 := Aside0.mk (Kd.V_lower (Kd.V_mono (ok' := fun k_ => k_ ≠ gb421 ∧ k_ ≠ gb422 ∧ k_ ≠ gb439) ho0 (fun k_ hk_ => ⟨(Kd.freshB (g := gb421) (o := .cells #[.slice Ao22 t412.length co22] 25 (0, 0)) (by (with_reducible repeat (first | refine blk_drewN ?_ _ | refine blk_drew ?_ | refine blk_alloc ?_ _)); refine blk_far ?_ NB421_439.out _; (with_reducible repeat (first | refine blk_drewN ?_ _ | refine blk_drew ?_ | refine blk_alloc ?_ _)); exact BK421.out) k_ hk_), (Kd.freshB (g := gb422) (o := .cells #[.slice Ao26 t418.length co26] 25 (0, 0)) (by (with_reducible repeat (first | refine blk_drewN ?_ _ | refine blk_drew ?_ | refine blk_alloc ?_ _)); refine blk_far ?_ NB422_439.out _; (with_reducible repeat (first | refine blk_drewN ?_ _ | refine blk_drew ?_ | refine blk_alloc ?_ _)); exact BK422.out) k_ hk_), (Kd.freshB (g := gb439) (o := .cells #[.slice Ao39 t435.length co39] 25 (0, 0)) (by (with_reducible repeat (first | refine blk_drewN ?_ _ | refine blk_drew ?_ | refine blk_alloc ?_ _)); refine blk_put (cs := #[.slice none 0 0]) ?_ 0 _ rfl; (with_reducible repeat (first | refine blk_drewN ?_ _ | refine blk_drew ?_ | refine blk_alloc ?_ _)); exact BK439.out) k_ hk_)⟩)) (below_size (by repeat (first | (with_reducible first | exact HB.out | apply below_alloc | apply pw_below_drewN | apply below_drew1 | refine below_set ?_ GE421.out | refine below_set ?_ GE422.out | refine below_set ?_ GE439.out) | exact HB.out)))); replace BK421 := Aside0.mk (blk_below (g := gb421) (o := .cells #[.slice Ao22 t412.length co22] 25 (0, 0)) (by (with_reducible repeat (first | refine blk_drewN ?_ _ | refine blk_drew ?_ | refine blk_alloc ?_ _)); refine blk_far ?_ NB421_439.out _; (with_reducible repeat (first | refine blk_drewN ?_ _ | refine blk_drew ?_ | refine blk_alloc ?_ _)); exact BK421.out) hb); replace BK422 := Aside0.mk (blk_below (g := gb422) (o := .cells #[.slice Ao26 t418.length co26] 25 (0, 0)) (by (with_reducible repeat (first | refine blk_drewN ?_ _ | refine blk_drew ?_ | refine blk_alloc ?_ _)); refine blk_far ?_ NB422_439.out _; (with_reducible repeat (first | refine blk_drewN ?_ _ | refine blk_drew ?_ | refine blk_alloc ?_ _)); exact BK422.out) hb); replace BK439 := Aside0.mk (blk_below (g := gb439) (o := .cells #[.slice Ao39 t435.length co39] 25 (0, 0)) (by (with_reducible repeat (first | refine blk_drewN ?_ _ | refine blk_drew ?_ | refine blk_alloc ?_ _)); refine blk_put (cs := #[.slice none 0 0]) ?_ 0 _ rfl; (with_reducible repeat (first | refine blk_drewN ?_ _ | refine blk_drew ?_ | refine blk_alloc ?_ _)); exact BK439.out) hb); replace HB := Aside0.mk (below_step (by repeat (first | (with_reducible first | exact HB.out | apply below_alloc | apply pw_below_drewN | apply below_drew1 | refine below_set ?_ GE421.out | refine below_set ?_ GE422.out | refine below_set ?_ GE439.out) | exact HB.out)) hb); (try clear hb); (try clear hb2); (try clear hk); (try clear hi); (try clear ho0)))
      (refine Met.intro ?_; go_step; (repeat apply Exists.intro); refine ⟨?rel, ?frame⟩)
      case frame => first | rfl | (rw [c45b0]; first | done | rfl) | (simp only [c45b0]; first | done | rfl)
      case rel => exact ⟨_, (t441), H', ⟨by first | omega | exact Nat.le_refl _⟩, ⟨by (with_reducible repeat (first | apply Kd.V_alloc | apply Kd.V_drewN | apply Kd.V_drew)); exact Kd.V_mono HO428.out (fun _ hk => ⟨hk.1.1, ⟨hk.1.2, hk.2⟩⟩)⟩, ⟨by (with_reducible repeat (first | apply Kd.V_alloc | apply Kd.V_drewN | apply Kd.V_drew)); exact Kd.V_mono HO434.out (fun _ hk => ⟨hk.1.1, ⟨hk.1.2, hk.2⟩⟩)⟩, ⟨by (with_reducible repeat (first | apply Kd.V_alloc | apply Kd.V_drewN | apply Kd.V_drew)); exact HO443.out⟩, ⟨by (with_reducible repeat (first | apply Kd.V_alloc | apply Kd.V_drewN | apply Kd.V_drew)); exact Kd.V_mono HO414.out (fun _ hk => ⟨hk.1.1, ⟨hk.1.2, hk.2⟩⟩)⟩, ⟨by (with_reducible repeat (first | apply Kd.V_alloc | apply Kd.V_drewN | apply Kd.V_drew)); exact Kd.V_mono HO420.out (fun _ hk => ⟨hk.1.1, ⟨hk.1.2, hk.2⟩⟩)⟩, ⟨by (with_reducible repeat (first | apply Kd.V_alloc | apply Kd.V_drewN | apply Kd.V_drew)); exact Kd.V_mono HO437.out (fun _ hk => ⟨hk.1.1, ⟨hk.1.2, hk.2⟩⟩)⟩, ⟨by (with_reducible repeat (first | refine blk_drewN ?_ _ | refine blk_drew ?_ | refine blk_alloc ?_ _)); exact BK421.out⟩, ⟨by (with_reducible repeat (first | refine blk_drewN ?_ _ | refine blk_drew ?_ | refine blk_alloc ?_ _)); exact BK422.out⟩, ⟨by (with_reducible repeat (first | refine blk_drewN ?_ _ | refine blk_drew ?_ | refine blk_alloc ?_ _)); exact BK439.out⟩, ⟨by repeat (first | (with_reducible first | exact HB.out | apply below_alloc | apply pw_below_drewN | apply below_drew1 | refine below_set ?_ GE421.out | refine below_set ?_ GE422.out | refine below_set ?_ GE439.out) | exact HB.out)⟩⟩
  case rest =>
    clear HC13
    try clear c1
    try clear c2
    try clear p2
    try clear c4
    try clear c5
    try clear c13
    try clear c14
    try clear c22
    try clear c23
    try clear c26
    try clear c27
    try clear c40
    try clear c41
    try clear c45
    try clear c45b0
    try clear hcz24_0
    try clear hcz27_0
    try clear hcz35_0
    try clear hcz36_0
    try clear hcz42_0
    try clear hfz24_0
    try clear hfz27_0
    try clear hfz35_0
    try clear hfz36_0
    try clear hfz42_0
    obtain ⟨kq, x11_12, HA, HJ12, HO_7, HO_8, HO_11, HO_422000, HO_423000, HO_440000, BK421, BK422, BK439, HB⟩ := hcut
    cases kq with
    | zero => exact absurd HA.out (by simp [chattellaw01_NatSums.j0])
    | succ kj12 =>
      have H := HA.out
      clear HA
      simp only [chattellaw01_NatSums.j0] at H
      replace H := Option.bind_eq_some_iff.mp H
      obtain ⟨t444, A480, H⟩ := H
      replace H : (if t444 = true then ((nat_Nat_Add.f kj12 t412 t418).bind fun t445 => ((chattelref01_Add.f kj12 t426 t432).bind fun t448 => ((chattellaw01_same.f kj12 t445 t448).bind fun t451 => (if t451 = true then ((nat_Nat_Mul.f kj12 t412 t418).bind fun t452 => ((chattelref01_Mul.f kj12 t426 t432).bind fun t455 => ((chattellaw01_same.f kj12 t452 t455).bind fun t458 => (if t458 = true then (if (t438 != (decide (t440 < 0))) = true then ((chattellaw01_same.f kj12 t435 x11_12).bind fun t459 => (some t459)) else (some false)) else (some false))))) else (some false))))) else (some false)) = some r := H
      have A48 := Aside0.mk A480
      clear A480
      by_cases c49 : t444 = true
      · subst c49
        have H1 : ((nat_Nat_Add.f kj12 t412 t418).bind fun t445 => ((chattelref01_Add.f kj12 t426 t432).bind fun t448 => ((chattellaw01_same.f kj12 t445 t448).bind fun t451 => (if t451 = true then ((nat_Nat_Mul.f kj12 t412 t418).bind fun t452 => ((chattelref01_Mul.f kj12 t426 t432).bind fun t455 => ((chattellaw01_same.f kj12 t452 t455).bind fun t458 => (if t458 = true then (if (t438 != (decide (t440 < 0))) = true then ((chattellaw01_same.f kj12 t435 x11_12).bind fun t459 => (some t459)) else (some false)) else (some false))))) else (some false))))) = some r := by rw [if_pos rfl] at H; exact H
        clear H
        have H := H1
        clear H1
        replace H := Option.bind_eq_some_iff.mp H
        obtain ⟨t445, A500, H⟩ := H
        replace H : ((chattelref01_Add.f kj12 t426 t432).bind fun t448 => ((chattellaw01_same.f kj12 t445 t448).bind fun t451 => (if t451 = true then ((nat_Nat_Mul.f kj12 t412 t418).bind fun t452 => ((chattelref01_Mul.f kj12 t426 t432).bind fun t455 => ((chattellaw01_same.f kj12 t452 t455).bind fun t458 => (if t458 = true then (if (t438 != (decide (t440 < 0))) = true then ((chattellaw01_same.f kj12 t435 x11_12).bind fun t459 => (some t459)) else (some false)) else (some false))))) else (some false)))) = some r := H
        have A50 := Aside0.mk A500
        clear A500
        replace H := Option.bind_eq_some_iff.mp H
        obtain ⟨t448, A510, H⟩ := H
        replace H : ((chattellaw01_same.f kj12 t445 t448).bind fun t451 => (if t451 = true then ((nat_Nat_Mul.f kj12 t412 t418).bind fun t452 => ((chattelref01_Mul.f kj12 t426 t432).bind fun t455 => ((chattellaw01_same.f kj12 t452 t455).bind fun t458 => (if t458 = true then (if (t438 != (decide (t440 < 0))) = true then ((chattellaw01_same.f kj12 t435 x11_12).bind fun t459 => (some t459)) else (some false)) else (some false))))) else (some false))) = some r := H
        have A51 := Aside0.mk A510
        clear A510
        replace H := Option.bind_eq_some_iff.mp H
        obtain ⟨t451, A520, H⟩ := H
        replace H : (if t451 = true then ((nat_Nat_Mul.f kj12 t412 t418).bind fun t452 => ((chattelref01_Mul.f kj12 t426 t432).bind fun t455 => ((chattellaw01_same.f kj12 t452 t455).bind fun t458 => (if t458 = true then (if (t438 != (decide (t440 < 0))) = true then ((chattellaw01_same.f kj12 t435 x11_12).bind fun t459 => (some t459)) else (some false)) else (some false))))) else (some false)) = some r := H
        have A52 := Aside0.mk A520
        clear A520
        by_cases c53 : t451 = true
        · subst c53
          have H1 : ((nat_Nat_Mul.f kj12 t412 t418).bind fun t452 => ((chattelref01_Mul.f kj12 t426 t432).bind fun t455 => ((chattellaw01_same.f kj12 t452 t455).bind fun t458 => (if t458 = true then (if (t438 != (decide (t440 < 0))) = true then ((chattellaw01_same.f kj12 t435 x11_12).bind fun t459 => (some t459)) else (some false)) else (some false))))) = some r := by rw [if_pos rfl] at H; exact H
          clear H
          have H := H1
          clear H1
          replace H := Option.bind_eq_some_iff.mp H
          obtain ⟨t452, A540, H⟩ := H
          replace H : ((chattelref01_Mul.f kj12 t426 t432).bind fun t455 => ((chattellaw01_same.f kj12 t452 t455).bind fun t458 => (if t458 = true then (if (t438 != (decide (t440 < 0))) = true then ((chattellaw01_same.f kj12 t435 x11_12).bind fun t459 => (some t459)) else (some false)) else (some false)))) = some r := H
          have A54 := Aside0.mk A540
          clear A540
          replace H := Option.bind_eq_some_iff.mp H
          obtain ⟨t455, A550, H⟩ := H
          replace H : ((chattellaw01_same.f kj12 t452 t455).bind fun t458 => (if t458 = true then (if (t438 != (decide (t440 < 0))) = true then ((chattellaw01_same.f kj12 t435 x11_12).bind fun t459 => (some t459)) else (some false)) else (some false))) = some r := H
          have A55 := Aside0.mk A550
          clear A550
          replace H := Option.bind_eq_some_iff.mp H
          obtain ⟨t458, A560, H⟩ := H
          replace H : (if t458 = true then (if (t438 != (decide (t440 < 0))) = true then ((chattellaw01_same.f kj12 t435 x11_12).bind fun t459 => (some t459)) else (some false)) else (some false)) = some r := H
          have A56 := Aside0.mk A560
          clear A560
          by_cases c57 : t458 = true
          · subst c57
            have H1 : (if (t438 != (decide (t440 < 0))) = true then ((chattellaw01_same.f kj12 t435 x11_12).bind fun t459 => (some t459)) else (some false)) = some r := by rw [if_pos rfl] at H; exact H
            clear H
            have H := H1
            clear H1
            by_cases c58 : (t438 != (decide (t440 < 0))) = true
            rotate_left
            · rw [if_neg c58] at H
              have c58b0 : (t438 != (decide (t440 < 0))) = false := by simpa using c58
              (try (have c58b1 : decide (t438 = (decide (t440 < 0))) = true := by simpa using c58))
              (try (have c58b2 : (t438 == (decide (t440 < 0))) = true := by simpa using c58))
              clear c58
              exact absurd (Option.some.inj H) (by rw [ht_]; decide)
            rw [if_pos c58] at H
            have c58b0 : (t438 != (decide (t440 < 0))) = true := c58
            (try (have c58b1 : decide (t438 = (decide (t440 < 0))) = false := by simpa using c58))
            (try (have c58b2 : (t438 == (decide (t440 < 0))) = false := by simpa using c58))
            (try (have c58b3 : ¬ (t438 = (decide (t440 < 0))) := by simpa using c58))
            clear c58
            replace H := Option.bind_eq_some_iff.mp H
            obtain ⟨t459, A590, H⟩ := H
            replace H : (some t459) = some r := H
            have A59 := Aside0.mk A590
            clear A590
            obtain rfl := Option.some.inj H
            go_wp2_with (first | ((with_reducible refine gate_callee (f := 20) rfl ?_); refine goesL_ (some 40) rfl rfl Try.func20 (by kernel_rfl) rfl #[] rfl (by (try simp only [List.map_toArray, List.map_cons, List.map_nil]); first | done | rfl | (simp only [List.length_drop, List.length_take]; rfl)) ?_; (with_reducible refine (chattellaw01_wakes.calls kj12  true _ A48.out).mono ?_); rintro e w60 ⟨rfl, hb⟩; refine ⟨_, rfl, ?_⟩; replace HO_7 := Aside0.mk (vb HO_7.out hb); replace HO_8 := Aside0.mk (vb HO_8.out hb); replace HO_11 := Aside0.mk (vb HO_11.out hb); replace HO_422000 := Aside0.mk (vb HO_422000.out hb); replace HO_423000 := Aside0.mk (vb HO_423000.out hb); replace HO_440000 := Aside0.mk (vb HO_440000.out hb); replace BK421 := Aside0.mk (bb BK421.out hb); replace BK422 := Aside0.mk (bb BK422.out hb); replace BK439 := Aside0.mk (bb BK439.out hb); replace HB := Aside0.mk (bs HB.out hb); (try clear hb); (try clear hb2); (try clear hk); (try clear hi); have hnb61 := NB421_422.out; have hnc61 := NB422_421.out; have hnb62 := NB421_439.out; have hnc62 := NB439_421.out; have hcz63_0 : w60.cell? ⟨gb421, 0, none⟩ = some (.slice Ao22 t412.length co22) := (blk_cell BK421.out 0).trans rfl; have hfz63_0 := blk_frozen BK421.out 0; have hnb64 := NB422_439.out; have hnc64 := NB439_422.out; have hcz65_0 : w60.cell? ⟨gb422, 0, none⟩ = some (.slice Ao26 t418.length co26) := (blk_cell BK422.out 0).trans rfl; have hfz65_0 := blk_frozen BK422.out 0) | (go_at_call 25; (with_reducible refine (nat_Nat_Add.calls kj12 _ _ t412 _ _ t418 t445 _ ?side1 ?side2 ?side3 ?side4 A50.out).mono ?_); (case side1 => exact cv HO_422000.out); (case side2 => exact (Kd.V_reads' HO_422000.out).2.1); (case side3 => exact cv HO_423000.out); (case side4 => exact (Kd.V_reads' HO_423000.out).2.1); rintro e w66 ⟨v446, rfl, ho0, hb⟩; replace HO_7 := Aside0.mk (vb HO_7.out hb); replace HO_8 := Aside0.mk (vb HO_8.out hb); replace HO_11 := Aside0.mk (vb HO_11.out hb); replace HO_422000 := Aside0.mk (vb HO_422000.out hb); replace HO_423000 := Aside0.mk (vb HO_423000.out hb); replace HO_440000 := Aside0.mk (vb HO_440000.out hb); have HO447 := Aside0.mk (Kd.V_lower (Kd.V_mono (ok' := fun k_ => k_ ≠ gb421 ∧ k_ ≠ gb422 ∧ k_ ≠ gb439) ho0 (fun k_ hk_ => ⟨(fb BK421.out k_ hk_), (fb BK422.out k_ hk_), (fb BK439.out k_ hk_)⟩)) (bz HB.out)); replace BK421 := Aside0.mk (bb BK421.out hb); replace BK422 := Aside0.mk (bb BK422.out hb); replace BK439 := Aside0.mk (bb BK439.out hb); replace HB := Aside0.mk (bs HB.out hb); (try clear hb); (try clear hb2); (try clear hk); (try clear hi); (try clear ho0)) | (go_at_call 29; (with_reducible refine (chattelref01_Add.calls kj12 _ _ t426 _ _ t432 t448 _ ?side1 ?side2 ?side3 ?side4 A51.out).mono ?_); (case side1 => exact cv HO_7.out); (case side2 => exact (Kd.V_reads' HO_7.out).2.1); (case side3 => exact cv HO_8.out); (case side4 => exact (Kd.V_reads' HO_8.out).2.1); rintro e w67 ⟨v449, rfl, ho0, hb⟩; replace HO_7 := Aside0.mk (vb HO_7.out hb); replace HO_8 := Aside0.mk (vb HO_8.out hb); replace HO_11 := Aside0.mk (vb HO_11.out hb); replace HO_422000 := Aside0.mk (vb HO_422000.out hb); replace HO_423000 := Aside0.mk (vb HO_423000.out hb); replace HO_440000 := Aside0.mk (vb HO_440000.out hb); replace HO447 := Aside0.mk (vb HO447.out hb); have HO450 := Aside0.mk (Kd.V_lower (Kd.V_mono (ok' := fun k_ => k_ ≠ gb421 ∧ k_ ≠ gb422 ∧ k_ ≠ gb439) ho0 (fun k_ hk_ => ⟨(fb BK421.out k_ hk_), (fb BK422.out k_ hk_), (fb BK439.out k_ hk_)⟩)) (bz HB.out)); replace BK421 := Aside0.mk (bb BK421.out hb); replace BK422 := Aside0.mk (bb BK422.out hb); replace BK439 := Aside0.mk (bb BK439.out hb); replace HB := Aside0.mk (bs HB.out hb); (try clear hb); (try clear hb2); (try clear hk); (try clear hi); (try clear ho0); obtain ⟨Ao68, co68, eo68⟩ := Kd.V_slice HO447.out; subst eo68; obtain ⟨Ao69, co69, eo69⟩ := Kd.V_slice HO450.out; subst eo69) | (go_at_call 28; (with_reducible refine (chattellaw01_same.calls kj12 _ _ t445 _ _ t448 true _ ?side1 ?side2 ?side3 ?side4 A52.out).mono ?_); (case side1 => exact cv HO447.out); (case side2 => exact (Kd.V_reads' HO447.out).2.1); (case side3 => exact cv HO450.out); (case side4 => exact (Kd.V_reads' HO450.out).2.1); rintro e w70 ⟨rfl, hb⟩; replace HO_7 := Aside0.mk (vb HO_7.out hb); replace HO_8 := Aside0.mk (vb HO_8.out hb); replace HO_11 := Aside0.mk (vb HO_11.out hb); replace HO_422000 := Aside0.mk (vb HO_422000.out hb); replace HO_423000 := Aside0.mk (vb HO_423000.out hb); replace HO_440000 := Aside0.mk (vb HO_440000.out hb); replace HO447 := Aside0.mk (vb HO447.out hb); replace HO450 := Aside0.mk (vb HO450.out hb); replace BK421 := Aside0.mk (bb BK421.out hb); replace BK422 := Aside0.mk (bb BK422.out hb); replace BK439 := Aside0.mk (bb BK439.out hb); replace HB := Aside0.mk (bs HB.out hb); (try clear hb); (try clear hb2); (try clear hk); (try clear hi); have hcz71_0 : w70.cell? ⟨gb421, 0, none⟩ = some (.slice Ao22 t412.length co22) := (blk_cell BK421.out 0).trans rfl; have hfz71_0 := blk_frozen BK421.out 0; have hcz72_0 : w70.cell? ⟨gb422, 0, none⟩ = some (.slice Ao26 t418.length co26) := (blk_cell BK422.out 0).trans rfl; have hfz72_0 := blk_frozen BK422.out 0) | (go_at_call 24; (with_reducible refine (nat_Nat_Mul.calls kj12 _ _ t412 _ _ t418 t452 _ ?side1 ?side2 ?side3 ?side4 A54.out).mono ?_); (case side1 => exact cv HO_422000.out); (case side2 => exact (Kd.V_reads' HO_422000.out).2.1); (case side3 => exact cv HO_423000.out); (case side4 => exact (Kd.V_reads' HO_423000.out).2.1); rintro e w73 ⟨v453, rfl, ho0, hb⟩; replace HO_7 := Aside0.mk (vb HO_7.out hb); replace HO_8 := Aside0.mk (vb HO_8.out hb); replace HO_11 := Aside0.mk (vb HO_11.out hb); replace HO_422000 := Aside0.mk (vb HO_422000.out hb); replace HO_423000 := Aside0.mk (vb HO_423000.out hb); replace HO_440000 := Aside0.mk (vb HO_440000.out hb); replace HO447 := Aside0.mk (vb HO447.out hb); replace HO450 := Aside0.mk (vb HO450.out hb); have HO454 := Aside0.mk (Kd.V_lower (Kd.V_mono (ok' := fun k_ => k_ ≠ gb421 ∧ k_ ≠ gb422 ∧ k_ ≠ gb439) ho0 (fun k_ hk_ => ⟨(fb BK421.out k_ hk_), (fb BK422.out k_ hk_), (fb BK439.out k_ hk_)⟩)) (bz HB.out)); replace BK421 := Aside0.mk (bb BK421.out hb); replace BK422 := Aside0.mk (bb BK422.out hb); replace BK439 := Aside0.mk (bb BK439.out hb); replace HB := Aside0.mk (bs HB.out hb); (try clear hb); (try clear hb2); (try clear hk); (try clear hi); (try clear ho0)) | (go_at_call 30; (with_reducible refine (chattelref01_Mul.calls kj12 _ _ t426 _ _ t432 t455 _ ?side1 ?side2 ?side3 ?side4 A55.out).mono ?_); (case side1 => exact cv HO_7.out); (case side2 => exact (Kd.V_reads' HO_7.out).2.1); (case side3 => exact cv HO_8.out); (case side4 => exact (Kd.V_reads' HO_8.out).2.1); rintro e w74 ⟨v456, rfl, ho0, hb⟩; replace HO_7 := Aside0.mk (vb HO_7.out hb); replace HO_8 := Aside0.mk (vb HO_8.out hb); replace HO_11 := Aside0.mk (vb HO_11.out hb); replace HO_422000 := Aside0.mk (vb HO_422000.out hb); replace HO_423000 := Aside0.mk (vb HO_423000.out hb); replace HO_440000 := Aside0.mk (vb HO_440000.out hb); replace HO447 := Aside0.mk (vb HO447.out hb); replace HO450 := Aside0.mk (vb HO450.out hb); replace HO454 := Aside0.mk (vb HO454.out hb); have HO457 := Aside0.mk (Kd.V_lower (Kd.V_mono (ok' := fun k_ => k_ ≠ gb421 ∧ k_ ≠ gb422 ∧ k_ ≠ gb439) ho0 (fun k_ hk_ => ⟨(fb BK421.out k_ hk_), (fb BK422.out k_ hk_), (fb BK439.out k_ hk_)⟩)) (bz HB.out)); replace BK421 := Aside0.mk (bb BK421.out hb); replace BK422 := Aside0.mk (bb BK422.out hb); replace BK439 := Aside0.mk (bb BK439.out hb); replace HB := Aside0.mk (bs HB.out hb); (try clear hb); (try clear hb2); (try clear hk); (try clear hi); (try clear ho0); obtain ⟨Ao75, co75, eo75⟩ := Kd.V_slice HO454.out; subst eo75; obtain ⟨Ao76, co76, eo76⟩ := Kd.V_slice HO457.out; subst eo76) | (go_at_call 28; (with_reducible refine (chattellaw01_same.calls kj12 _ _ t452 _ _ t455 true _ ?side1 ?side2 ?side3 ?side4 A56.out).mono ?_); (case side1 => exact cv HO454.out); (case side2 => exact (Kd.V_reads' HO454.out).2.1); (case side3 => exact cv HO457.out); (case side4 => exact (Kd.V_reads' HO457.out).2.1); rintro e w77 ⟨rfl, hb⟩; replace HO_7 := Aside0.mk (vb HO_7.out hb); replace HO_8 := Aside0.mk (vb HO_8.out hb); replace HO_11 := Aside0.mk (vb HO_11.out hb); replace HO_422000 := Aside0.mk (vb HO_422000.out hb); replace HO_423000 := Aside0.mk (vb HO_423000.out hb); replace HO_440000 := Aside0.mk (vb HO_440000.out hb); replace HO447 := Aside0.mk (vb HO447.out hb); replace HO450 := Aside0.mk (vb HO450.out hb); replace HO454 := Aside0.mk (vb HO454.out hb); replace HO457 := Aside0.mk (vb HO457.out hb); replace BK421 := Aside0.mk (bb BK421.out hb); replace BK422 := Aside0.mk (bb BK422.out hb); replace BK439 := Aside0.mk (bb BK439.out hb); replace HB := Aside0.mk (bs HB.out hb); (try clear hb); (try clear hb2); (try clear hk); (try clear hi); have hcz78_0 : w77.cell? ⟨gb439, 0, none⟩ = some (.slice Ao39 t435.length co39) := (blk_cell BK439.out 0).trans rfl; have hfz78_0 := blk_frozen BK439.out 0; obtain ⟨Ao79, co79, eo79⟩ := Kd.V_slice HO_11.out; subst eo79) | (go_at_call 28; (with_reducible refine (chattellaw01_same.calls kj12 _ _ t435 _ _ x11_12 t459 _ ?side1 ?side2 ?side3 ?side4 A59.out).mono ?_); (case side1 => exact cv HO_440000.out); (case side2 => exact (Kd.V_reads' HO_440000.out).2.1); (case side3 => exact cv HO_11.out); (case side4 => exact (Kd.V_reads' HO_11.out).2.1); rintro e w80 ⟨rfl, hb⟩; replace HO_7 := Aside0.mk (vb HO_7.out hb); replace HO_8 := Aside0.mk (vb HO_8.out hb); replace HO_11 := Aside0.mk (vb HO_11.out hb); replace HO_422000 := Aside0.mk (vb HO_422000.out hb); replace HO_423000 := Aside0.mk (vb HO_423000.out hb); replace HO_440000 := Aside0.mk (vb HO_440000.out hb); replace HO447 := Aside0.mk (vb HO447.out hb); replace HO450 := Aside0.mk (vb HO450.out hb); replace HO454 := Aside0.mk (vb HO454.out hb); replace HO457 := Aside0.mk (vb HO457.out hb); replace BK421 := Aside0.mk (bb BK421.out hb); replace BK422 := Aside0.mk (bb BK422.out hb); replace BK439 := Aside0.mk (bb BK439.out hb); replace HB := Aside0.mk (bs HB.out hb); (try clear hb); (try clear hb2); (try clear hk); (try clear hi)))
            go_ret
            exact ⟨by first | rfl | (simp [errW_none, errW_some] <;> rfl) | (simp [*, errW_none, errW_some] <;> rfl), by repeat (first | (with_reducible first | exact HB.out | apply below_alloc | apply pw_below_drewN | apply below_drew1 | refine below_set ?_ GE421.out | refine below_set ?_ GE422.out | refine below_set ?_ GE439.out) | exact HB.out)⟩
          · replace c57 := Bool.eq_false_iff.mpr c57
            subst c57
            have H1 : (some false) = some r := by rw [if_neg (show ¬ (false = true) by decide)] at H; exact H
            clear H
            have H := H1
            clear H1
            exact absurd (Option.some.inj H) (by rw [ht_]; decide)
        · replace c53 := Bool.eq_false_iff.mpr c53
          subst c53
          have H1 : (some false) = some r := by rw [if_neg (show ¬ (false = true) by decide)] at H; exact H
          clear H
          have H := H1
          clear H1
          exact absurd (Option.some.inj H) (by rw [ht_]; decide)
      · replace c49 := Bool.eq_false_iff.mpr c49
        subst c49
        have H1 : (some false) = some r := by rw [if_neg (show ¬ (false = true) by decide)] at H; exact H
        clear H
        have H := H1
        clear H1
        exact absurd (Option.some.inj H) (by rw [ht_]; decide)

/-- THE ONE PURE STATEMENT of chattellaw01_NatSums: yours. -/
def chattellaw01_NatSums.Pure : Prop := ∀ (l0 : List Int) (l1 : List Int), l0.length ≤ maxLen → l0.length * 8 ≤ 140737488351232 → (∀ x ∈ l0, (Lit.int .u64 x).wf = true) → l1.length ≤ maxLen → l1.length * 8 ≤ 140737488351232 → (∀ x ∈ l1, (Lit.int .u64 x).wf = true) → ∃ k, chattellaw01_NatSums.f k l0 l1 = some true
theorem chattellaw01_NatSums.walk (P : chattellaw01_NatSums.Pure) (a0 : Option Addr) (len0 cap0 : Nat) (z0 : List Int) (a1 : Option Addr) (len1 cap1 : Nat) (z1 : List Int) (w : World) (w0 : (a0 = none ∧ len0 = 0 ∧ cap0 = 0 ∧ z0 = []) ∨ ∃ x, a0 = some x ∧ len0 ≤ cap0 ∧ cap0 ≤ maxLen ∧ z0.length = cap0 ∧ (∀ i, i < z0.length → w.cell? (x.add i) = some (.int .u64 (z0.getD i 0))) ∧ ∀ n ∈ z0, (Lit.int .u64 n).wf = true) (y0 : len0 * 8 ≤ 140737488351232) (w1 : (a1 = none ∧ len1 = 0 ∧ cap1 = 0 ∧ z1 = []) ∨ ∃ x, a1 = some x ∧ len1 ≤ cap1 ∧ cap1 ≤ maxLen ∧ z1.length = cap1 ∧ (∀ i, i < z1.length → w.cell? (x.add i) = some (.int .u64 (z1.getD i 0))) ∧ ∀ n ∈ z1, (Lit.int .u64 n).wf = true) (y1 : len1 * 8 ≤ 140737488351232) :
    Calls Try.prog 5 #[.slice a0 len0 cap0, .slice a1 len1 cap1] w fun e w' => e = .returned (.bool true) ∧ Below w.heap.size w w' := by
  obtain ⟨l0, rfl, hr0, hm0, hw0, hc0⟩ := ReadsInt.ofRowC w0
  obtain ⟨l1, rfl, hr1, hm1, hw1, hc1⟩ := ReadsInt.ofRowC w1
  obtain ⟨k, h⟩ := P l0 l1 hm0 y0 hw0 hm1 y1 hw1
  refine (chattellaw01_NatSums.calls k _ _ l0 _ _ l1 true w (Kd.C_of_reads (d := (0 : Int)) (h1 := fun _ => rfl) hr0) hc0 (Kd.C_of_reads (d := (0 : Int)) (h1 := fun _ => rfl) hr1) hc1 h rfl).mono ?_
  rintro e w' ⟨rfl, hd⟩
  exact ⟨rfl, hd⟩

end Go.Proofs.Ytebjbmgfbejapaa.F
end
