-- Written by this session's printer (wip/tools), out of the translation's own print. Lean checks it.
import Derived.Test.YtfikfmediheioaaF0
import Derived.Test.YtfikfmediheioaaF5
import Derived.Test.YtfikfmediheioaaF6
namespace Go.Proofs.Ytfikfmediheioaa.F
open Go.RowKit Go.Proofs.YtfikfmediheioaaW.PrintWords Go.Proofs.YtfikfmediheioaaW.PrintLast Go.Proofs.YtfikfmediheioaaW.PrintMore Go.Proofs.YtfikfmediheioaaX
attribute [local go_sem] max2_int cell_some
attribute [local go_sem] max2_int min2_int max_two min_two max_three min_three max_four min_four   -- for this text's walks alone
set_option linter.unusedVariables false
set_option linter.unusedSimpArgs false

/-! ### date_Days: function 27 -/
def date_Days.j0 : Nat → Int → Int → Bool → Option (Int)
  | 0, _, _, _ => none
  | k + 1, x0, x1, x15 => if x15 = true then (some 0) else (if x1 = 2 then ((date_Leap.f x0).bind fun t108 => (if t108 = true then (some 29) else (if 0 ≤ (wrap64 (x1 - 1)) then (if (wrap64 (x1 - 1)) < 12 then (some (rd ([31, 28, 31, 30, 31, 30, 31, 31, 30, 31, 30, 31] : List Int) (wrap64 (x1 - 1)))) else (none)) else (none)))) else (if 0 ≤ (wrap64 (x1 - 1)) then (if (wrap64 (x1 - 1)) < 12 then (some (rd ([31, 28, 31, 30, 31, 30, 31, 31, 30, 31, 30, 31] : List Int) (wrap64 (x1 - 1)))) else (none)) else (none)))
def date_Days.f (k : Nat) (a0 : Int) (a1 : Int) : Option (Int) := (date_good.f a0).bind fun t107 => (if t107 = true then (if a1 < 1 then (date_Days.j0 k a0 a1 true) else (date_Days.j0 k a0 a1 (decide (a1 > 12)))) else (date_Days.j0 k a0 a1 true))
theorem date_Days.mono_l : ∀ k, (∀ y0 y1 y2, LeO (date_Days.j0 k y0 y1 y2) (date_Days.j0 (k + 1) y0 y1 y2))
  | 0 => fun _ _ _ r h => by simp [date_Days.j0] at h
  | k + 1 => by
    have ih0 := date_Days.mono_l k
    · intro y0 y1 y2
      unfold date_Days.j0
      repeat' first
      | (with_reducible exact ih0 _ _ _)
      | (with_reducible exact LeO.refl _)
      | (with_reducible exact LeO.none _)
      | (with_reducible refine LeO.ite ?_ ?_)
      | (with_reducible refine LeO.bind ?_ (fun _ => ?_))
      | exact ih0 _ _ _
      | exact LeO.none _
      | refine LeO.ite ?_ ?_
      | refine LeO.bind ?_ (fun _ => ?_)
theorem date_Days.mono : ∀ a0 a1 k, LeO (date_Days.f k a0 a1) (date_Days.f (k + 1) a0 a1) := by
  intro a0 a1 k
  have ih0 := date_Days.mono_l k
  unfold date_Days.f
  repeat' first
      | (with_reducible exact ih0 _ _ _)
      | (with_reducible exact LeO.refl _)
      | (with_reducible exact LeO.none _)
      | (with_reducible refine LeO.ite ?_ ?_)
      | (with_reducible refine LeO.bind ?_ (fun _ => ?_))
      | exact ih0 _ _ _
      | exact LeO.none _
      | refine LeO.ite ?_ ?_
      | refine LeO.bind ?_ (fun _ => ?_)
set_option maxHeartbeats 8000000 in
set_option maxRecDepth 100000 in
theorem date_Days.calls (k : Nat) (a0 : Int) (a1 : Int) (r : Int) (w : World) (h : date_Days.f k a0 a1 = some r) :
    Calls Try.prog 27 #[.int .i64 a0, .int .i64 a1] w fun e w' => e = .returned (.int .i64 r) ∧ Drawn0 w w' := by
  have hu69 := Try.underlying69
  have H : ((date_good.f a0).bind fun t107 => (if t107 = true then (if a1 < 1 then (date_Days.j0 k a0 a1 true) else (date_Days.j0 k a0 a1 (decide (a1 > 12)))) else (date_Days.j0 k a0 a1 true))) = some r := h
  clear h
  have HC3 := Aside0.mk H
  clear H
  go_enter Try.func27, Try.ntmps27
  go_upto_region 1 with (fail)
  go_cut [15] (fun v15 wc => ∃ (kq : Nat) (x15_2 : Bool), v15 = .bool x15_2 ∧ Aside0 (date_Days.j0 kq a0 a1 x15_2 = some r) ∧ Aside0 (kq ≤ k) ∧ Drawn0 w wc)
  case first =>
    have H := HC3.out
    clear HC3
    replace H := Option.bind_eq_some_iff.mp H
    obtain ⟨t107, A40, H⟩ := H
    replace H : (if t107 = true then (if a1 < 1 then (date_Days.j0 k a0 a1 true) else (date_Days.j0 k a0 a1 (decide (a1 > 12)))) else (date_Days.j0 k a0 a1 true)) = some r := H
    have A4 := Aside0.mk A40
    clear A40
    by_cases c5 : t107 = true
    · subst c5
      have H1 : (if a1 < 1 then (date_Days.j0 k a0 a1 true) else (date_Days.j0 k a0 a1 (decide (a1 > 12)))) = some r := by rw [if_pos rfl] at H; exact H
      clear H
      have H := H1
      clear H1
      by_cases c6 : a1 < 1
      · rw [if_pos c6] at H
        have c6b0 : decide (a1 < 1) = true := decide_eq_true c6
        clear c6
        (first | rw [c6b0] | (simp only [i64_w, i32_w]; rw [c6b0]) | skip)
        have H' := Aside0.mk H
        clear H
        go_wp2_with (first | ((with_reducible refine gate_callee (f := 44) rfl ?_); refine goesL_ (some 6) rfl rfl Try.func44 (by kernel_rfl) rfl #[.int .i64 a0] rfl (by (try simp only [List.map_toArray, List.map_cons, List.map_nil]); first | done | rfl | (simp only [List.length_drop, List.length_take]; rfl)) ?_; (with_reducible refine (date_good.calls a0 true _ A4.out).mono ?_); rintro e w' ⟨rfl, ⟨nd, rfl⟩⟩; refine ⟨_, rfl, ?_⟩))
        (refine Met.intro ?_; go_step; (repeat apply Exists.intro); refine ⟨?rel, ?frame⟩)
        case frame => first | rfl | (rw [c6b0]; first | done | rfl) | (simp only [c6b0]; first | done | rfl)
        case rel => exact ⟨_, (true), (by first | rfl | (simp; done) | (simp [*]; done)), H', ⟨by first | omega | exact Nat.le_refl _⟩, by repeat (first | exact Drawn0.refl _ | apply Drawn0.step)⟩
      · rw [if_neg c6] at H
        have c6b0 : decide (a1 < 1) = false := decide_eq_false c6
        clear c6
        (first | rw [c6b0] | (simp only [i64_w, i32_w]; rw [c6b0]) | skip)
        have H' := Aside0.mk H
        clear H
        go_wp2_with (first | ((with_reducible refine gate_callee (f := 44) rfl ?_); refine goesL_ (some 6) rfl rfl Try.func44 (by kernel_rfl) rfl #[.int .i64 a0] rfl (by (try simp only [List.map_toArray, List.map_cons, List.map_nil]); first | done | rfl | (simp only [List.length_drop, List.length_take]; rfl)) ?_; (with_reducible refine (date_good.calls a0 true _ A4.out).mono ?_); rintro e w' ⟨rfl, ⟨nd, rfl⟩⟩; refine ⟨_, rfl, ?_⟩))
        (refine Met.intro ?_; go_step; (repeat apply Exists.intro); refine ⟨?rel, ?frame⟩)
        case frame => first | rfl | (rw [c6b0]; first | done | rfl) | (simp only [c6b0]; first | done | rfl)
        case rel => exact ⟨_, (decide (a1 > 12)), (by first | rfl | (simp; done) | (simp [*]; done)), H', ⟨by first | omega | exact Nat.le_refl _⟩, by repeat (first | exact Drawn0.refl _ | apply Drawn0.step)⟩
    · replace c5 := Bool.eq_false_iff.mpr c5
      subst c5
      have H1 : (date_Days.j0 k a0 a1 true) = some r := by rw [if_neg (show ¬ (false = true) by decide)] at H; exact H
      clear H
      have H := H1
      clear H1
      have H' := Aside0.mk H
      clear H
      go_wp2_with (first | ((with_reducible refine gate_callee (f := 44) rfl ?_); refine goesL_ (some 6) rfl rfl Try.func44 (by kernel_rfl) rfl #[.int .i64 a0] rfl (by (try simp only [List.map_toArray, List.map_cons, List.map_nil]); first | done | rfl | (simp only [List.length_drop, List.length_take]; rfl)) ?_; (with_reducible refine (date_good.calls a0 false _ A4.out).mono ?_); rintro e w' ⟨rfl, ⟨nd, rfl⟩⟩; refine ⟨_, rfl, ?_⟩))
      go_meet
      case rel => exact ⟨_, (true), (by first | rfl | (simp; done) | (simp [*]; done)), H', ⟨by first | omega | exact Nat.le_refl _⟩, by repeat (first | exact Drawn0.refl _ | apply Drawn0.step)⟩
  case rest =>
    clear HC3
    try clear c2
    try clear p2
    try clear c4
    try clear c5
    try clear c6
    try clear c6b0
    obtain ⟨kq, x15_2, rfl, HA, HJ2, ⟨mc2, rfl⟩⟩ := hcut
    cases kq with
    | zero => exact absurd HA.out (by simp [date_Days.j0])
    | succ kj2 =>
      have H := HA.out
      clear HA
      simp only [date_Days.j0] at H
      by_cases c7 : x15_2 = true
      · subst c7
        have H1 : (some 0) = some r := by rw [if_pos rfl] at H; exact H
        clear H
        have H := H1
        clear H1
        obtain rfl := Option.some.inj H
        go_wp2
        go_ret
        exact ⟨by first | rfl | (simp; done) | (simp [*]; done), by repeat (first | exact Drawn0.refl _ | apply Drawn0.step)⟩
      · replace c7 := Bool.eq_false_iff.mpr c7
        subst c7
        have H1 : (if a1 = 2 then ((date_Leap.f a0).bind fun t108 => (if t108 = true then (some 29) else (if 0 ≤ (wrap64 (a1 - 1)) then (if (wrap64 (a1 - 1)) < 12 then (some (rd ([31, 28, 31, 30, 31, 30, 31, 31, 30, 31, 30, 31] : List Int) (wrap64 (a1 - 1)))) else (none)) else (none)))) else (if 0 ≤ (wrap64 (a1 - 1)) then (if (wrap64 (a1 - 1)) < 12 then (some (rd ([31, 28, 31, 30, 31, 30, 31, 31, 30, 31, 30, 31] : List Int) (wrap64 (a1 - 1)))) else (none)) else (none))) = some r := by rw [if_neg (show ¬ (false = true) by decide)] at H; exact H
        clear H
        have H := H1
        clear H1
        by_cases c8 : a1 = 2
        · rw [if_pos c8] at H
          have c8b0 : (a1 == 2) = true := beq_iff_eq.mpr c8
          have c8b1 : (a1 != 2) = false := bne_eq_false_iff_eq.mpr c8
          clear c8
          replace H := Option.bind_eq_some_iff.mp H
          obtain ⟨t108, A90, H⟩ := H
          replace H : (if t108 = true then (some 29) else (if 0 ≤ (wrap64 (a1 - 1)) then (if (wrap64 (a1 - 1)) < 12 then (some (rd ([31, 28, 31, 30, 31, 30, 31, 31, 30, 31, 30, 31] : List Int) (wrap64 (a1 - 1)))) else (none)) else (none))) = some r := H
          have A9 := Aside0.mk A90
          clear A90
          by_cases c10 : t108 = true
          · subst c10
            have H1 : (some 29) = some r := by rw [if_pos rfl] at H; exact H
            clear H
            have H := H1
            clear H1
            obtain rfl := Option.some.inj H
            go_wp2_with (first | (go_at_call 25; (with_reducible refine (date_Leap.calls a0 true _ A9.out).mono ?_); rintro e w' ⟨rfl, ⟨nd, rfl⟩⟩))
            go_ret
            exact ⟨by first | rfl | (simp; done) | (simp [*]; done), by repeat (first | exact Drawn0.refl _ | apply Drawn0.step)⟩
          · replace c10 := Bool.eq_false_iff.mpr c10
            subst c10
            have H1 : (if 0 ≤ (wrap64 (a1 - 1)) then (if (wrap64 (a1 - 1)) < 12 then (some (rd ([31, 28, 31, 30, 31, 30, 31, 31, 30, 31, 30, 31] : List Int) (wrap64 (a1 - 1)))) else (none)) else (none)) = some r := by rw [if_neg (show ¬ (false = true) by decide)] at H; exact H
            clear H
            have H := H1
            clear H1
            obtain ⟨ji11, hji11⟩ : ∃ j_ : Int, (wrap64 (a1 - 1)) = j_ := ⟨_, rfl⟩
            replace H : (if 0 ≤ (ji11) then (if (ji11) < 12 then (some (rd ([31, 28, 31, 30, 31, 30, 31, 31, 30, 31, 30, 31] : List Int) (ji11))) else (none)) else (none)) = some r := by first | (rw [hji11] at H; exact H) | (simp only [hji11] at H ⊢; exact H)
            (try rw [hji11] at A9)
            have hji11w : (IntKind.i64.wrap (a1 - 1)) = ji11 := (i64_w _).trans hji11
            by_cases c12 : 0 ≤ (ji11)
            rotate_left
            · rw [if_neg c12] at H
              exact absurd H (by simp)
            rw [if_pos c12] at H
            have c12b0 : decide (0 ≤ (ji11)) = true := decide_eq_true c12
            clear c12
            by_cases c13 : (ji11) < 12
            rotate_left
            · rw [if_neg c13] at H
              exact absurd H (by simp)
            rw [if_pos c13] at H
            have c13b0 : decide ((ji11) < 12) = true := decide_eq_true c13
            clear c13
            obtain rfl := Option.some.inj H
            go_wp2_with (first | (go_at_call 25; (with_reducible refine (date_Leap.calls a0 false _ A9.out).mono ?_); rintro e w' ⟨rfl, ⟨nd, rfl⟩⟩; have p14 : 0 ≤ ((ji11) : Int) := of_decide_eq_true (by first | (with_reducible assumption) | assumption); have q14 : (ji11) < (12 : Int) := of_decide_eq_true (by first | (with_reducible assumption) | assumption); have hx14 : ∀ W : World, (Instr.index 69 (.agg #[.int .i64 31, .int .i64 28, .int .i64 31, .int .i64 30, .int .i64 31, .int .i64 30, .int .i64 31, .int .i64 31, .int .i64 30, .int .i64 31, .int .i64 30, .int .i64 31]) (.int .i64 (ji11))).run Try.prog W = .ok (.int .i64 (rd [31, 28, 31, 30, 31, 30, 31, 31, 30, 31, 30, 31] (ji11))) W := run_index_arr 69 3 .i64 .i64 [31, 28, 31, 30, 31, 30, 31, 31, 30, 31, 30, 31] (ji11) Try.underlying69 (by kernel_rfl) ⟨_, Try.underlying3⟩ p14 q14; replace p14 := eq_true p14; replace q14 := eq_true q14))
            go_ret
            exact ⟨by first | rfl | (simp; done) | (simp only [← hji11] <;> (first | rfl | simp)) | (simp [*]; done), by repeat (first | exact Drawn0.refl _ | apply Drawn0.step)⟩
        · rw [if_neg c8] at H
          have c8b0 : (a1 == 2) = false := beq_eq_false_iff_ne.mpr c8
          have c8b1 : (a1 != 2) = true := bne_iff_ne.mpr c8
          obtain ⟨ji15, hji15⟩ : ∃ j_ : Int, (wrap64 (a1 - 1)) = j_ := ⟨_, rfl⟩
          replace H : (if 0 ≤ (ji15) then (if (ji15) < 12 then (some (rd ([31, 28, 31, 30, 31, 30, 31, 31, 30, 31, 30, 31] : List Int) (ji15))) else (none)) else (none)) = some r := by first | (rw [hji15] at H; exact H) | (simp only [hji15] at H ⊢; exact H)
          have hji15w : (IntKind.i64.wrap (a1 - 1)) = ji15 := (i64_w _).trans hji15
          by_cases c16 : 0 ≤ (ji15)
          rotate_left
          · rw [if_neg c16] at H
            exact absurd H (by simp)

          rw [if_pos c16] at H
          have c16b0 : decide (0 ≤ (ji15)) = true := decide_eq_true c16
          clear c16
          by_cases c17 : (ji15) < 12
          rotate_left
          · rw [if_neg c17] at H
            exact absurd H (by simp)
          rw [if_pos c17] at H
          have c17b0 : decide ((ji15) < 12) = true := decide_eq_true c17
          clear c17
          obtain rfl := Option.some.inj H
          have p18 : 0 ≤ ((ji15) : Int) := of_decide_eq_true (by first | (with_reducible assumption) | assumption)
          have q18 : (ji15) < (12 : Int) := of_decide_eq_true (by first | (with_reducible assumption) | assumption)
          have hx18 : ∀ W : World, (Instr.index 69 (.agg #[.int .i64 31, .int .i64 28, .int .i64 31, .int .i64 30, .int .i64 31, .int .i64 30, .int .i64 31, .int .i64 31, .int .i64 30, .int .i64 31, .int .i64 30, .int .i64 31]) (.int .i64 (ji15))).run Try.prog W = .ok (.int .i64 (rd [31, 28, 31, 30, 31, 30, 31, 31, 30, 31, 30, 31] (ji15))) W := run_index_arr 69 3 .i64 .i64 [31, 28, 31, 30, 31, 30, 31, 31, 30, 31, 30, 31] (ji15) Try.underlying69 (by kernel_rfl) ⟨_, Try.underlying3⟩ p18 q18
          replace p18 := eq_true p18
          replace q18 := eq_true q18
          go_wp2
          go_ret
          exact ⟨by first | rfl | (simp; done) | (simp only [← hji15] <;> (first | rfl | simp)) | (simp [*]; done), by repeat (first | exact Drawn0.refl _ | apply Drawn0.step)⟩
end Go.Proofs.Ytfikfmediheioaa.F
