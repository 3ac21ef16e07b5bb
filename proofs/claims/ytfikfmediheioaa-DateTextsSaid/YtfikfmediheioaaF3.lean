-- Written by this session's printer (wip/tools), out of the translation's own print. Lean checks it.
import Derived.Test.YtfikfmediheioaaF0
import Derived.Test.YtfikfmediheioaaF2
namespace Go.Proofs.Ytfikfmediheioaa.F
open Go.RowKit Go.Proofs.YtfikfmediheioaaW.PrintWords Go.Proofs.YtfikfmediheioaaW.PrintLast Go.Proofs.YtfikfmediheioaaW.PrintMore Go.Proofs.YtfikfmediheioaaX
attribute [local go_sem] max2_int cell_some
attribute [local go_sem] max2_int min2_int max_two min_two max_three min_three max_four min_four   -- for this text's walks alone
set_option linter.unusedVariables false
set_option linter.unusedSimpArgs false

/-! ### chattelref09_Days: function 28 -/
def chattelref09_Days.j0 : Nat → Int → Int → Bool → Option (Int)
  | 0, _, _, _ => none
  | k + 1, x0, x1, x19 => if x19 = true then (some 0) else (if x1 = 2 then ((chattelref09_Leap.f k x0).bind fun t101 => (if t101 = true then (some 29) else (some 28))) else (if x1 = 4 then (some 30) else (if x1 = 6 then (some 30) else (if x1 = 9 then (some 30) else (if x1 = 11 then (some 30) else (some 31))))))
def chattelref09_Days.f (k : Nat) (a0 : Int) (a1 : Int) : Option (Int) := if a0 < 1 then (chattelref09_Days.j0 k a0 a1 true) else (if a0 > 9999 then (chattelref09_Days.j0 k a0 a1 true) else (if a1 < 1 then (chattelref09_Days.j0 k a0 a1 true) else (chattelref09_Days.j0 k a0 a1 (decide (a1 > 12)))))
theorem chattelref09_Days.mono_l : ∀ k, (∀ y0 y1 y2, LeO (chattelref09_Days.j0 k y0 y1 y2) (chattelref09_Days.j0 (k + 1) y0 y1 y2))
  | 0 => fun _ _ _ r h => by simp [chattelref09_Days.j0] at h
  | k + 1 => by
    have ih0 := chattelref09_Days.mono_l k
    · intro y0 y1 y2
      unfold chattelref09_Days.j0
      repeat' first
      | (with_reducible exact ih0 _ _ _)
      | (with_reducible exact chattelref09_Leap.mono _ _)
      | (with_reducible exact LeO.refl _)
      | (with_reducible exact LeO.none _)
      | (with_reducible refine LeO.ite ?_ ?_)
      | (with_reducible refine LeO.bind ?_ (fun _ => ?_))
      | exact ih0 _ _ _
      | exact chattelref09_Leap.mono _ _
      | exact LeO.none _
      | refine LeO.ite ?_ ?_
      | refine LeO.bind ?_ (fun _ => ?_)
theorem chattelref09_Days.mono : ∀ a0 a1 k, LeO (chattelref09_Days.f k a0 a1) (chattelref09_Days.f (k + 1) a0 a1) := by
  intro a0 a1 k
  have ih0 := chattelref09_Days.mono_l k
  unfold chattelref09_Days.f
  repeat' first
      | (with_reducible exact ih0 _ _ _)
      | (with_reducible exact chattelref09_Leap.mono _ _)
      | (with_reducible exact LeO.refl _)
      | (with_reducible exact LeO.none _)
      | (with_reducible refine LeO.ite ?_ ?_)
      | (with_reducible refine LeO.bind ?_ (fun _ => ?_))
      | exact ih0 _ _ _
      | exact chattelref09_Leap.mono _ _
      | exact LeO.none _
      | refine LeO.ite ?_ ?_
      | refine LeO.bind ?_ (fun _ => ?_)
set_option maxHeartbeats 8000000 in
set_option maxRecDepth 100000 in
theorem chattelref09_Days.calls (k : Nat) (a0 : Int) (a1 : Int) (r : Int) (w : World) (h : chattelref09_Days.f k a0 a1 = some r) :
    Calls Try.prog 28 #[.int .i64 a0, .int .i64 a1] w fun e w' => e = .returned (.int .i64 r) ∧ Drawn0 w w' := by
  have H : (if a0 < 1 then (chattelref09_Days.j0 k a0 a1 true) else (if a0 > 9999 then (chattelref09_Days.j0 k a0 a1 true) else (if a1 < 1 then (chattelref09_Days.j0 k a0 a1 true) else (chattelref09_Days.j0 k a0 a1 (decide (a1 > 12)))))) = some r := h
  clear h
  have HC3 := Aside0.mk H
  clear H
  go_enter Try.func28, Try.ntmps28
  go_upto_region 1 with (fail)
  go_cut [19] (fun v19 wc => ∃ (kq : Nat) (x19_2 : Bool), v19 = .bool x19_2 ∧ Aside0 (chattelref09_Days.j0 kq a0 a1 x19_2 = some r) ∧ Aside0 (kq ≤ k) ∧ Drawn0 w wc)
  case first =>
    have H := HC3.out
    clear HC3
    by_cases c4 : a0 < 1
    · rw [if_pos c4] at H
      have c4b0 : decide (a0 < 1) = true := decide_eq_true c4
      clear c4
      (first | rw [c4b0] | (simp only [i64_w, i32_w]; rw [c4b0]) | skip)
      have H' := Aside0.mk H
      clear H
      go_wp2
      (refine Met.intro ?_; go_step; (repeat apply Exists.intro); refine ⟨?rel, ?frame⟩)
      case frame => first | rfl | (rw [c4b0]; first | done | rfl) | (simp only [c4b0]; first | done | rfl)
      case rel => exact ⟨_, (true), (by first | rfl | (simp; done) | (simp [*]; done)), H', ⟨by first | omega | exact Nat.le_refl _⟩, by repeat (first | exact Drawn0.refl _ | apply Drawn0.step)⟩
    · rw [if_neg c4] at H
      have c4b0 : decide (a0 < 1) = false := decide_eq_false c4
      clear c4
      (first | rw [c4b0] | (simp only [i64_w, i32_w]; rw [c4b0]) | skip)
      by_cases c5 : a0 > 9999
      · rw [if_pos c5] at H
        have c5b0 : decide (9999 < a0) = true := decide_eq_true c5
        clear c5
        have H' := Aside0.mk H
        clear H
        go_wp2
        (refine Met.intro ?_; go_step; (repeat apply Exists.intro); refine ⟨?rel, ?frame⟩)
        case frame => first | rfl | (rw [c5b0]; first | done | rfl) | (rw [c4b0]; first | done | rfl) | (simp only [c4b0, c5b0]; first | done | rfl)
        case rel => exact ⟨_, (true), (by first | rfl | (simp; done) | (simp [*]; done)), H', ⟨by first | omega | exact Nat.le_refl _⟩, by repeat (first | exact Drawn0.refl _ | apply Drawn0.step)⟩
      · rw [if_neg c5] at H
        have c5b0 : decide (9999 < a0) = false := decide_eq_false c5
        clear c5
        by_cases c6 : a1 < 1
        · rw [if_pos c6] at H
          have c6b0 : decide (a1 < 1) = true := decide_eq_true c6
          clear c6
          have H' := Aside0.mk H
          clear H
          go_wp2
          (refine Met.intro ?_; go_step; (repeat apply Exists.intro); refine ⟨?rel, ?frame⟩)
          case frame => first | rfl | (rw [c6b0]; first | done | rfl) | (rw [c5b0]; first | done | rfl) | (rw [c4b0]; first | done | rfl) | (simp only [c4b0, c5b0, c6b0]; first | done | rfl)
          case rel => exact ⟨_, (true), (by first | rfl | (simp; done) | (simp [*]; done)), H', ⟨by first | omega | exact Nat.le_refl _⟩, by repeat (first | exact Drawn0.refl _ | apply Drawn0.step)⟩
        · rw [if_neg c6] at H
          have c6b0 : decide (a1 < 1) = false := decide_eq_false c6
          clear c6
          have H' := Aside0.mk H
          clear H
          go_wp2
          (refine Met.intro ?_; go_step; (repeat apply Exists.intro); refine ⟨?rel, ?frame⟩)
          case frame => first | rfl | (rw [c6b0]; first | done | rfl) | (rw [c5b0]; first | done | rfl) | (rw [c4b0]; first | done | rfl) | (simp only [c4b0, c5b0, c6b0]; first | done | rfl)
          case rel => exact ⟨_, (decide (a1 > 12)), (by first | rfl | (simp; done) | (simp [*]; done)), H', ⟨by first | omega | exact Nat.le_refl _⟩, by repeat (first | exact Drawn0.refl _ | apply Drawn0.step)⟩
  case rest =>
    clear HC3
    try clear c2
    try clear p2
    try clear c4
    try clear c4b0
    try clear c5
    try clear c5b0
    try clear c6
    try clear c6b0
    obtain ⟨kq, x19_2, rfl, HA, HJ2, ⟨mc2, rfl⟩⟩ := hcut
    cases kq with
    | zero => exact absurd HA.out (by simp [chattelref09_Days.j0])
    | succ kj2 =>
      have H := HA.out
      clear HA
      simp only [chattelref09_Days.j0] at H
      by_cases c7 : x19_2 = true
      · subst c7
        have H1 : (some 0) = some r := by rw [if_pos rfl] at H; exact H
        clear H
        have H := H1
        clear H1
        obtain rfl := Option.some.inj H
        go_wp2
        go_ret
        exact ⟨by first | rfl | (simp; done) | (simp [*]; done), by repeat (first | exact Drawn0.refl _ | apply Drawn0.step)⟩
      · replace c7 := Bool.eq_false_iff.mpr c7
        subst c7
        have H1 : (if a1 = 2 then ((chattelref09_Leap.f kj2 a0).bind fun t101 => (if t101 = true then (some 29) else (some 28))) else (if a1 = 4 then (some 30) else (if a1 = 6 then (some 30) else (if a1 = 9 then (some 30) else (if a1 = 11 then (some 30) else (some 31)))))) = some r := by rw [if_neg (show ¬ (false = true) by decide)] at H; exact H
        clear H
        have H := H1
        clear H1
        by_cases c8 : a1 = 2
        · rw [if_pos c8] at H
          have c8b0 : (a1 == 2) = true := beq_iff_eq.mpr c8
          have c8b1 : (a1 != 2) = false := bne_eq_false_iff_eq.mpr c8
          clear c8
          replace H := Option.bind_eq_some_iff.mp H
          obtain ⟨t101, A90, H⟩ := H
          replace H : (if t101 = true then (some 29) else (some 28)) = some r := H
          have A9 := Aside0.mk A90
          clear A90
          by_cases c10 : t101 = true
          · subst c10
            have H1 : (some 29) = some r := by rw [if_pos rfl] at H; exact H
            clear H
            have H := H1
            clear H1
            obtain rfl := Option.some.inj H
            go_wp2_with (first | ((with_reducible refine gate_callee (f := 26) rfl ?_); refine goesL_ (some 23) rfl rfl Try.func26 (by kernel_rfl) rfl #[.int .i64 a0] rfl (by (try simp only [List.map_toArray, List.map_cons, List.map_nil]); first | done | rfl | (simp only [List.length_drop, List.length_take]; rfl)) ?_; (with_reducible refine (chattelref09_Leap.calls kj2 a0 true _ A9.out).mono ?_); rintro e w' ⟨rfl, ⟨nd, rfl⟩⟩; refine ⟨_, rfl, ?_⟩))
            go_ret
            exact ⟨by first | rfl | (simp; done) | (simp [*]; done), by repeat (first | exact Drawn0.refl _ | apply Drawn0.step)⟩
          · replace c10 := Bool.eq_false_iff.mpr c10
            subst c10
            have H1 : (some 28) = some r := by rw [if_neg (show ¬ (false = true) by decide)] at H; exact H
            clear H
            have H := H1
            clear H1
            obtain rfl := Option.some.inj H
            go_wp2_with (first | ((with_reducible refine gate_callee (f := 26) rfl ?_); refine goesL_ (some 23) rfl rfl Try.func26 (by kernel_rfl) rfl #[.int .i64 a0] rfl (by (try simp only [List.map_toArray, List.map_cons, List.map_nil]); first | done | rfl | (simp only [List.length_drop, List.length_take]; rfl)) ?_; (with_reducible refine (chattelref09_Leap.calls kj2 a0 false _ A9.out).mono ?_); rintro e w' ⟨rfl, ⟨nd, rfl⟩⟩; refine ⟨_, rfl, ?_⟩))
            go_ret
            exact ⟨by first | rfl | (simp; done) | (simp [*]; done), by repeat (first | exact Drawn0.refl _ | apply Drawn0.step)⟩
        · rw [if_neg c8] at H
          have c8b0 : (a1 == 2) = false := beq_eq_false_iff_ne.mpr c8
          have c8b1 : (a1 != 2) = true := bne_iff_ne.mpr c8
          by_cases c11 : a1 = 4
          · rw [if_pos c11] at H
            have c11b0 : (a1 == 4) = true := beq_iff_eq.mpr c11
            have c11b1 : (a1 != 4) = false := bne_eq_false_iff_eq.mpr c11
            clear c11
            obtain rfl := Option.some.inj H
            go_wp2
            go_ret
            exact ⟨by first | rfl | (simp; done) | (simp [*]; done), by repeat (first | exact Drawn0.refl _ | apply Drawn0.step)⟩
          · rw [if_neg c11] at H
            have c11b0 : (a1 == 4) = false := beq_eq_false_iff_ne.mpr c11
            have c11b1 : (a1 != 4) = true := bne_iff_ne.mpr c11
            by_cases c12 : a1 = 6
            · rw [if_pos c12] at H
              have c12b0 : (a1 == 6) = true := beq_iff_eq.mpr c12
              have c12b1 : (a1 != 6) = false := bne_eq_false_iff_eq.mpr c12
              clear c12
              obtain rfl := Option.some.inj H
              go_wp2
              go_ret
              exact ⟨by first | rfl | (simp; done) | (simp [*]; done), by repeat (first | exact Drawn0.refl _ | apply Drawn0.step)⟩
            · rw [if_neg c12] at H
              have c12b0 : (a1 == 6) = false := beq_eq_false_iff_ne.mpr c12
              have c12b1 : (a1 != 6) = true := bne_iff_ne.mpr c12
              by_cases c13 : a1 = 9
              · rw [if_pos c13] at H
                have c13b0 : (a1 == 9) = true := beq_iff_eq.mpr c13
                have c13b1 : (a1 != 9) = false := bne_eq_false_iff_eq.mpr c13
                clear c13
                obtain rfl := Option.some.inj H
                go_wp2
                go_ret
                exact ⟨by first | rfl | (simp; done) | (simp [*]; done), by repeat (first | exact Drawn0.refl _ | apply Drawn0.step)⟩
              · rw [if_neg c13] at H
                have c13b0 : (a1 == 9) = false := beq_eq_false_iff_ne.mpr c13
                have c13b1 : (a1 != 9) = true := bne_iff_ne.mpr c13
                by_cases c14 : a1 = 11
                · rw [if_pos c14] at H
                  have c14b0 : (a1 == 11) = true := beq_iff_eq.mpr c14
                  have c14b1 : (a1 != 11) = false := bne_eq_false_iff_eq.mpr c14
                  clear c14
                  obtain rfl := Option.some.inj H
                  go_wp2
                  go_ret
                  exact ⟨by first | rfl | (simp; done) | (simp [*]; done), by repeat (first | exact Drawn0.refl _ | apply Drawn0.step)⟩
                · rw [if_neg c14] at H
                  have c14b0 : (a1 == 11) = false := beq_eq_false_iff_ne.mpr c14
                  have c14b1 : (a1 != 11) = true := bne_iff_ne.mpr c14
                  obtain rfl := Option.some.inj H
                  go_wp2
                  go_ret
                  exact ⟨by first | rfl | (simp; done) | (simp [*]; done), by repeat (first | exact Drawn0.refl _ | apply Drawn0.step)⟩

end Go.Proofs.Ytfikfmediheioaa.F
