-- Written by this session's printer (wip/tools), out of the translation's own print. Lean checks it.
import Derived.Test.YtfikfmediheioaaF0
namespace Go.Proofs.Ytfikfmediheioaa.F
open Go.RowKit Go.Proofs.YtfikfmediheioaaW.PrintWords Go.Proofs.YtfikfmediheioaaW.PrintLast Go.Proofs.YtfikfmediheioaaW.PrintMore Go.Proofs.YtfikfmediheioaaX
attribute [local go_sem] max2_int cell_some
attribute [local go_sem] max2_int min2_int max_two min_two max_three min_three max_four min_four   -- for this text's walks alone
set_option linter.unusedVariables false
set_option linter.unusedSimpArgs false

/-! ### chattelref09_Leap: function 26 -/
def chattelref09_Leap.j0 : Nat → Int → Bool → Option (Bool)
  | 0, _, _ => none
  | k + 1, x0, x8 => if x8 = true then (some false) else (if (Int.tmod x0 400) = 0 then (some true) else (if (Int.tmod x0 4) = 0 then (some ((Int.tmod x0 100) != 0)) else (some false)))
def chattelref09_Leap.f (k : Nat) (a0 : Int) : Option (Bool) := if a0 < 1 then (chattelref09_Leap.j0 k a0 true) else (chattelref09_Leap.j0 k a0 (decide (a0 > 9999)))
theorem chattelref09_Leap.mono_l : ∀ k, (∀ y0 y1, LeO (chattelref09_Leap.j0 k y0 y1) (chattelref09_Leap.j0 (k + 1) y0 y1))
  | 0 => fun _ _ r h => by simp [chattelref09_Leap.j0] at h
  | k + 1 => by
    have ih0 := chattelref09_Leap.mono_l k
    · intro y0 y1
      unfold chattelref09_Leap.j0
      repeat' first
      | (with_reducible exact ih0 _ _)
      | (with_reducible exact LeO.refl _)
      | (with_reducible exact LeO.none _)
      | (with_reducible refine LeO.ite ?_ ?_)
      | (with_reducible refine LeO.bind ?_ (fun _ => ?_))
      | exact ih0 _ _
      | exact LeO.none _
      | refine LeO.ite ?_ ?_
      | refine LeO.bind ?_ (fun _ => ?_)
theorem chattelref09_Leap.mono : ∀ a0 k, LeO (chattelref09_Leap.f k a0) (chattelref09_Leap.f (k + 1) a0) := by
  intro a0 k
  have ih0 := chattelref09_Leap.mono_l k
  unfold chattelref09_Leap.f
  repeat' first
      | (with_reducible exact ih0 _ _)
      | (with_reducible exact LeO.refl _)
      | (with_reducible exact LeO.none _)
      | (with_reducible refine LeO.ite ?_ ?_)
      | (with_reducible refine LeO.bind ?_ (fun _ => ?_))
      | exact ih0 _ _
      | exact LeO.none _
      | refine LeO.ite ?_ ?_
      | refine LeO.bind ?_ (fun _ => ?_)
set_option maxHeartbeats 8000000 in
set_option maxRecDepth 100000 in
theorem chattelref09_Leap.calls (k : Nat) (a0 : Int) (r : Bool) (w : World) (h : chattelref09_Leap.f k a0 = some r) :
    Calls Try.prog 26 #[.int .i64 a0] w fun e w' => e = .returned (.bool r) ∧ Drawn0 w w' := by
  have H : (if a0 < 1 then (chattelref09_Leap.j0 k a0 true) else (chattelref09_Leap.j0 k a0 (decide (a0 > 9999)))) = some r := h
  clear h
  have HC2 := Aside0.mk H
  clear H
  go_enter Try.func26, Try.ntmps26
  go_upto_region 1 with (fail)
  go_cut [8] (fun v8 wc => ∃ (kq : Nat) (x8_1 : Bool), v8 = .bool x8_1 ∧ Aside0 (chattelref09_Leap.j0 kq a0 x8_1 = some r) ∧ Aside0 (kq ≤ k) ∧ Drawn0 w wc)
  case first =>
    have H := HC2.out
    clear HC2
    by_cases c3 : a0 < 1
    · rw [if_pos c3] at H
      have c3b0 : decide (a0 < 1) = true := decide_eq_true c3
      clear c3
      (first | rw [c3b0] | (simp only [i64_w, i32_w]; rw [c3b0]) | skip)
      have H' := Aside0.mk H
      clear H
      go_wp2
      (refine Met.intro ?_; go_step; (repeat apply Exists.intro); refine ⟨?rel, ?frame⟩)
      case frame => first | rfl | (rw [c3b0]; first | done | rfl) | (simp only [c3b0]; first | done | rfl)
      case rel => exact ⟨_, (true), (by first | rfl | (simp; done) | (simp [*]; done)), H', ⟨by first | omega | exact Nat.le_refl _⟩, by repeat (first | exact Drawn0.refl _ | apply Drawn0.step)⟩
    · rw [if_neg c3] at H
      have c3b0 : decide (a0 < 1) = false := decide_eq_false c3
      clear c3
      (first | rw [c3b0] | (simp only [i64_w, i32_w]; rw [c3b0]) | skip)
      have H' := Aside0.mk H
      clear H
      go_wp2
      (refine Met.intro ?_; go_step; (repeat apply Exists.intro); refine ⟨?rel, ?frame⟩)
      case frame => first | rfl | (rw [c3b0]; first | done | rfl) | (simp only [c3b0]; first | done | rfl)
      case rel => exact ⟨_, (decide (a0 > 9999)), (by first | rfl | (simp; done) | (simp [*]; done)), H', ⟨by first | omega | exact Nat.le_refl _⟩, by repeat (first | exact Drawn0.refl _ | apply Drawn0.step)⟩
  case rest =>
    clear HC2
    try clear c2
    try clear p2
    try clear c3
    try clear c3b0
    obtain ⟨kq, x8_1, rfl, HA, HJ1, ⟨mc1, rfl⟩⟩ := hcut
    cases kq with
    | zero => exact absurd HA.out (by simp [chattelref09_Leap.j0])
    | succ kj1 =>
      have H := HA.out
      clear HA
      simp only [chattelref09_Leap.j0] at H
      by_cases c4 : x8_1 = true
      · subst c4
        have H1 : (some false) = some r := by rw [if_pos rfl] at H; exact H
        clear H
        have H := H1
        clear H1
        obtain rfl := Option.some.inj H
        go_wp2
        go_ret
        exact ⟨by first | rfl | (simp; done) | (simp [*]; done), by repeat (first | exact Drawn0.refl _ | apply Drawn0.step)⟩
      · replace c4 := Bool.eq_false_iff.mpr c4
        subst c4
        have H1 : (if (Int.tmod a0 400) = 0 then (some true) else (if (Int.tmod a0 4) = 0 then (some ((Int.tmod a0 100) != 0)) else (some false))) = some r := by rw [if_neg (show ¬ (false = true) by decide)] at H; exact H
        clear H
        have H := H1
        clear H1
        by_cases c5 : (Int.tmod a0 400) = 0
        · rw [if_pos c5] at H
          have c5b0 : ((Int.tmod a0 400) == 0) = true := beq_iff_eq.mpr c5
          have c5b1 : ((Int.tmod a0 400) != 0) = false := bne_eq_false_iff_eq.mpr c5
          clear c5
          obtain rfl := Option.some.inj H
          go_wp2
          go_ret
          exact ⟨by first | rfl | (simp; done) | (simp [*]; done), by repeat (first | exact Drawn0.refl _ | apply Drawn0.step)⟩
        · rw [if_neg c5] at H
          have c5b0 : ((Int.tmod a0 400) == 0) = false := beq_eq_false_iff_ne.mpr c5
          have c5b1 : ((Int.tmod a0 400) != 0) = true := bne_iff_ne.mpr c5
          by_cases c6 : (Int.tmod a0 4) = 0
          · rw [if_pos c6] at H
            have c6b0 : ((Int.tmod a0 4) == 0) = true := beq_iff_eq.mpr c6
            have c6b1 : ((Int.tmod a0 4) != 0) = false := bne_eq_false_iff_eq.mpr c6
            clear c6
            obtain rfl := Option.some.inj H
            go_wp2
            go_ret
            exact ⟨by first | rfl | (simp; done) | (simp [*]; done), by repeat (first | exact Drawn0.refl _ | apply Drawn0.step)⟩
          · rw [if_neg c6] at H
            have c6b0 : ((Int.tmod a0 4) == 0) = false := beq_eq_false_iff_ne.mpr c6
            have c6b1 : ((Int.tmod a0 4) != 0) = true := bne_iff_ne.mpr c6
            obtain rfl := Option.some.inj H
            go_wp2
            go_ret
            exact ⟨by first | rfl | (simp; done) | (simp [*]; done), by repeat (first | exact Drawn0.refl _ | apply Drawn0.step)⟩

end Go.Proofs.Ytfikfmediheioaa.F
