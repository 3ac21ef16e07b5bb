-- Written by this session's printer (wip/tools), out of the translation's own print. Lean checks it.
import Derived.Test.YtfikfmediheioaaF0
import Derived.Test.YtfikfmediheioaaF1
import Derived.Test.YtfikfmediheioaaF3
import Derived.Test.YtfikfmediheioaaF4
import Derived.Test.YtfikfmediheioaaF9
import Derived.Test.YtfikfmediheioaaF11
import Derived.Test.YtfikfmediheioaaF12
import Derived.Test.YtfikfmediheioaaF15
import Derived.Test.YtfikfmediheioaaF16
import Derived.Test.YtfikfmediheioaaF30
import Derived.Test.YtfikfmediheioaaF42
namespace Go.Proofs.Ytfikfmediheioaa.F
open Go.RowKit Go.Proofs.YtfikfmediheioaaW.PrintWords Go.Proofs.YtfikfmediheioaaW.PrintLast Go.Proofs.YtfikfmediheioaaW.PrintMore Go.Proofs.YtfikfmediheioaaX
attribute [local go_sem] max2_int cell_some
attribute [local go_sem] max2_int min2_int max_two min_two max_three min_three max_four min_four   -- for this text's walks alone
set_option linter.unusedVariables false
set_option linter.unusedSimpArgs false

attribute [local go_sem high] eqA23
/-! ### chattellaw10_MonthAdds: function 9 -/
mutual
def chattellaw10_MonthAdds.l0 : Nat → Int → List (S23) → Int → Int → Option (Bool)
  | 0, _, _, _, _ => none
  | k + 1, x1, x26, x27, x28 => if x28 < x27 then (if 0 ≤ x28 then (if x28 < (x26.length : Int) then ((some (([x1, Int.tmod x1 4000] : List Int) : List Int)).bind fun y439 => (chattellaw10_MonthAdds.l1 k x1 x26 x27 x28 y439 (y439.length : Int) 0 ((rd_T23 x26 x28).f0) ((rd_T23 x26 x28).f1) ((rd_T23 x26 x28).f2))) else (none)) else (none)) else ((chattellaw10_wakes.f k).bind fun t436 => (some t436))
def chattellaw10_MonthAdds.l1 : Nat → Int → List (S23) → Int → Int → List Int → Int → Int → Int → Int → Int → Option (Bool)
  | 0, _, _, _, _, _, _, _, _, _, _ => none
  | k + 1, x1, x26, x27, x28, x35, x36, x37, x439000, x439001, x439002 => if x37 < x36 then (if 0 ≤ x37 then (if x37 < (x35.length : Int) then ((month_Add.f k x439000 x439001 x439002 (rd x35 x37)).bind fun bt443 => ((month_AddDays.f k x439000 x439001 x439002 (rd x35 x37)).bind fun bt448 => ((chattelref09_Right.f k x439000 x439001 x439002).bind fun t453 => (if t453 = true then ((chattelref10_Add.f k x439000 x439001 x439002 (rd x35 x37)).bind fun bt455 => (if ((bt443.2.2.2 == 0) != bt455.2.2.2) = true then (chattellaw10_MonthAdds.j2 k x1 (rd x35 x37) bt448.2.2.2 x26 x27 x28 x35 x36 x37 true x439000 x439001 x439002 bt448.1 bt448.2.1 bt448.2.2.1) else (if (!(bt443.1 == bt455.1) || (!(bt443.2.1 == bt455.2.1) || (!(bt443.2.2.1 == bt455.2.2.1)))) = true then (chattellaw10_MonthAdds.j2 k x1 (rd x35 x37) bt448.2.2.2 x26 x27 x28 x35 x36 x37 true x439000 x439001 x439002 bt448.1 bt448.2.1 bt448.2.2.1) else (if bt455.2.2.2 = true then (chattellaw10_MonthAdds.j2 k x1 (rd x35 x37) bt448.2.2.2 x26 x27 x28 x35 x36 x37 false x439000 x439001 x439002 bt448.1 bt448.2.1 bt448.2.2.1) else (chattellaw10_MonthAdds.j2 k x1 (rd x35 x37) bt448.2.2.2 x26 x27 x28 x35 x36 x37 (bt443.2.2.2 != 11) x439000 x439001 x439002 bt448.1 bt448.2.1 bt448.2.2.1))))) else (if bt443.2.2.2 = 11 then (if bt448.2.2.2 = 11 then (if (!(bt443.1 == 0) || (!(bt443.2.1 == 0) || (!(bt443.2.2.1 == 0)))) = true then (some false) else (if (!(bt448.1 == 0) || (!(bt448.2.1 == 0) || (!(bt448.2.2.1 == 0)))) = true then (some false) else ((month_End.f k x439000 x439001 x439002).bind fun t454 => (if t454 = true then (some false) else (chattellaw10_MonthAdds.l1 k x1 x26 x27 x28 x35 x36 (wrap64 (x37 + 1)) x439000 x439001 x439002))))) else (some false)) else (some false)))))) else (none)) else (none)) else (chattellaw10_MonthAdds.l0 k x1 x26 x27 (wrap64 (x28 + 1)))
def chattellaw10_MonthAdds.j2 : Nat → Int → Int → Int → List (S23) → Int → Int → List Int → Int → Int → Bool → Int → Int → Int → Int → Int → Int → Option (Bool)
  | 0, _, _, _, _, _, _, _, _, _, _, _, _, _, _, _, _ => none
  | k + 1, x1, x8, x12, x26, x27, x28, x35, x36, x37, x98, x439000, x439001, x439002, x453000, x453001, x453002 => if x98 = true then (some false) else ((chattelref09_Number.f k x439000 x439001 x439002).bind fun t460 => (if x8 ≥ (wrap64 (1 - t460)) then (chattellaw10_MonthAdds.j3 k x1 x8 x12 t460 (decide (x8 ≤ (wrap64 (3652059 - t460)))) x26 x27 x28 x35 x36 x37 x439000 x439001 x439002 x453000 x453001 x453002) else (chattellaw10_MonthAdds.j3 k x1 x8 x12 t460 false x26 x27 x28 x35 x36 x37 x439000 x439001 x439002 x453000 x453001 x453002)))
def chattellaw10_MonthAdds.j3 : Nat → Int → Int → Int → Int → Bool → List (S23) → Int → Int → List Int → Int → Int → Int → Int → Int → Int → Int → Int → Option (Bool)
  | 0, _, _, _, _, _, _, _, _, _, _, _, _, _, _, _, _, _ => none
  | k + 1, x1, x8, x12, x15, x16, x26, x27, x28, x35, x36, x37, x439000, x439001, x439002, x453000, x453001, x453002 => if ((x12 == 0) != x16) = true then (chattellaw10_MonthAdds.j4 k x1 x26 x27 x28 x35 x36 x37 true x439000 x439001 x439002) else (if x16 = true then ((chattelref09_Number.f k x453000 x453001 x453002).bind fun t461 => (if t461 = (wrap64 (x15 + x8)) then (chattellaw10_MonthAdds.j4 k x1 x26 x27 x28 x35 x36 x37 false x439000 x439001 x439002) else (chattellaw10_MonthAdds.j4 k x1 x26 x27 x28 x35 x36 x37 true x439000 x439001 x439002))) else (if x12 = 11 then (chattellaw10_MonthAdds.j4 k x1 x26 x27 x28 x35 x36 x37 (!(x453000 == 0) || (!(x453001 == 0) || (!(x453002 == 0)))) x439000 x439001 x439002) else (chattellaw10_MonthAdds.j4 k x1 x26 x27 x28 x35 x36 x37 true x439000 x439001 x439002)))
def chattellaw10_MonthAdds.j4 : Nat → Int → List (S23) → Int → Int → List Int → Int → Int → Bool → Int → Int → Int → Option (Bool)
  | 0, _, _, _, _, _, _, _, _, _, _, _ => none
  | k + 1, x1, x26, x27, x28, x35, x36, x37, x138, x439000, x439001, x439002 => if x138 = true then (some false) else ((month_End.f k x439000 x439001 x439002).bind fun t462 => ((chattelref09_Days.f k x439000 x439001).bind fun t463 => (if (t462 != (x439002 == t463)) = true then (some false) else (chattellaw10_MonthAdds.l1 k x1 x26 x27 x28 x35 x36 (wrap64 (x37 + 1)) x439000 x439001 x439002))))
end
def chattellaw10_MonthAdds.f (k : Nat) (a0_0 : Int) (a0_1 : Int) (a0_2 : Int) (a1 : Int) : Option (Bool) := (chattelref09_Make.f k a0_0 a0_1 a0_2 9999).bind fun bt430 => ((some (([(⟨a0_0, a0_1, a0_2⟩ : S23), (⟨bt430.1, bt430.2.1, bt430.2.2⟩ : S23)] : List (S23)) : List (S23))).bind fun y433 => (chattellaw10_MonthAdds.l0 k a1 y433 (y433.length : Int) 0))
theorem chattellaw10_MonthAdds.mono_l : ∀ k, (∀ y0 y1 y2 y3, LeO (chattellaw10_MonthAdds.l0 k y0 y1 y2 y3) (chattellaw10_MonthAdds.l0 (k + 1) y0 y1 y2 y3)) ∧ (∀ y0 y1 y2 y3 y4 y5 y6 y7 y8 y9, LeO (chattellaw10_MonthAdds.l1 k y0 y1 y2 y3 y4 y5 y6 y7 y8 y9) (chattellaw10_MonthAdds.l1 (k + 1) y0 y1 y2 y3 y4 y5 y6 y7 y8 y9)) ∧ (∀ y0 y1 y2 y3 y4 y5 y6 y7 y8 y9 y10 y11 y12 y13 y14 y15, LeO (chattellaw10_MonthAdds.j2 k y0 y1 y2 y3 y4 y5 y6 y7 y8 y9 y10 y11 y12 y13 y14 y15) (chattellaw10_MonthAdds.j2 (k + 1) y0 y1 y2 y3 y4 y5 y6 y7 y8 y9 y10 y11 y12 y13 y14 y15)) ∧ (∀ y0 y1 y2 y3 y4 y5 y6 y7 y8 y9 y10 y11 y12 y13 y14 y15 y16, LeO (chattellaw10_MonthAdds.j3 k y0 y1 y2 y3 y4 y5 y6 y7 y8 y9 y10 y11 y12 y13 y14 y15 y16) (chattellaw10_MonthAdds.j3 (k + 1) y0 y1 y2 y3 y4 y5 y6 y7 y8 y9 y10 y11 y12 y13 y14 y15 y16)) ∧ (∀ y0 y1 y2 y3 y4 y5 y6 y7 y8 y9 y10, LeO (chattellaw10_MonthAdds.j4 k y0 y1 y2 y3 y4 y5 y6 y7 y8 y9 y10) (chattellaw10_MonthAdds.j4 (k + 1) y0 y1 y2 y3 y4 y5 y6 y7 y8 y9 y10))
  | 0 => ⟨fun _ _ _ _ r h => by simp [chattellaw10_MonthAdds.l0] at h, fun _ _ _ _ _ _ _ _ _ _ r h => by simp [chattellaw10_MonthAdds.l1] at h, fun _ _ _ _ _ _ _ _ _ _ _ _ _ _ _ _ r h => by simp [chattellaw10_MonthAdds.j2] at h, fun _ _ _ _ _ _ _ _ _ _ _ _ _ _ _ _ _ r h => by simp [chattellaw10_MonthAdds.j3] at h, fun _ _ _ _ _ _ _ _ _ _ _ r h => by simp [chattellaw10_MonthAdds.j4] at h⟩
  | k + 1 => by
    obtain ⟨ih0, ih1, ih2, ih3, ih4⟩ := chattellaw10_MonthAdds.mono_l k
    refine ⟨?_, ?_, ?_, ?_, ?_⟩
    · intro y0 y1 y2 y3
      unfold chattellaw10_MonthAdds.l0
      repeat' first
      | (with_reducible exact ih0 _ _ _ _)
      | (with_reducible exact ih1 _ _ _ _ _ _ _ _ _ _)
      | (with_reducible exact ih2 _ _ _ _ _ _ _ _ _ _ _ _ _ _ _ _)
      | (with_reducible exact ih3 _ _ _ _ _ _ _ _ _ _ _ _ _ _ _ _ _)
      | (with_reducible exact ih4 _ _ _ _ _ _ _ _ _ _ _)
      | (with_reducible exact chattellaw10_wakes.mono _)
      | (with_reducible exact chattelref09_Days.mono _ _ _)
      | (with_reducible exact chattelref09_Make.mono _ _ _ _ _)
      | (with_reducible exact chattelref09_Number.mono _ _ _ _)
      | (with_reducible exact chattelref09_Right.mono _ _ _ _)
      | (with_reducible exact chattelref10_Add.mono _ _ _ _ _)
      | (with_reducible exact month_Add.mono _ _ _ _ _)
      | (with_reducible exact month_AddDays.mono _ _ _ _ _)
      | (with_reducible exact month_End.mono _ _ _ _)
      | (with_reducible exact LeO.refl _)
      | (with_reducible exact LeO.none _)
      | (with_reducible refine LeO.ite ?_ ?_)
      | (with_reducible refine LeO.bind ?_ (fun _ => ?_))
      | exact ih0 _ _ _ _
      | exact ih1 _ _ _ _ _ _ _ _ _ _
      | exact ih2 _ _ _ _ _ _ _ _ _ _ _ _ _ _ _ _
      | exact ih3 _ _ _ _ _ _ _ _ _ _ _ _ _ _ _ _ _
      | exact ih4 _ _ _ _ _ _ _ _ _ _ _
      | exact chattellaw10_wakes.mono _
      | exact chattelref09_Days.mono _ _ _
      | exact chattelref09_Make.mono _ _ _ _ _
      | exact chattelref09_Number.mono _ _ _ _
      | exact chattelref09_Right.mono _ _ _ _
      | exact chattelref10_Add.mono _ _ _ _ _
      | exact month_Add.mono _ _ _ _ _
      | exact month_AddDays.mono _ _ _ _ _
      | exact month_End.mono _ _ _ _
      | exact LeO.none _
      | refine LeO.ite ?_ ?_
      | refine LeO.bind ?_ (fun _ => ?_)
    · intro y0 y1 y2 y3 y4 y5 y6 y7 y8 y9
      unfold chattellaw10_MonthAdds.l1
      repeat' first
      | (with_reducible exact ih0 _ _ _ _)
      | (with_reducible exact ih1 _ _ _ _ _ _ _ _ _ _)
      | (with_reducible exact ih2 _ _ _ _ _ _ _ _ _ _ _ _ _ _ _ _)
      | (with_reducible exact ih3 _ _ _ _ _ _ _ _ _ _ _ _ _ _ _ _ _)
      | (with_reducible exact ih4 _ _ _ _ _ _ _ _ _ _ _)
      | (with_reducible exact chattellaw10_wakes.mono _)
      | (with_reducible exact chattelref09_Days.mono _ _ _)
      | (with_reducible exact chattelref09_Make.mono _ _ _ _ _)
      | (with_reducible exact chattelref09_Number.mono _ _ _ _)
      | (with_reducible exact chattelref09_Right.mono _ _ _ _)
      | (with_reducible exact chattelref10_Add.mono _ _ _ _ _)
      | (with_reducible exact month_Add.mono _ _ _ _ _)
      | (with_reducible exact month_AddDays.mono _ _ _ _ _)
      | (with_reducible exact month_End.mono _ _ _ _)
      | (with_reducible exact LeO.refl _)
      | (with_reducible exact LeO.none _)
      | (with_reducible refine LeO.ite ?_ ?_)
      | (with_reducible refine LeO.bind ?_ (fun _ => ?_))
      | exact ih0 _ _ _ _
      | exact ih1 _ _ _ _ _ _ _ _ _ _
      | exact ih2 _ _ _ _ _ _ _ _ _ _ _ _ _ _ _ _
      | exact ih3 _ _ _ _ _ _ _ _ _ _ _ _ _ _ _ _ _
      | exact ih4 _ _ _ _ _ _ _ _ _ _ _
      | exact chattellaw10_wakes.mono _
      | exact chattelref09_Days.mono _ _ _
      | exact chattelref09_Make.mono _ _ _ _ _
      | exact chattelref09_Number.mono _ _ _ _
      | exact chattelref09_Right.mono _ _ _ _
      | exact chattelref10_Add.mono _ _ _ _ _
      | exact month_Add.mono _ _ _ _ _
      | exact month_AddDays.mono _ _ _ _ _
      | exact month_End.mono _ _ _ _
      | exact LeO.none _
      | refine LeO.ite ?_ ?_
      | refine LeO.bind ?_ (fun _ => ?_)
    · intro y0 y1 y2 y3 y4 y5 y6 y7 y8 y9 y10 y11 y12 y13 y14 y15
      unfold chattellaw10_MonthAdds.j2
      repeat' first
      | (with_reducible exact ih0 _ _ _ _)
      | (with_reducible exact ih1 _ _ _ _ _ _ _ _ _ _)
      | (with_reducible exact ih2 _ _ _ _ _ _ _ _ _ _ _ _ _ _ _ _)
      | (with_reducible exact ih3 _ _ _ _ _ _ _ _ _ _ _ _ _ _ _ _ _)
      | (with_reducible exact ih4 _ _ _ _ _ _ _ _ _ _ _)
      | (with_reducible exact chattellaw10_wakes.mono _)
      | (with_reducible exact chattelref09_Days.mono _ _ _)
      | (with_reducible exact chattelref09_Make.mono _ _ _ _ _)
      | (with_reducible exact chattelref09_Number.mono _ _ _ _)
      | (with_reducible exact chattelref09_Right.mono _ _ _ _)
      | (with_reducible exact chattelref10_Add.mono _ _ _ _ _)
      | (with_reducible exact month_Add.mono _ _ _ _ _)
      | (with_reducible exact month_AddDays.mono _ _ _ _ _)
      | (with_reducible exact month_End.mono _ _ _ _)
      | (with_reducible exact LeO.refl _)
      | (with_reducible exact LeO.none _)
      | (with_reducible refine LeO.ite ?_ ?_)
      | (with_reducible refine LeO.bind ?_ (fun _ => ?_))
      | exact ih0 _ _ _ _
      | exact ih1 _ _ _ _ _ _ _ _ _ _
      | exact ih2 _ _ _ _ _ _ _ _ _ _ _ _ _ _ _ _
      | exact ih3 _ _ _ _ _ _ _ _ _ _ _ _ _ _ _ _ _
      | exact ih4 _ _ _ _ _ _ _ _ _ _ _
      | exact chattellaw10_wakes.mono _
      | exact chattelref09_Days.mono _ _ _
      | exact chattelref09_Make.mono _ _ _ _ _
      | exact chattelref09_Number.mono _ _ _ _
      | exact chattelref09_Right.mono _ _ _ _
      | exact chattelref10_Add.mono _ _ _ _ _
      | exact month_Add.mono _ _ _ _ _
      | exact month_AddDays.mono _ _ _ _ _
      | exact month_End.mono _ _ _ _
      | exact LeO.none _
      | refine LeO.ite ?_ ?_
      | refine LeO.bind ?_ (fun _ => ?_)
    · intro y0 y1 y2 y3 y4 y5 y6 y7 y8 y9 y10 y11 y12 y13 y14 y15 y16
      unfold chattellaw10_MonthAdds.j3
      repeat' first
      | (with_reducible exact ih0 _ _ _ _)
      | (with_reducible exact ih1 _ _ _ _ _ _ _ _ _ _)
      | (with_reducible exact ih2 _ _ _ _ _ _ _ _ _ _ _ _ _ _ _ _)
      | (with_reducible exact ih3 _ _ _ _ _ _ _ _ _ _ _ _ _ _ _ _ _)
      | (with_reducible exact ih4 _ _ _ _ _ _ _ _ _ _ _)
      | (with_reducible exact chattellaw10_wakes.mono _)
      | (with_reducible exact chattelref09_Days.mono _ _ _)
      | (with_reducible exact chattelref09_Make.mono _ _ _ _ _)
      | (with_reducible exact chattelref09_Number.mono _ _ _ _)
      | (with_reducible exact chattelref09_Right.mono _ _ _ _)
      | (with_reducible exact chattelref10_Add.mono _ _ _ _ _)
      | (with_reducible exact month_Add.mono _ _ _ _ _)
      | (with_reducible exact month_AddDays.mono _ _ _ _ _)
      | (with_reducible exact month_End.mono _ _ _ _)
      | (with_reducible exact LeO.refl _)
      | (with_reducible exact LeO.none _)
      | (with_reducible refine LeO.ite ?_ ?_)
      | (with_reducible refine LeO.bind ?_ (fun _ => ?_))
      | exact ih0 _ _ _ _
      | exact ih1 _ _ _ _ _ _ _ _ _ _
      | exact ih2 _ _ _ _ _ _ _ _ _ _ _ _ _ _ _ _
      | exact ih3 _ _ _ _ _ _ _ _ _ _ _ _ _ _ _ _ _
      | exact ih4 _ _ _ _ _ _ _ _ _ _ _
      | exact chattellaw10_wakes.mono _
      | exact chattelref09_Days.mono _ _ _
      | exact chattelref09_Make.mono _ _ _ _ _
      | exact chattelref09_Number.mono _ _ _ _
      | exact chattelref09_Right.mono _ _ _ _
      | exact chattelref10_Add.mono _ _ _ _ _
      | exact month_Add.mono _ _ _ _ _
      | exact month_AddDays.mono _ _ _ _ _
      | exact month_End.mono _ _ _ _
      | exact LeO.none _
      | refine LeO.ite ?_ ?_
      | refine LeO.bind ?_ (fun _ => ?_)
    · intro y0 y1 y2 y3 y4 y5 y6 y7 y8 y9 y10
      unfold chattellaw10_MonthAdds.j4
      repeat' first
      | (with_reducible exact ih0 _ _ _ _)
      | (with_reducible exact ih1 _ _ _ _ _ _ _ _ _ _)
      | (with_reducible exact ih2 _ _ _ _ _ _ _ _ _ _ _ _ _ _ _ _)
      | (with_reducible exact ih3 _ _ _ _ _ _ _ _ _ _ _ _ _ _ _ _ _)
      | (with_reducible exact ih4 _ _ _ _ _ _ _ _ _ _ _)
      | (with_reducible exact chattellaw10_wakes.mono _)
      | (with_reducible exact chattelref09_Days.mono _ _ _)
      | (with_reducible exact chattelref09_Make.mono _ _ _ _ _)
      | (with_reducible exact chattelref09_Number.mono _ _ _ _)
      | (with_reducible exact chattelref09_Right.mono _ _ _ _)
      | (with_reducible exact chattelref10_Add.mono _ _ _ _ _)
      | (with_reducible exact month_Add.mono _ _ _ _ _)
      | (with_reducible exact month_AddDays.mono _ _ _ _ _)
      | (with_reducible exact month_End.mono _ _ _ _)
      | (with_reducible exact LeO.refl _)
      | (with_reducible exact LeO.none _)
      | (with_reducible refine LeO.ite ?_ ?_)
      | (with_reducible refine LeO.bind ?_ (fun _ => ?_))
      | exact ih0 _ _ _ _
      | exact ih1 _ _ _ _ _ _ _ _ _ _
      | exact ih2 _ _ _ _ _ _ _ _ _ _ _ _ _ _ _ _
      | exact ih3 _ _ _ _ _ _ _ _ _ _ _ _ _ _ _ _ _
      | exact ih4 _ _ _ _ _ _ _ _ _ _ _
      | exact chattellaw10_wakes.mono _
      | exact chattelref09_Days.mono _ _ _
      | exact chattelref09_Make.mono _ _ _ _ _
      | exact chattelref09_Number.mono _ _ _ _
      | exact chattelref09_Right.mono _ _ _ _
      | exact chattelref10_Add.mono _ _ _ _ _
      | exact month_Add.mono _ _ _ _ _
      | exact month_AddDays.mono _ _ _ _ _
      | exact month_End.mono _ _ _ _
      | exact LeO.none _
      | refine LeO.ite ?_ ?_
      | refine LeO.bind ?_ (fun _ => ?_)
theorem chattellaw10_MonthAdds.mono : ∀ a0 a1 a2 a3 k, LeO (chattellaw10_MonthAdds.f k a0 a1 a2 a3) (chattellaw10_MonthAdds.f (k + 1) a0 a1 a2 a3) := by
  intro a0 a1 a2 a3 k
  obtain ⟨ih0, ih1, ih2, ih3, ih4⟩ := chattellaw10_MonthAdds.mono_l k
  unfold chattellaw10_MonthAdds.f
  repeat' first
      | (with_reducible exact ih0 _ _ _ _)
      | (with_reducible exact ih1 _ _ _ _ _ _ _ _ _ _)
      | (with_reducible exact ih2 _ _ _ _ _ _ _ _ _ _ _ _ _ _ _ _)
      | (with_reducible exact ih3 _ _ _ _ _ _ _ _ _ _ _ _ _ _ _ _ _)
      | (with_reducible exact ih4 _ _ _ _ _ _ _ _ _ _ _)
      | (with_reducible exact chattellaw10_wakes.mono _)
      | (with_reducible exact chattelref09_Days.mono _ _ _)
      | (with_reducible exact chattelref09_Make.mono _ _ _ _ _)
      | (with_reducible exact chattelref09_Number.mono _ _ _ _)
      | (with_reducible exact chattelref09_Right.mono _ _ _ _)
      | (with_reducible exact chattelref10_Add.mono _ _ _ _ _)
      | (with_reducible exact month_Add.mono _ _ _ _ _)
      | (with_reducible exact month_AddDays.mono _ _ _ _ _)
      | (with_reducible exact month_End.mono _ _ _ _)
      | (with_reducible exact LeO.refl _)
      | (with_reducible exact LeO.none _)
      | (with_reducible refine LeO.ite ?_ ?_)
      | (with_reducible refine LeO.bind ?_ (fun _ => ?_))
      | exact ih0 _ _ _ _
      | exact ih1 _ _ _ _ _ _ _ _ _ _
      | exact ih2 _ _ _ _ _ _ _ _ _ _ _ _ _ _ _ _
      | exact ih3 _ _ _ _ _ _ _ _ _ _ _ _ _ _ _ _ _
      | exact ih4 _ _ _ _ _ _ _ _ _ _ _
      | exact chattellaw10_wakes.mono _
      | exact chattelref09_Days.mono _ _ _
      | exact chattelref09_Make.mono _ _ _ _ _
      | exact chattelref09_Number.mono _ _ _ _
      | exact chattelref09_Right.mono _ _ _ _
      | exact chattelref10_Add.mono _ _ _ _ _
      | exact month_Add.mono _ _ _ _ _
      | exact month_AddDays.mono _ _ _ _ _
      | exact month_End.mono _ _ _ _
      | exact LeO.none _
      | refine LeO.ite ?_ ?_
      | refine LeO.bind ?_ (fun _ => ?_)
def chattellaw10_MonthAdds.T1 : Bool × List (List Nat × List Nat) := (true, [([], []), ([], []), ([1], [1]), ([], []), ([3], [3]), ([], []), ([5], [5]), ([2, 4, 6], [2, 4, 6]), ([7], [7]), ([0, 8], [0, 8]), ([9], [9]), ([], [])])
def chattellaw10_MonthAdds.B1 : List Nat := [0, 0, 2, 0, 8, 0, 32, 126, 254, 511, 1023, 0]
theorem chattellaw10_MonthAdds.tab1 : rtab .any (opsOf Try.f9 1) = chattellaw10_MonthAdds.T1 := by kernel_rfl
theorem chattellaw10_MonthAdds.bits1 : waitsOk chattellaw10_MonthAdds.T1.2 chattellaw10_MonthAdds.B1 = true := by kernel_rfl
def chattellaw10_MonthAdds.T19 : Bool × List (List Nat × List Nat) := (true, [([], []), ([0], [0]), ([], []), ([2], [2]), ([], []), ([4], [4]), ([], []), ([6], [6]), ([5, 7, 1], [5, 7]), ([3, 8], [3, 8]), ([1, 9], [1, 9])])
def chattellaw10_MonthAdds.B19 : List Nat := [0, 1, 0, 4, 0, 16, 0, 64, 243, 511, 1023]
theorem chattellaw10_MonthAdds.tab19 : rtab .any (opsOf Try.f9 19) = chattellaw10_MonthAdds.T19 := by kernel_rfl
theorem chattellaw10_MonthAdds.bits19 : waitsOk chattellaw10_MonthAdds.T19.2 chattellaw10_MonthAdds.B19 = true := by kernel_rfl
set_option maxHeartbeats 8000000 in
set_option maxRecDepth 100000 in
theorem chattellaw10_MonthAdds.calls (k : Nat) (a0_0 : Int) (a0_1 : Int) (a0_2 : Int) (a1 : Int) (r : Bool) (w : World) (h : chattellaw10_MonthAdds.f k a0_0 a0_1 a0_2 a1 = some r) (ht_ : r = true) :
    Calls Try.prog 9 #[.agg #[.int .i64 a0_0, .int .i64 a0_1, .int .i64 a0_2], .int .i64 a1] w fun e w' => e = .returned (.bool r) ∧ Below w.heap.size w w' := by
  have hu23 := Try.underlying23
  have hu25 := Try.underlying25
  have HB := Aside0.mk (Below.refl w.heap.size w)
  have H : ((chattelref09_Make.f k a0_0 a0_1 a0_2 9999).bind fun bt430 => ((some (([(⟨a0_0, a0_1, a0_2⟩ : S23), (⟨bt430.1, bt430.2.1, bt430.2.2⟩ : S23)] : List (S23)) : List (S23))).bind fun y433 => (chattellaw10_MonthAdds.l0 k a1 y433 (y433.length : Int) 0))) = some r := h
  clear h
  replace H := Option.bind_eq_some_iff.mp H
  obtain ⟨⟨t430, t431, t432⟩, A30, H⟩ := H
  replace H : ((some (([(⟨a0_0, a0_1, a0_2⟩ : S23), (⟨t430, t431, t432⟩ : S23)] : List (S23)) : List (S23))).bind fun y433 => (chattellaw10_MonthAdds.l0 k a1 y433 (y433.length : Int) 0)) = some r := H
  have A3 := Aside0.mk A30
  clear A30
  obtain ⟨y433, hy433⟩ : ∃ y_ : List (S23), y_ = (([(⟨a0_0, a0_1, a0_2⟩ : S23), (⟨t430, t431, t432⟩ : S23)] : List (S23))) := ⟨_, rfl⟩
  replace H : (chattellaw10_MonthAdds.l0 k a1 y433 (y433.length : Int) 0) = some r := by first | (rw [hy433]; with_reducible exact H) | (have H2_ := (Option.bind_some _ _).symm.trans H; rw [hy433]; with_reducible exact H2_) | (have H2_ := (Option.bind_some _ _).symm.trans H; with_reducible exact H2_) | with_reducible exact H | (rw [hy433]; exact H) | exact H
  have Ny433 := Aside0.mk hy433
  clear hy433
  have H' := Aside0.mk H
  clear H
  go_enter Try.func9, Try.ntmps9
  try go_wp2_with (first | ((with_reducible refine gate_dst (N := 2) rfl ?_); refine box_event ?hg (N := 2) ?hd (cs := #[.int .i64 a0_0, .int .i64 a0_1, .int .i64 a0_2]) (t := 23) ?hr ?_; (case hd => rfl); (case hg => rfl); (case hr => first | (go_simp; done) | (go_simp; rfl)); intro gb429 hg w4 hbox hb; have n0_ := Aside0.mk (below_step (by repeat (first | (with_reducible first | exact HB.out | apply below_alloc | apply pw_below_drewN | apply below_drew1) | exact HB.out)) hb); have n1_ := Aside0.mk (hbox); have n2_ := Aside0.mk ((by rw [hg]; exact (below_size (by repeat (first | (with_reducible first | exact HB.out | apply below_alloc | apply pw_below_drewN | apply below_drew1) | exact HB.out))) : w.heap.size ≤ gb429)); have n3_ := Aside0.mk ((by rw [hg]; exact (below_size (by repeat (first | (with_reducible first | exact HB.out | apply below_alloc | apply pw_below_drewN | apply below_drew1) | exact HB.out))) : w.heap.size ≤ gb429)); clear HB; have HB := n0_; have BK429 := n1_; have GW429 := n2_; have GE429 := n3_; clear n0_ n1_ n2_ n3_; clear hb hbox hg))
  replace BK429 := Aside0.mk (blk_drew BK429.out)
  replace HB := Aside0.mk (below_drew1 HB.out)
  refine start_ (n := 12) (S := fun w' => w'.cell? ⟨gb429, 0, none⟩ = some (.int .i64 a0_0) ∧ w'.cell? ⟨gb429, 1, none⟩ = some (.int .i64 a0_1) ∧ w'.cell? ⟨gb429, 2, none⟩ = some (.int .i64 a0_2)) (ds := []) (fl 0 12 []) (by kernel_rfl) rfl rfl ⟨(blk_cell BK429.out 0).trans rfl, (blk_cell BK429.out 1).trans rfl, (blk_cell BK429.out 2).trans rfl⟩ (fun hHeld => ?_); refine with_tabW chattellaw10_MonthAdds.tab1 chattellaw10_MonthAdds.bits1 (fun HT_ HW_ => ?_)
  generalize w4.drew = w5 at BK429 HB hHeld ⊢
  refine pure_ (i := 1) (N := some 18) (v := ?_) (a' := ?_) (fl 0 12 [1]) rfl rfl (any_of HT_.out (by kernel_rfl)) (fun _ _ _ h => h) (Or.inl ⟨by rfl, ?_⟩) ?_ ?_
  rotate_left
  · intro w'
    go_simp
    with_reducible rfl
  rotate_left
  · simp only [Act.put, List.setIfInBounds_toArray, List.set_cons_zero, List.set_cons_succ, i64_w, i32_w]
    rfl
  refine pure_ (i := 3) (N := some 20) (v := ?_) (a' := ?_) (fl 0 12 [1, 3]) rfl rfl (any_of HT_.out (by kernel_rfl)) (fun _ _ _ h => h) (Or.inl ⟨by rfl, ?_⟩) ?_ ?_
  rotate_left
  · intro w'
    go_simp
    with_reducible rfl
  rotate_left
  · simp only [Act.put, List.setIfInBounds_toArray, List.set_cons_zero, List.set_cons_succ, i64_w, i32_w]
    rfl
  refine pure_ (i := 5) (N := some 22) (v := ?_) (a' := ?_) (fl 0 12 [1, 3, 5]) rfl rfl (any_of HT_.out (by kernel_rfl)) (fun _ _ _ h => h) (Or.inl ⟨by rfl, ?_⟩) ?_ ?_
  rotate_left
  · intro w'
    go_simp
    with_reducible rfl
  rotate_left
  · simp only [Act.put, List.setIfInBounds_toArray, List.set_cons_zero, List.set_cons_succ, i64_w, i32_w]
    rfl
  refine pure_ (i := 11) (N := some 28) (v := ?_) (a' := ?_) (fl 0 12 [1, 3, 5, 11]) rfl rfl (any_of HT_.out (by kernel_rfl)) (fun _ _ _ h => h) (Or.inl ⟨by rfl, ?_⟩) ?_ ?_
  rotate_left
  · intro w'
    go_simp
    with_reducible rfl
  rotate_left
  · simp only [Act.put, List.setIfInBounds_toArray, List.set_cons_zero, List.set_cons_succ, i64_w, i32_w]
    rfl
  refine take_ (i := 0) (N := some 17) (v := ?_) (a' := ?_) (fl 2 12 [3, 5, 11]) rfl rfl (take_ofW HT_.out HW_.out (by kernel_rfl)) (fun _ _ _ h => h) (Or.inl ⟨by rfl, ?_⟩) hHeld ?_ ?_
  rotate_left
  · rintro w' ⟨s0, s1, s2⟩
    go_simp
    with_reducible rfl
  rotate_left
  · simp only [Act.put, List.setIfInBounds_toArray, List.set_cons_zero, List.set_cons_succ, i64_w, i32_w]
    rfl
  refine take_ (i := 2) (N := some 19) (v := ?_) (a' := ?_) (fl 4 12 [5, 11]) rfl rfl (take_ofW HT_.out HW_.out (by kernel_rfl)) (fun _ _ _ h => h) (Or.inl ⟨by rfl, ?_⟩) hHeld ?_ ?_
  rotate_left
  · rintro w' ⟨s0, s1, s2⟩
    go_simp
    with_reducible rfl
  rotate_left
  · simp only [Act.put, List.setIfInBounds_toArray, List.set_cons_zero, List.set_cons_succ, i64_w, i32_w]
    rfl
  refine take_ (i := 4) (N := some 21) (v := ?_) (a' := ?_) (fl 6 12 [11]) rfl rfl (take_ofW HT_.out HW_.out (by kernel_rfl)) (fun _ _ _ h => h) (Or.inl ⟨by rfl, ?_⟩) hHeld ?_ ?_
  rotate_left
  · rintro w' ⟨s0, s1, s2⟩
    go_simp
    with_reducible rfl
  rotate_left
  · simp only [Act.put, List.setIfInBounds_toArray, List.set_cons_zero, List.set_cons_succ, i64_w, i32_w]
    rfl
  refine take_ (i := 6) (N := some 23) (v := ?_) (a' := ?_) (fl 7 12 [11]) rfl rfl (take_ofW HT_.out HW_.out (by kernel_rfl)) (fun _ _ _ h => h) (Or.inl ⟨by rfl, ?_⟩) hHeld ?_ ?_
  rotate_left
  · rintro w' ⟨s0, s1, s2⟩
    go_simp
    with_reducible rfl
  rotate_left
  · simp only [Act.put, List.setIfInBounds_toArray, List.set_cons_zero, List.set_cons_succ, i64_w, i32_w]
    rfl
  refine pure_ (i := 7) (N := some 24) (v := ?_) (a' := ?_) (fl 8 12 [11]) rfl rfl (any_of HT_.out (by kernel_rfl)) (fun _ _ _ h => h) (Or.inl ⟨by rfl, ?_⟩) ?_ ?_
  rotate_left
  · intro w'
    go_simp
    with_reducible rfl
  rotate_left
  · simp only [Act.put, List.setIfInBounds_toArray, List.set_cons_zero, List.set_cons_succ, i64_w, i32_w]
    rfl
  refine one_ (i := 8) (N := some 25) (fl 9 12 [11]) rfl rfl (one_of HT_.out (by kernel_rfl)) (by decide) (fun K hK => ?_)
  refine goes_ Try.func12 (by kernel_rfl) rfl #[.agg #[.int .i64 a0_0, .int .i64 a0_1, .int .i64 a0_2], .int .i64 9999] (by rfl) rfl rfl (by (try simp only [List.map_toArray, List.map_cons, List.map_nil]); first | done | rfl | (simp only [List.length_drop, List.length_take]; rfl)) ?_
  with_reducible refine (chattelref09_Make.calls k a0_0 a0_1 a0_2 9999 t430 t431 t432 _ A3.out).mono ?_
  rintro e w6 ⟨rfl, hb⟩
  refine ⟨_, rfl, ?_⟩
  replace BK429 := Aside0.mk (bb BK429.out hb)
  replace HB := Aside0.mk (bs HB.out hb)
  (try clear hb)
  (try clear hb2)
  (try clear hk)
  (try clear hi)
  refine hK.out _ _ ⟨(blk_cell BK429.out 0).trans rfl, (blk_cell BK429.out 1).trans rfl, (blk_cell BK429.out 2).trans rfl⟩ (fun hHeld => ?_)
  clear hK K
  refine norm_ (a' := ?_) ?_ ?_
  rotate_left
  · show Act.put _ (some 25) _ = _
    simp only [Act.put, List.setIfInBounds_toArray, List.set_cons_zero, List.set_cons_succ, i64_w, i32_w]
    rfl
  refine one_ (i := 9) (N := some 26) (fl 10 12 [11]) rfl rfl (one_of HT_.out (by kernel_rfl)) (by decide) (fun K hK => ?_)
  refine Kd.R_lit_step k23 _ 23 ?hg (N := 26) ?hd (xs := ([(⟨a0_0, a0_1, a0_2⟩ : S23), (⟨t430, t431, t432⟩ : S23)] : List (S23))) (inner := [.int .i64 a0_0, .int .i64 a0_1, .int .i64 a0_2, .int .i64 t430, .int .i64 t431, .int .i64 t432]) (ok := fun _ => True) (okp := fun _ => True) ?hr ?hp (fun _ hk => hk) trivial (Below.refl _ _) (Nat.le_refl _) (by simp) ?_; (case hd => rfl); (case hg => rfl); (case hr => first | (go_simp; done) | (go_simp; rfl)); (case hp => exact (Reps.c3 (show Kd.M k23 _ _ _ (⟨a0_0, a0_1, a0_2⟩ : S23) [.int .i64 a0_0, .int .i64 a0_1, .int .i64 a0_2] from (k23_mkM _ _ _ (⟨a0_0, a0_1, a0_2⟩ : S23) )) (Reps.c3 (show Kd.M k23 _ _ _ (⟨t430, t431, t432⟩ : S23) [.int .i64 t430, .int .i64 t431, .int .i64 t432] from (k23_mkM _ _ _ (⟨t430, t431, t432⟩ : S23) )) (Reps.none _ _))))
  intro v434 w7 ho8 hb hg_ hnew_
  clear hg_ hnew_
  (first | rw [← Ny433.out] at ho8 | (simp only [Int.reduceToNat] at ho8; rw [← Ny433.out] at ho8))
  have HO435 := Aside0.mk (Kd.R_lower (Kd.R_newB ho8 (g := gb429) (o := .cells #[.int .i64 a0_0, .int .i64 a0_1, .int .i64 a0_2] 23 (0, 0)) (by (with_reducible repeat (first | refine blk_drewN ?_ _ | refine blk_drew ?_ | refine blk_alloc ?_ _)); exact BK429.out)) (bz HB.out))
  replace BK429 := Aside0.mk (bb BK429.out hb)
  replace HB := Aside0.mk (bs HB.out hb)
  clear hb ho8
  obtain ⟨Ao9, co9, eo9⟩ := Kd.R_slice HO435.out
  (first | subst eo9 | (injection eo9 with f1_ f2_ f3_; have f4_ := f1_.symm; have f5_ := f3_.symm; clear f1_ f2_ f3_; subst f4_; subst f5_))
  refine hK.out _ _ ⟨(blk_cell BK429.out 0).trans rfl, (blk_cell BK429.out 1).trans rfl, (blk_cell BK429.out 2).trans rfl⟩ (fun hHeld => ?_)
  clear hK K
  refine norm_ (a' := ?_) ?_ ?_
  rotate_left
  · show Act.put _ (some 26) _ = _
    simp only [Act.put, List.setIfInBounds_toArray, List.set_cons_zero, List.set_cons_succ, i64_w, i32_w]
    rfl
  refine pure_ (i := 10) (N := some 27) (v := ?_) (a' := ?_) (fl 12 12 []) rfl rfl (any_of HT_.out (by kernel_rfl)) (fun _ _ _ h => h) (Or.inl ⟨by rfl, ?_⟩) ?_ ?_
  rotate_left
  · intro w'
    go_simp
    with_reducible rfl
  rotate_left
  · simp only [Act.put, List.setIfInBounds_toArray, List.set_cons_zero, List.set_cons_succ, i64_w, i32_w]
    rfl
  refine done_ (done_of HT_.out (by kernel_rfl)) ?_
  try go_wp2
  go_loopg [28] k (fun kq v28 w' => ∃ (x28_1 : Int), v28 = .int .i64 x28_1 ∧ Aside0 (chattellaw10_MonthAdds.l0 kq a1 y433 (y433.length : Int) x28_1 = some r) ∧ Aside0 (kq ≤ k) ∧ Aside0 (Kd.R k23 23 w' w.heap.size (fun k_ => k_ ≠ gb429) (.slice Ao9 y433.length co9) y433) ∧ Aside0 (w'.heap[gb429]? = some (.cells #[.int .i64 a0_0, .int .i64 a0_1, .int .i64 a0_2] 23 (0, 0))) ∧ Aside0 (Below w.heap.size w w'))
  case atStart => exact ⟨(0), (by first | rfl | (simp; done) | (simp [*]; done)), H', ⟨Nat.le_refl _⟩, ⟨by (with_reducible repeat (first | apply Kd.R_alloc | apply Kd.R_drewN | apply Kd.R_drew)); exact Kd.R_mono HO435.out (fun _ hk => hk.2)⟩, ⟨by (with_reducible repeat (first | refine blk_drewN ?_ _ | refine blk_drew ?_ | refine blk_alloc ?_ _)); exact BK429.out⟩, ⟨by repeat (first | (with_reducible first | exact HB.out | apply below_alloc | apply pw_below_drewN | apply below_drew1 | refine below_set ?_ GE429.out) | exact HB.out)⟩⟩
  case round =>
    clear H'
    try clear c1
    try clear p2
    try clear c3
    try clear c9
    obtain ⟨x28_1, rfl, HA, HK1, HO_26, BK429, HB⟩ := hrel
    cases gk with
    | zero => exact absurd HA.out (by simp [chattellaw10_MonthAdds.l0])
    | succ k1 =>
      have H := HA.out
      clear HA
      simp only [chattellaw10_MonthAdds.l0] at H
      by_cases c10 : x28_1 < (y433.length : Int)
      · rw [if_pos c10] at H
        have c10b0 : decide (x28_1 < (y433.length : Int)) = true := decide_eq_true c10
        clear c10
        by_cases c11 : 0 ≤ x28_1
        rotate_left
        · rw [if_neg c11] at H
          exact absurd H (by simp)
        rw [if_pos c11] at H
        have c11b0 : decide (0 ≤ x28_1) = true := decide_eq_true c11
        clear c11
        by_cases c12 : x28_1 < (y433.length : Int)
        rotate_left
        · rw [if_neg c12] at H
          exact absurd H (by simp)
        rw [if_pos c12] at H
        have c12b0 : decide (x28_1 < (y433.length : Int)) = true := decide_eq_true c12
        clear c12
        obtain ⟨y439, hy439⟩ : ∃ y_ : List Int, y_ = (([a1, Int.tmod a1 4000] : List Int)) := ⟨_, rfl⟩
        replace H : (chattellaw10_MonthAdds.l1 k1 a1 y433 (y433.length : Int) x28_1 y439 (y439.length : Int) 0 ((rd_T23 y433 x28_1).f0) ((rd_T23 y433 x28_1).f1) ((rd_T23 y433 x28_1).f2)) = some r := by first | (rw [hy439]; with_reducible exact H) | (have H2_ := (Option.bind_some _ _).symm.trans H; rw [hy439]; with_reducible exact H2_) | (have H2_ := (Option.bind_some _ _).symm.trans H; with_reducible exact H2_) | with_reducible exact H | (rw [hy439]; exact H) | exact H
        have Ny439 := Aside0.mk hy439
        clear hy439
        have H' := Aside0.mk H
        clear H
        have p437 : 0 ≤ (x28_1 : Int) := of_decide_eq_true (by first | (with_reducible assumption) | assumption)
        have q437 : x28_1 < (y433.length : Int) := of_decide_eq_true (by first | (with_reducible assumption) | assumption)
        obtain ⟨ad437, e437, hx437_0, hx437_1, hx437_2⟩ := at_T23 (Kd.R_reads' HO_26.out).2.2 x28_1 p437 q437
        cases e437
        replace p437 := eq_true p437
        replace q437 := eq_true q437
        go_wp2_with (first | ((with_reducible refine gate_dst (N := 6) rfl ?_); refine box_event ?hg (N := 6) ?hd (cs := #[.int .i64 0, .int .i64 0, .int .i64 0]) (t := 23) ?hr ?_; (case hd => rfl); (case hg => rfl); (case hr => first | (go_simp; done) | (go_simp; rfl)); intro gb438 hg w13 hbox hb; have n0_ := Aside0.mk (Kd.R_below (Kd.R_elderB (by (with_reducible repeat (first | apply Kd.R_alloc | apply Kd.R_drewN | apply Kd.R_drew)); exact HO_26.out) gb438 (Nat.le_of_eq hg.symm)) hb); have n1_ := Aside0.mk (bb BK429.out hb); have n2_ := Aside0.mk (bs HB.out hb); have n3_ := Aside0.mk (hbox); have n4_ := Aside0.mk ((by rw [hg]; exact (bz HB.out) : w.heap.size ≤ gb438)); have n5_ := Aside0.mk ((by rw [hg]; exact (bz HB.out) : w.heap.size ≤ gb438)); have n6_ := Aside0.mk ((by rw [hg]; exact Nat.ne_of_lt (blk_lt (g := gb429) (o := .cells #[.int .i64 a0_0, .int .i64 a0_1, .int .i64 a0_2] 23 (0, 0)) (by (with_reducible repeat (first | refine blk_drewN ?_ _ | refine blk_drew ?_ | refine blk_alloc ?_ _)); exact BK429.out)) : gb429 ≠ gb438)); have n7_ := Aside0.mk ((by rw [hg]; exact Nat.ne_of_gt (blk_lt (g := gb429) (o := .cells #[.int .i64 a0_0, .int .i64 a0_1, .int .i64 a0_2] 23 (0, 0)) (by (with_reducible repeat (first | refine blk_drewN ?_ _ | refine blk_drew ?_ | refine blk_alloc ?_ _)); exact BK429.out)) : gb438 ≠ gb429)); clear HO_26; clear BK429; clear HB; have HO_26 := n0_; have BK429 := n1_; have HB := n2_; have BK438 := n3_; have GW438 := n4_; have GE438 := n5_; have NB429_438 := n6_; have NB438_429 := n7_; clear n0_ n1_ n2_ n3_ n4_ n5_ n6_ n7_; clear hb hbox hg; have hnb14 := NB438_429.out; have hnc14 := NB429_438.out; have hcz15_0 : w13.cell? ⟨gb438, 0, none⟩ = some (.int .i64 0) := (blk_cell BK438.out 0).trans rfl; have hcz15_1 : w13.cell? ⟨gb438, 1, none⟩ = some (.int .i64 0) := (blk_cell BK438.out 1).trans rfl; have hcz15_2 : w13.cell? ⟨gb438, 2, none⟩ = some (.int .i64 0) := (blk_cell BK438.out 2).trans rfl; have hfz15_0 := blk_frozen BK438.out 0; have hfz15_1 := blk_frozen BK438.out 1; have hfz15_2 := blk_frozen BK438.out 2) | ((with_reducible refine gate_dst (N := 35) rfl ?_); refine Kd.R_lit (Kd.int .i64) _ 3 ?hg (N := 35) ?hd (xs := ([a1, Int.tmod a1 4000] : List Int)) (inner := [.int .i64 a1, .int .i64 (Int.tmod a1 4000)]) (ok := fun _ => True) (okp := fun _ => True) ?hr ?hp (fun _ hk => hk) trivial (Below.refl _ _) (Nat.le_refl _) (by simp) ?_; (case hd => rfl); (case hg => rfl); (case hr => first | (go_simp; done) | (go_simp; rfl)); (case hp => exact (Reps.one (show Kd.M (Kd.int .i64) _ _ _ a1 [.int .i64 a1] from rfl) (Reps.one (show Kd.M (Kd.int .i64) _ _ _ (Int.tmod a1 4000) [.int .i64 (Int.tmod a1 4000)] from rfl) (Reps.none _ _)))); intro v440 w16 ho17 hb hg_ hnew_; clear hg_ hnew_; (first | rw [← Ny439.out] at ho17 | (simp only [Int.reduceToNat] at ho17; rw [← Ny439.out] at ho17)); replace HO_26 := Aside0.mk (Kd.R_below (by (with_reducible repeat (first | apply Kd.R_alloc | apply Kd.R_drewN | apply Kd.R_drew)); exact (Kd.R_mono (Kd.R_far (p := ⟨gb438, 2, none⟩) (Kd.R_far (p := ⟨gb438, 1, none⟩) (Kd.R_far (p := ⟨gb438, 0, none⟩) (Kd.R_mono HO_26.out (fun k_ hk => (⟨hk, hk.2⟩ : _ ∧ k_ ≠ gb438))) (fun _ hk => hk.2) (.int .i64 ((rd_T23 y433 x28_1).f0))) (fun _ hk => hk.2) (.int .i64 ((rd_T23 y433 x28_1).f1))) (fun _ hk => hk.2) (.int .i64 ((rd_T23 y433 x28_1).f2))) (fun _ h_ => h_.1))) hb); have HO441 := Aside0.mk (Kd.R_lower ho17 (below_size (by repeat (first | (with_reducible first | exact HB.out | apply below_alloc | apply pw_below_drewN | apply below_drew1 | refine below_set ?_ GE429.out | refine below_set ?_ GE438.out) | exact HB.out)))); replace BK429 := Aside0.mk (blk_below (g := gb429) (o := .cells #[.int .i64 a0_0, .int .i64 a0_1, .int .i64 a0_2] 23 (0, 0)) (by (with_reducible repeat (first | refine blk_drewN ?_ _ | refine blk_drew ?_ | refine blk_alloc ?_ _)); refine blk_far ?_ NB429_438.out _; (with_reducible repeat (first | refine blk_drewN ?_ _ | refine blk_drew ?_ | refine blk_alloc ?_ _)); refine blk_far ?_ NB429_438.out _; (with_reducible repeat (first | refine blk_drewN ?_ _ | refine blk_drew ?_ | refine blk_alloc ?_ _)); refine blk_far ?_ NB429_438.out _; (with_reducible repeat (first | refine blk_drewN ?_ _ | refine blk_drew ?_ | refine blk_alloc ?_ _)); exact BK429.out) hb); replace BK438 := Aside0.mk (blk_below (g := gb438) (o := .cells #[.int .i64 ((rd_T23 y433 x28_1).f0), .int .i64 ((rd_T23 y433 x28_1).f1), .int .i64 ((rd_T23 y433 x28_1).f2)] 23 (0, 0)) (by (with_reducible repeat (first | refine blk_drewN ?_ _ | refine blk_drew ?_ | refine blk_alloc ?_ _)); refine blk_put (cs := #[.int .i64 ((rd_T23 y433 x28_1).f0), .int .i64 ((rd_T23 y433 x28_1).f1), .int .i64 0]) ?_ 2 _ rfl; (with_reducible repeat (first | refine blk_drewN ?_ _ | refine blk_drew ?_ | refine blk_alloc ?_ _)); refine blk_put (cs := #[.int .i64 ((rd_T23 y433 x28_1).f0), .int .i64 0, .int .i64 0]) ?_ 1 _ rfl; (with_reducible repeat (first | refine blk_drewN ?_ _ | refine blk_drew ?_ | refine blk_alloc ?_ _)); refine blk_put (cs := #[.int .i64 0, .int .i64 0, .int .i64 0]) ?_ 0 _ rfl; (with_reducible repeat (first | refine blk_drewN ?_ _ | refine blk_drew ?_ | refine blk_alloc ?_ _)); exact BK438.out) hb); replace HB := Aside0.mk (below_step (by repeat (first | (with_reducible first | exact HB.out | apply below_alloc | apply pw_below_drewN | apply below_drew1 | refine below_set ?_ GE429.out | refine below_set ?_ GE438.out) | exact HB.out)) hb); clear hb ho17; obtain ⟨Ao18, co18, eo18⟩ := Kd.R_slice HO441.out; subst eo18))
        go_loopg [37] k1 (fun kq v37 w' => ∃ (x37_2 : Int), v37 = .int .i64 x37_2 ∧ Aside0 (chattellaw10_MonthAdds.l1 kq a1 y433 (y433.length : Int) x28_1 y439 (y439.length : Int) x37_2 ((rd_T23 y433 x28_1).f0) ((rd_T23 y433 x28_1).f1) ((rd_T23 y433 x28_1).f2) = some r) ∧ Aside0 (kq ≤ k1) ∧ Aside0 (Kd.R k23 23 w' w.heap.size (fun k_ => k_ ≠ gb429 ∧ k_ ≠ gb438) (.slice (some ad437) y433.length co9) y433) ∧ Aside0 (Kd.R (Kd.int .i64) 3 w' w.heap.size (fun _ => True) (.slice Ao18 y439.length co18) y439) ∧ Aside0 (w'.heap[gb429]? = some (.cells #[.int .i64 a0_0, .int .i64 a0_1, .int .i64 a0_2] 23 (0, 0))) ∧ Aside0 (w'.heap[gb438]? = some (.cells #[.int .i64 ((rd_T23 y433 x28_1).f0), .int .i64 ((rd_T23 y433 x28_1).f1), .int .i64 ((rd_T23 y433 x28_1).f2)] 23 (0, 0))) ∧ Aside0 (Below w.heap.size w w'))
        case atStart => exact ⟨(0), (by first | rfl | (simp; done) | (simp [*]; done)), H', ⟨Nat.le_refl _⟩, ⟨by (with_reducible repeat (first | apply Kd.R_alloc | apply Kd.R_drewN | apply Kd.R_drew)); exact HO_26.out⟩, ⟨by (with_reducible repeat (first | apply Kd.R_alloc | apply Kd.R_drewN | apply Kd.R_drew)); exact HO441.out⟩, ⟨by (with_reducible repeat (first | refine blk_drewN ?_ _ | refine blk_drew ?_ | refine blk_alloc ?_ _)); exact BK429.out⟩, ⟨by (with_reducible repeat (first | refine blk_drewN ?_ _ | refine blk_drew ?_ | refine blk_alloc ?_ _)); exact BK438.out⟩, ⟨by repeat (first | (with_reducible first | exact HB.out | apply below_alloc | apply pw_below_drewN | apply below_drew1 | refine below_set ?_ GE429.out | refine below_set ?_ GE438.out) | exact HB.out)⟩⟩
        case round =>
          clear H'
          try clear c1
          try clear p2
          try clear c3
          try clear p4
          try clear q4
          try clear hx4
          try clear c9
          try clear c10
          try clear c10b0
          try clear c11
          try clear c11b0
          try clear c12
          try clear c12b0
          try clear c14
          try clear hcz15_0
          try clear hcz15_1
          try clear hcz15_2
          try clear hfz15_0
          try clear hfz15_1
          try clear hfz15_2
          try clear hx437_0
          try clear hx437_1
          try clear hx437_2
          try clear p2
          try clear p437
          try clear q437
          obtain ⟨x37_2, rfl, HA, HK2, HO_26, HO_35, BK429, BK438, HB⟩ := hrel
          cases gk with
          | zero => exact absurd HA.out (by simp [chattellaw10_MonthAdds.l1])
          | succ k2 =>
            have H := HA.out
            clear HA
            simp only [chattellaw10_MonthAdds.l1] at H
            by_cases c19 : x37_2 < (y439.length : Int)
            · rw [if_pos c19] at H
              have c19b0 : decide (x37_2 < (y439.length : Int)) = true := decide_eq_true c19
              clear c19
              by_cases c20 : 0 ≤ x37_2
              rotate_left
              · rw [if_neg c20] at H
                exact absurd H (by simp)
              rw [if_pos c20] at H
              have c20b0 : decide (0 ≤ x37_2) = true := decide_eq_true c20
              clear c20
              by_cases c21 : x37_2 < (y439.length : Int)
              rotate_left
              · rw [if_neg c21] at H
                exact absurd H (by simp)
              rw [if_pos c21] at H
              have c21b0 : decide (x37_2 < (y439.length : Int)) = true := decide_eq_true c21
              clear c21
              replace H := Option.bind_eq_some_iff.mp H
              obtain ⟨⟨t443, t444, t445, t446⟩, A220, H⟩ := H
              replace H : ((month_AddDays.f k2 ((rd_T23 y433 x28_1).f0) ((rd_T23 y433 x28_1).f1) ((rd_T23 y433 x28_1).f2) (rd y439 x37_2)).bind fun bt448 => ((chattelref09_Right.f k2 ((rd_T23 y433 x28_1).f0) ((rd_T23 y433 x28_1).f1) ((rd_T23 y433 x28_1).f2)).bind fun t453 => (if t453 = true then ((chattelref10_Add.f k2 ((rd_T23 y433 x28_1).f0) ((rd_T23 y433 x28_1).f1) ((rd_T23 y433 x28_1).f2) (rd y439 x37_2)).bind fun bt455 => (if ((t446 == 0) != bt455.2.2.2) = true then (chattellaw10_MonthAdds.j2 k2 a1 (rd y439 x37_2) bt448.2.2.2 y433 (y433.length : Int) x28_1 y439 (y439.length : Int) x37_2 true ((rd_T23 y433 x28_1).f0) ((rd_T23 y433 x28_1).f1) ((rd_T23 y433 x28_1).f2) bt448.1 bt448.2.1 bt448.2.2.1) else (if (!(t443 == bt455.1) || (!(t444 == bt455.2.1) || (!(t445 == bt455.2.2.1)))) = true then (chattellaw10_MonthAdds.j2 k2 a1 (rd y439 x37_2) bt448.2.2.2 y433 (y433.length : Int) x28_1 y439 (y439.length : Int) x37_2 true ((rd_T23 y433 x28_1).f0) ((rd_T23 y433 x28_1).f1) ((rd_T23 y433 x28_1).f2) bt448.1 bt448.2.1 bt448.2.2.1) else (if bt455.2.2.2 = true then (chattellaw10_MonthAdds.j2 k2 a1 (rd y439 x37_2) bt448.2.2.2 y433 (y433.length : Int) x28_1 y439 (y439.length : Int) x37_2 false ((rd_T23 y433 x28_1).f0) ((rd_T23 y433 x28_1).f1) ((rd_T23 y433 x28_1).f2) bt448.1 bt448.2.1 bt448.2.2.1) else (chattellaw10_MonthAdds.j2 k2 a1 (rd y439 x37_2) bt448.2.2.2 y433 (y433.length : Int) x28_1 y439 (y439.length : Int) x37_2 (t446 != 11) ((rd_T23 y433 x28_1).f0) ((rd_T23 y433 x28_1).f1) ((rd_T23 y433 x28_1).f2) bt448.1 bt448.2.1 bt448.2.2.1))))) else (if t446 = 11 then (if bt448.2.2.2 = 11 then (if (!(t443 == 0) || (!(t444 == 0) || (!(t445 == 0)))) = true then (some false) else (if (!(bt448.1 == 0) || (!(bt448.2.1 == 0) || (!(bt448.2.2.1 == 0)))) = true then (some false) else ((month_End.f k2 ((rd_T23 y433 x28_1).f0) ((rd_T23 y433 x28_1).f1) ((rd_T23 y433 x28_1).f2)).bind fun t454 => (if t454 = true then (some false) else (chattellaw10_MonthAdds.l1 k2 a1 y433 (y433.length : Int) x28_1 y439 (y439.length : Int) (wrap64 (x37_2 + 1)) ((rd_T23 y433 x28_1).f0) ((rd_T23 y433 x28_1).f1) ((rd_T23 y433 x28_1).f2)))))) else (some false)) else (some false))))) = some r := H
              have A22 := Aside0.mk A220
              clear A220
              replace H := Option.bind_eq_some_iff.mp H
              obtain ⟨⟨t448, t449, t450, t451⟩, A230, H⟩ := H
              replace H : ((chattelref09_Right.f k2 ((rd_T23 y433 x28_1).f0) ((rd_T23 y433 x28_1).f1) ((rd_T23 y433 x28_1).f2)).bind fun t453 => (if t453 = true then ((chattelref10_Add.f k2 ((rd_T23 y433 x28_1).f0) ((rd_T23 y433 x28_1).f1) ((rd_T23 y433 x28_1).f2) (rd y439 x37_2)).bind fun bt455 => (if ((t446 == 0) != bt455.2.2.2) = true then (chattellaw10_MonthAdds.j2 k2 a1 (rd y439 x37_2) t451 y433 (y433.length : Int) x28_1 y439 (y439.length : Int) x37_2 true ((rd_T23 y433 x28_1).f0) ((rd_T23 y433 x28_1).f1) ((rd_T23 y433 x28_1).f2) t448 t449 t450) else (if (!(t443 == bt455.1) || (!(t444 == bt455.2.1) || (!(t445 == bt455.2.2.1)))) = true then (chattellaw10_MonthAdds.j2 k2 a1 (rd y439 x37_2) t451 y433 (y433.length : Int) x28_1 y439 (y439.length : Int) x37_2 true ((rd_T23 y433 x28_1).f0) ((rd_T23 y433 x28_1).f1) ((rd_T23 y433 x28_1).f2) t448 t449 t450) else (if bt455.2.2.2 = true then (chattellaw10_MonthAdds.j2 k2 a1 (rd y439 x37_2) t451 y433 (y433.length : Int) x28_1 y439 (y439.length : Int) x37_2 false ((rd_T23 y433 x28_1).f0) ((rd_T23 y433 x28_1).f1) ((rd_T23 y433 x28_1).f2) t448 t449 t450) else (chattellaw10_MonthAdds.j2 k2 a1 (rd y439 x37_2) t451 y433 (y433.length : Int) x28_1 y439 (y439.length : Int) x37_2 (t446 != 11) ((rd_T23 y433 x28_1).f0) ((rd_T23 y433 x28_1).f1) ((rd_T23 y433 x28_1).f2) t448 t449 t450))))) else (if t446 = 11 then (if t451 = 11 then (if (!(t443 == 0) || (!(t444 == 0) || (!(t445 == 0)))) = true then (some false) else (if (!(t448 == 0) || (!(t449 == 0) || (!(t450 == 0)))) = true then (some false) else ((month_End.f k2 ((rd_T23 y433 x28_1).f0) ((rd_T23 y433 x28_1).f1) ((rd_T23 y433 x28_1).f2)).bind fun t454 => (if t454 = true then (some false) else (chattellaw10_MonthAdds.l1 k2 a1 y433 (y433.length : Int) x28_1 y439 (y439.length : Int) (wrap64 (x37_2 + 1)) ((rd_T23 y433 x28_1).f0) ((rd_T23 y433 x28_1).f1) ((rd_T23 y433 x28_1).f2)))))) else (some false)) else (some false)))) = some r := H
              have A23 := Aside0.mk A230
              clear A230
              replace H := Option.bind_eq_some_iff.mp H
              obtain ⟨t453, A240, H⟩ := H
              replace H : (if t453 = true then ((chattelref10_Add.f k2 ((rd_T23 y433 x28_1).f0) ((rd_T23 y433 x28_1).f1) ((rd_T23 y433 x28_1).f2) (rd y439 x37_2)).bind fun bt455 => (if ((t446 == 0) != bt455.2.2.2) = true then (chattellaw10_MonthAdds.j2 k2 a1 (rd y439 x37_2) t451 y433 (y433.length : Int) x28_1 y439 (y439.length : Int) x37_2 true ((rd_T23 y433 x28_1).f0) ((rd_T23 y433 x28_1).f1) ((rd_T23 y433 x28_1).f2) t448 t449 t450) else (if (!(t443 == bt455.1) || (!(t444 == bt455.2.1) || (!(t445 == bt455.2.2.1)))) = true then (chattellaw10_MonthAdds.j2 k2 a1 (rd y439 x37_2) t451 y433 (y433.length : Int) x28_1 y439 (y439.length : Int) x37_2 true ((rd_T23 y433 x28_1).f0) ((rd_T23 y433 x28_1).f1) ((rd_T23 y433 x28_1).f2) t448 t449 t450) else (if bt455.2.2.2 = true then (chattellaw10_MonthAdds.j2 k2 a1 (rd y439 x37_2) t451 y433 (y433.length : Int) x28_1 y439 (y439.length : Int) x37_2 false ((rd_T23 y433 x28_1).f0) ((rd_T23 y433 x28_1).f1) ((rd_T23 y433 x28_1).f2) t448 t449 t450) else (chattellaw10_MonthAdds.j2 k2 a1 (rd y439 x37_2) t451 y433 (y433.length : Int) x28_1 y439 (y439.length : Int) x37_2 (t446 != 11) ((rd_T23 y433 x28_1).f0) ((rd_T23 y433 x28_1).f1) ((rd_T23 y433 x28_1).f2) t448 t449 t450))))) else (if t446 = 11 then (if t451 = 11 then (if (!(t443 == 0) || (!(t444 == 0) || (!(t445 == 0)))) = true then (some false) else (if (!(t448 == 0) || (!(t449 == 0) || (!(t450 == 0)))) = true then (some false) else ((month_End.f k2 ((rd_T23 y433 x28_1).f0) ((rd_T23 y433 x28_1).f1) ((rd_T23 y433 x28_1).f2)).bind fun t454 => (if t454 = true then (some false) else (chattellaw10_MonthAdds.l1 k2 a1 y433 (y433.length : Int) x28_1 y439 (y439.length : Int) (wrap64 (x37_2 + 1)) ((rd_T23 y433 x28_1).f0) ((rd_T23 y433 x28_1).f1) ((rd_T23 y433 x28_1).f2)))))) else (some false)) else (some false))) = some r := H
              have A24 := Aside0.mk A240
              clear A240
              by_cases c25 : t453 = true
              · subst c25
                have H1 : ((chattelref10_Add.f k2 ((rd_T23 y433 x28_1).f0) ((rd_T23 y433 x28_1).f1) ((rd_T23 y433 x28_1).f2) (rd y439 x37_2)).bind fun bt455 => (if ((t446 == 0) != bt455.2.2.2) = true then (chattellaw10_MonthAdds.j2 k2 a1 (rd y439 x37_2) t451 y433 (y433.length : Int) x28_1 y439 (y439.length : Int) x37_2 true ((rd_T23 y433 x28_1).f0) ((rd_T23 y433 x28_1).f1) ((rd_T23 y433 x28_1).f2) t448 t449 t450) else (if (!(t443 == bt455.1) || (!(t444 == bt455.2.1) || (!(t445 == bt455.2.2.1)))) = true then (chattellaw10_MonthAdds.j2 k2 a1 (rd y439 x37_2) t451 y433 (y433.length : Int) x28_1 y439 (y439.length : Int) x37_2 true ((rd_T23 y433 x28_1).f0) ((rd_T23 y433 x28_1).f1) ((rd_T23 y433 x28_1).f2) t448 t449 t450) else (if bt455.2.2.2 = true then (chattellaw10_MonthAdds.j2 k2 a1 (rd y439 x37_2) t451 y433 (y433.length : Int) x28_1 y439 (y439.length : Int) x37_2 false ((rd_T23 y433 x28_1).f0) ((rd_T23 y433 x28_1).f1) ((rd_T23 y433 x28_1).f2) t448 t449 t450) else (chattellaw10_MonthAdds.j2 k2 a1 (rd y439 x37_2) t451 y433 (y433.length : Int) x28_1 y439 (y439.length : Int) x37_2 (t446 != 11) ((rd_T23 y433 x28_1).f0) ((rd_T23 y433 x28_1).f1) ((rd_T23 y433 x28_1).f2) t448 t449 t450))))) = some r := by rw [if_pos rfl] at H; exact H
                clear H
                have H := H1
                clear H1
                replace H := Option.bind_eq_some_iff.mp H
                obtain ⟨⟨t455, t456, t457, t458⟩, A260, H⟩ := H
                replace H : (if ((t446 == 0) != t458) = true then (chattellaw10_MonthAdds.j2 k2 a1 (rd y439 x37_2) t451 y433 (y433.length : Int) x28_1 y439 (y439.length : Int) x37_2 true ((rd_T23 y433 x28_1).f0) ((rd_T23 y433 x28_1).f1) ((rd_T23 y433 x28_1).f2) t448 t449 t450) else (if (!(t443 == t455) || (!(t444 == t456) || (!(t445 == t457)))) = true then (chattellaw10_MonthAdds.j2 k2 a1 (rd y439 x37_2) t451 y433 (y433.length : Int) x28_1 y439 (y439.length : Int) x37_2 true ((rd_T23 y433 x28_1).f0) ((rd_T23 y433 x28_1).f1) ((rd_T23 y433 x28_1).f2) t448 t449 t450) else (if t458 = true then (chattellaw10_MonthAdds.j2 k2 a1 (rd y439 x37_2) t451 y433 (y433.length : Int) x28_1 y439 (y439.length : Int) x37_2 false ((rd_T23 y433 x28_1).f0) ((rd_T23 y433 x28_1).f1) ((rd_T23 y433 x28_1).f2) t448 t449 t450) else (chattellaw10_MonthAdds.j2 k2 a1 (rd y439 x37_2) t451 y433 (y433.length : Int) x28_1 y439 (y439.length : Int) x37_2 (t446 != 11) ((rd_T23 y433 x28_1).f0) ((rd_T23 y433 x28_1).f1) ((rd_T23 y433 x28_1).f2) t448 t449 t450)))) = some r := H
                have A26 := Aside0.mk A260
                clear A260
                have HC27 := Aside0.mk H
                clear H
                have p442 : 0 ≤ (x37_2 : Int) := of_decide_eq_true (by first | (with_reducible assumption) | assumption)
                have q442 : x37_2 < (y439.length : Int) := of_decide_eq_true (by first | (with_reducible assumption) | assumption)
                obtain ⟨ad442, e442, hx442_0⟩ := Kd.at_int (Kd.R_reads' HO_35.out).2.2 x37_2 p442 q442
                cases e442
                replace p442 := eq_true p442
                replace q442 := eq_true q442
                have hnb28 := NB438_429.out
                have hnc28 := NB429_438.out
                have hcz29_0 : wr.cell? ⟨gb438, 0, none⟩ = some (.int .i64 ((rd_T23 y433 x28_1).f0)) := (blk_cell BK438.out 0).trans rfl
                have hcz29_1 : wr.cell? ⟨gb438, 1, none⟩ = some (.int .i64 ((rd_T23 y433 x28_1).f1)) := (blk_cell BK438.out 1).trans rfl
                have hcz29_2 : wr.cell? ⟨gb438, 2, none⟩ = some (.int .i64 ((rd_T23 y433 x28_1).f2)) := (blk_cell BK438.out 2).trans rfl
                have hfz29_0 := blk_frozen BK438.out 0
                have hfz29_1 := blk_frozen BK438.out 1
                have hfz29_2 := blk_frozen BK438.out 2
                go_upto_region 13 with (first | ((with_reducible refine gate_callee (f := 17) rfl ?_); refine goesL_ (some 44) rfl rfl Try.func17 (by kernel_rfl) rfl #[.agg #[.int .i64 ((rd_T23 y433 x28_1).f0), .int .i64 ((rd_T23 y433 x28_1).f1), .int .i64 ((rd_T23 y433 x28_1).f2)], .int .i64 (rd y439 x37_2)] rfl (by (try simp only [List.map_toArray, List.map_cons, List.map_nil]); first | done | rfl | (simp only [List.length_drop, List.length_take]; rfl)) ?_; (with_reducible refine (month_Add.calls k2 ((rd_T23 y433 x28_1).f0) ((rd_T23 y433 x28_1).f1) ((rd_T23 y433 x28_1).f2) (rd y439 x37_2) t443 t444 t445 t446 _ A22.out).mono ?_); rintro e w30 ⟨rfl, hb⟩; refine ⟨_, rfl, ?_⟩; replace HO_26 := Aside0.mk (rb HO_26.out hb); replace HO_35 := Aside0.mk (rb HO_35.out hb); replace BK429 := Aside0.mk (bb BK429.out hb); replace BK438 := Aside0.mk (bb BK438.out hb); replace HB := Aside0.mk (bs HB.out hb); (try clear hb); (try clear hb2); (try clear hk); (try clear hi)) | ((with_reducible refine gate_dst (N := 9) rfl ?_); refine box_event ?hg (N := 9) ?hd (cs := #[.int .i64 0, .int .i64 0, .int .i64 0]) (t := 23) ?hr ?_; (case hd => rfl); (case hg => rfl); (case hr => first | (go_simp; done) | (go_simp; rfl)); intro gb447 hg w31 hbox hb; have n0_ := Aside0.mk (Kd.R_below (Kd.R_elderB (by (with_reducible repeat (first | apply Kd.R_alloc | apply Kd.R_drewN | apply Kd.R_drew)); exact HO_26.out) gb447 (Nat.le_of_eq hg.symm)) hb); have n1_ := Aside0.mk (rb HO_35.out hb); have n2_ := Aside0.mk (bb BK429.out hb); have n3_ := Aside0.mk (bb BK438.out hb); have n4_ := Aside0.mk (bs HB.out hb); have n5_ := Aside0.mk (hbox); have n6_ := Aside0.mk ((by rw [hg]; exact (bz HB.out) : w.heap.size ≤ gb447)); have n7_ := Aside0.mk ((by rw [hg]; exact (bz HB.out) : w.heap.size ≤ gb447)); have n8_ := Aside0.mk ((by rw [hg]; exact Nat.ne_of_lt (blk_lt (g := gb429) (o := .cells #[.int .i64 a0_0, .int .i64 a0_1, .int .i64 a0_2] 23 (0, 0)) (by (with_reducible repeat (first | refine blk_drewN ?_ _ | refine blk_drew ?_ | refine blk_alloc ?_ _)); exact BK429.out)) : gb429 ≠ gb447)); have n9_ := Aside0.mk ((by rw [hg]; exact Nat.ne_of_gt (blk_lt (g := gb429) (o := .cells #[.int .i64 a0_0, .int .i64 a0_1, .int .i64 a0_2] 23 (0, 0)) (by (with_reducible repeat (first | refine blk_drewN ?_ _ | refine blk_drew ?_ | refine blk_alloc ?_ _)); exact BK429.out)) : gb447 ≠ gb429)); have n10_ := Aside0.mk ((by rw [hg]; exact Nat.ne_of_lt (blk_lt (g := gb438) (o := .cells #[.int .i64 ((rd_T23 y433 x28_1).f0), .int .i64 ((rd_T23 y433 x28_1).f1), .int .i64 ((rd_T23 y433 x28_1).f2)] 23 (0, 0)) (by (with_reducible repeat (first | refine blk_drewN ?_ _ | refine blk_drew ?_ | refine blk_alloc ?_ _)); exact BK438.out)) : gb438 ≠ gb447)); have n11_ := Aside0.mk ((by rw [hg]; exact Nat.ne_of_gt (blk_lt (g := gb438) (o := .cells #[.int .i64 ((rd_T23 y433 x28_1).f0), .int .i64 ((rd_T23 y433 x28_1).f1), .int .i64 ((rd_T23 y433 x28_1).f2)] 23 (0, 0)) (by (with_reducible repeat (first | refine blk_drewN ?_ _ | refine blk_drew ?_ | refine blk_alloc ?_ _)); exact BK438.out)) : gb447 ≠ gb438)); clear HO_26; clear HO_35; clear BK429; clear BK438; clear HB; have HO_26 := n0_; have HO_35 := n1_; have BK429 := n2_; have BK438 := n3_; have HB := n4_; have BK447 := n5_; have GW447 := n6_; have GE447 := n7_; have NB429_447 := n8_; have NB447_429 := n9_; have NB438_447 := n10_; have NB447_438 := n11_; clear n0_ n1_ n2_ n3_ n4_ n5_ n6_ n7_ n8_ n9_ n10_ n11_; clear hb hbox hg; have hnb32 := NB447_429.out; have hnc32 := NB429_447.out; have hnb33 := NB447_438.out; have hnc33 := NB438_447.out; have hcz34_0 : w31.cell? ⟨gb447, 0, none⟩ = some (.int .i64 0) := (blk_cell BK447.out 0).trans rfl; have hcz34_1 : w31.cell? ⟨gb447, 1, none⟩ = some (.int .i64 0) := (blk_cell BK447.out 1).trans rfl; have hcz34_2 : w31.cell? ⟨gb447, 2, none⟩ = some (.int .i64 0) := (blk_cell BK447.out 2).trans rfl; have hfz34_0 := blk_frozen BK447.out 0; have hfz34_1 := blk_frozen BK447.out 1; have hfz34_2 := blk_frozen BK447.out 2; have hcz35_0 : w31.cell? ⟨gb438, 0, none⟩ = some (.int .i64 ((rd_T23 y433 x28_1).f0)) := (blk_cell BK438.out 0).trans rfl; have hcz35_1 : w31.cell? ⟨gb438, 1, none⟩ = some (.int .i64 ((rd_T23 y433 x28_1).f1)) := (blk_cell BK438.out 1).trans rfl; have hcz35_2 : w31.cell? ⟨gb438, 2, none⟩ = some (.int .i64 ((rd_T23 y433 x28_1).f2)) := (blk_cell BK438.out 2).trans rfl; have hfz35_0 := blk_frozen BK438.out 0; have hfz35_1 := blk_frozen BK438.out 1; have hfz35_2 := blk_frozen BK438.out 2) | ((with_reducible refine gate_callee (f := 37) rfl ?_); refine goesL_ (some 50) rfl rfl Try.func37 (by kernel_rfl) rfl #[.agg #[.int .i64 ((rd_T23 y433 x28_1).f0), .int .i64 ((rd_T23 y433 x28_1).f1), .int .i64 ((rd_T23 y433 x28_1).f2)], .int .i64 (rd y439 x37_2)] rfl (by (try simp only [List.map_toArray, List.map_cons, List.map_nil]); first | done | rfl | (simp only [List.length_drop, List.length_take]; rfl)) ?_; (with_reducible refine (month_AddDays.calls k2 ((rd_T23 y433 x28_1).f0) ((rd_T23 y433 x28_1).f1) ((rd_T23 y433 x28_1).f2) (rd y439 x37_2) t448 t449 t450 t451 _ A23.out).mono ?_); rintro e w36 ⟨rfl, hb⟩; refine ⟨_, rfl, ?_⟩; replace HO_26 := Aside0.mk (Kd.R_below (by (with_reducible repeat (first | apply Kd.R_alloc | apply Kd.R_drewN | apply Kd.R_drew)); exact (Kd.R_mono (Kd.R_far (p := ⟨gb447, 2, none⟩) (Kd.R_far (p := ⟨gb447, 1, none⟩) (Kd.R_far (p := ⟨gb447, 0, none⟩) (Kd.R_mono HO_26.out (fun k_ hk => (⟨hk, hk.2⟩ : _ ∧ k_ ≠ gb447))) (fun _ hk => hk.2) (.int .i64 t443)) (fun _ hk => hk.2) (.int .i64 t444)) (fun _ hk => hk.2) (.int .i64 t445)) (fun _ h_ => h_.1))) hb); replace HO_35 := Aside0.mk (Kd.R_below (by (with_reducible repeat (first | apply Kd.R_alloc | apply Kd.R_drewN | apply Kd.R_drew)); exact (Kd.R_mono (Kd.R_far (p := ⟨gb447, 2, none⟩) (Kd.R_far (p := ⟨gb447, 1, none⟩) (Kd.R_far (p := ⟨gb447, 0, none⟩) (Kd.R_types HO_35.out BK447.out (by decide)) (fun _ hk => hk.2) (.int .i64 t443)) (fun _ hk => hk.2) (.int .i64 t444)) (fun _ hk => hk.2) (.int .i64 t445)) (fun _ h_ => h_.1))) hb); replace BK429 := Aside0.mk (blk_below (g := gb429) (o := .cells #[.int .i64 a0_0, .int .i64 a0_1, .int .i64 a0_2] 23 (0, 0)) (by (with_reducible repeat (first | refine blk_drewN ?_ _ | refine blk_drew ?_ | refine blk_alloc ?_ _)); refine blk_far ?_ NB429_447.out _; (with_reducible repeat (first | refine blk_drewN ?_ _ | refine blk_drew ?_ | refine blk_alloc ?_ _)); refine blk_far ?_ NB429_447.out _; (with_reducible repeat (first | refine blk_drewN ?_ _ | refine blk_drew ?_ | refine blk_alloc ?_ _)); refine blk_far ?_ NB429_447.out _; (with_reducible repeat (first | refine blk_drewN ?_ _ | refine blk_drew ?_ | refine blk_alloc ?_ _)); exact BK429.out) hb); replace BK438 := Aside0.mk (blk_below (g := gb438) (o := .cells #[.int .i64 ((rd_T23 y433 x28_1).f0), .int .i64 ((rd_T23 y433 x28_1).f1), .int .i64 ((rd_T23 y433 x28_1).f2)] 23 (0, 0)) (by (with_reducible repeat (first | refine blk_drewN ?_ _ | refine blk_drew ?_ | refine blk_alloc ?_ _)); refine blk_far ?_ NB438_447.out _; (with_reducible repeat (first | refine blk_drewN ?_ _ | refine blk_drew ?_ | refine blk_alloc ?_ _)); refine blk_far ?_ NB438_447.out _; (with_reducible repeat (first | refine blk_drewN ?_ _ | refine blk_drew ?_ | refine blk_alloc ?_ _)); refine blk_far ?_ NB438_447.out _; (with_reducible repeat (first | refine blk_drewN ?_ _ | refine blk_drew ?_ | refine blk_alloc ?_ _)); exact BK438.out) hb); replace BK447 := Aside0.mk (blk_below (g := gb447) (o := .cells #[.int .i64 t443, .int .i64 t444, .int .i64 t445] 23 (0, 0)) (by (with_reducible repeat (first | refine blk_drewN ?_ _ | refine blk_drew ?_ | refine blk_alloc ?_ _)); refine blk_put (cs := #[.int .i64 t443, .int .i64 t444, .int .i64 0]) ?_ 2 _ rfl; (with_reducible repeat (first | refine blk_drewN ?_ _ | refine blk_drew ?_ | refine blk_alloc ?_ _)); refine blk_put (cs := #[.int .i64 t443, .int .i64 0, .int .i64 0]) ?_ 1 _ rfl; (with_reducible repeat (first | refine blk_drewN ?_ _ | refine blk_drew ?_ | refine blk_alloc ?_ _)); refine blk_put (cs := #[.int .i64 0, .int .i64 0, .int .i64 0]) ?_ 0 _ rfl; (with_reducible repeat (first | refine blk_drewN ?_ _ | refine blk_drew ?_ | refine blk_alloc ?_ _)); exact BK447.out) hb); replace HB := Aside0.mk (below_step (by repeat (first | (with_reducible first | exact HB.out | apply below_alloc | apply pw_below_drewN | apply below_drew1 | refine below_set ?_ GE429.out | refine below_set ?_ GE438.out | refine below_set ?_ GE447.out) | exact HB.out)) hb); (try clear hb); (try clear hb2); (try clear hk); (try clear hi)) | ((with_reducible refine gate_dst (N := 11) rfl ?_); refine box_event ?hg (N := 11) ?hd (cs := #[.int .i64 0, .int .i64 0, .int .i64 0]) (t := 23) ?hr ?_; (case hd => rfl); (case hg => rfl); (case hr => first | (go_simp; done) | (go_simp; rfl)); intro gb452 hg w37 hbox hb; have n0_ := Aside0.mk (Kd.R_below (Kd.R_elderB (by (with_reducible repeat (first | apply Kd.R_alloc | apply Kd.R_drewN | apply Kd.R_drew)); exact HO_26.out) gb452 (Nat.le_of_eq hg.symm)) hb); have n1_ := Aside0.mk (rb HO_35.out hb); have n2_ := Aside0.mk (bb BK429.out hb); have n3_ := Aside0.mk (bb BK438.out hb); have n4_ := Aside0.mk (bb BK447.out hb); have n5_ := Aside0.mk (bs HB.out hb); have n6_ := Aside0.mk (hbox); have n7_ := Aside0.mk ((by rw [hg]; exact (bz HB.out) : w.heap.size ≤ gb452)); have n8_ := Aside0.mk ((by rw [hg]; exact (bz HB.out) : w.heap.size ≤ gb452)); have n9_ := Aside0.mk ((by rw [hg]; exact Nat.ne_of_lt (blk_lt (g := gb429) (o := .cells #[.int .i64 a0_0, .int .i64 a0_1, .int .i64 a0_2] 23 (0, 0)) (by (with_reducible repeat (first | refine blk_drewN ?_ _ | refine blk_drew ?_ | refine blk_alloc ?_ _)); exact BK429.out)) : gb429 ≠ gb452)); have n10_ := Aside0.mk ((by rw [hg]; exact Nat.ne_of_gt (blk_lt (g := gb429) (o := .cells #[.int .i64 a0_0, .int .i64 a0_1, .int .i64 a0_2] 23 (0, 0)) (by (with_reducible repeat (first | refine blk_drewN ?_ _ | refine blk_drew ?_ | refine blk_alloc ?_ _)); exact BK429.out)) : gb452 ≠ gb429)); have n11_ := Aside0.mk ((by rw [hg]; exact Nat.ne_of_lt (blk_lt (g := gb438) (o := .cells #[.int .i64 ((rd_T23 y433 x28_1).f0), .int .i64 ((rd_T23 y433 x28_1).f1), .int .i64 ((rd_T23 y433 x28_1).f2)] 23 (0, 0)) (by (with_reducible repeat (first | refine blk_drewN ?_ _ | refine blk_drew ?_ | refine blk_alloc ?_ _)); exact BK438.out)) : gb438 ≠ gb452)); have n12_ := Aside0.mk ((by rw [hg]; exact Nat.ne_of_gt (blk_lt (g := gb438) (o := .cells #[.int .i64 ((rd_T23 y433 x28_1).f0), .int .i64 ((rd_T23 y433 x28_1).f1), .int .i64 ((rd_T23 y433 x28_1).f2)] 23 (0, 0)) (by (with_reducible repeat (first | refine blk_drewN ?_ _ | refine blk_drew ?_ | refine blk_alloc ?_ _)); exact BK438.out)) : gb452 ≠ gb438)); have n13_ := Aside0.mk ((by rw [hg]; exact Nat.ne_of_lt (blk_lt (g := gb447) (o := .cells #[.int .i64 t443, .int .i64 t444, .int .i64 t445] 23 (0, 0)) (by (with_reducible repeat (first | refine blk_drewN ?_ _ | refine blk_drew ?_ | refine blk_alloc ?_ _)); exact BK447.out)) : gb447 ≠ gb452)); have n14_ := Aside0.mk ((by rw [hg]; exact Nat.ne_of_gt (blk_lt (g := gb447) (o := .cells #[.int .i64 t443, .int .i64 t444, .int .i64 t445] 23 (0, 0)) (by (with_reducible repeat (first | refine blk_drewN ?_ _ | refine blk_drew ?_ | refine blk_alloc ?_ _)); exact BK447.out)) : gb452 ≠ gb447)); clear HO_26; clear HO_35; clear BK429; clear BK438; clear BK447; clear HB; have HO_26 := n0_; have HO_35 := n1_; have BK429 := n2_; have BK438 := n3_; have BK447 := n4_; have HB := n5_; have BK452 := n6_; have GW452 := n7_; have GE452 := n8_; have NB429_452 := n9_; have NB452_429 := n10_; have NB438_452 := n11_; have NB452_438 := n12_; have NB447_452 := n13_; have NB452_447 := n14_; clear n0_ n1_ n2_ n3_ n4_ n5_ n6_ n7_ n8_ n9_ n10_ n11_ n12_ n13_ n14_; clear hb hbox hg; have hnb38 := NB452_429.out; have hnc38 := NB429_452.out; have hnb39 := NB452_438.out; have hnc39 := NB438_452.out; have hnb40 := NB452_447.out; have hnc40 := NB447_452.out; have hcz41_0 : w37.cell? ⟨gb452, 0, none⟩ = some (.int .i64 0) := (blk_cell BK452.out 0).trans rfl; have hcz41_1 : w37.cell? ⟨gb452, 1, none⟩ = some (.int .i64 0) := (blk_cell BK452.out 1).trans rfl; have hcz41_2 : w37.cell? ⟨gb452, 2, none⟩ = some (.int .i64 0) := (blk_cell BK452.out 2).trans rfl; have hfz41_0 := blk_frozen BK452.out 0; have hfz41_1 := blk_frozen BK452.out 1; have hfz41_2 := blk_frozen BK452.out 2; have hcz42_0 : w37.cell? ⟨gb438, 0, none⟩ = some (.int .i64 ((rd_T23 y433 x28_1).f0)) := (blk_cell BK438.out 0).trans rfl; have hcz42_1 : w37.cell? ⟨gb438, 1, none⟩ = some (.int .i64 ((rd_T23 y433 x28_1).f1)) := (blk_cell BK438.out 1).trans rfl; have hcz42_2 : w37.cell? ⟨gb438, 2, none⟩ = some (.int .i64 ((rd_T23 y433 x28_1).f2)) := (blk_cell BK438.out 2).trans rfl; have hfz42_0 := blk_frozen BK438.out 0; have hfz42_1 := blk_frozen BK438.out 1; have hfz42_2 := blk_frozen BK438.out 2) | ((with_reducible refine gate_callee (f := 21) rfl ?_); refine goesL_ (some 54) rfl rfl Try.func21 (by kernel_rfl) rfl #[.agg #[.int .i64 ((rd_T23 y433 x28_1).f0), .int .i64 ((rd_T23 y433 x28_1).f1), .int .i64 ((rd_T23 y433 x28_1).f2)]] rfl (by (try simp only [List.map_toArray, List.map_cons, List.map_nil]); first | done | rfl | (simp only [List.length_drop, List.length_take]; rfl)) ?_; (with_reducible refine (chattelref09_Right.calls k2 ((rd_T23 y433 x28_1).f0) ((rd_T23 y433 x28_1).f1) ((rd_T23 y433 x28_1).f2) true _ A24.out).mono ?_); rintro e w43 ⟨rfl, hb⟩; refine ⟨_, rfl, ?_⟩; replace HO_26 := Aside0.mk (Kd.R_below (by (with_reducible repeat (first | apply Kd.R_alloc | apply Kd.R_drewN | apply Kd.R_drew)); exact (Kd.R_mono (Kd.R_far (p := ⟨gb452, 2, none⟩) (Kd.R_far (p := ⟨gb452, 1, none⟩) (Kd.R_far (p := ⟨gb452, 0, none⟩) (Kd.R_mono HO_26.out (fun k_ hk => (⟨hk, hk.2⟩ : _ ∧ k_ ≠ gb452))) (fun _ hk => hk.2) (.int .i64 t448)) (fun _ hk => hk.2) (.int .i64 t449)) (fun _ hk => hk.2) (.int .i64 t450)) (fun _ h_ => h_.1))) hb); replace HO_35 := Aside0.mk (Kd.R_below (by (with_reducible repeat (first | apply Kd.R_alloc | apply Kd.R_drewN | apply Kd.R_drew)); exact (Kd.R_mono (Kd.R_far (p := ⟨gb452, 2, none⟩) (Kd.R_far (p := ⟨gb452, 1, none⟩) (Kd.R_far (p := ⟨gb452, 0, none⟩) (Kd.R_types HO_35.out BK452.out (by decide)) (fun _ hk => hk.2) (.int .i64 t448)) (fun _ hk => hk.2) (.int .i64 t449)) (fun _ hk => hk.2) (.int .i64 t450)) (fun _ h_ => h_.1))) hb); replace BK429 := Aside0.mk (blk_below (g := gb429) (o := .cells #[.int .i64 a0_0, .int .i64 a0_1, .int .i64 a0_2] 23 (0, 0)) (by (with_reducible repeat (first | refine blk_drewN ?_ _ | refine blk_drew ?_ | refine blk_alloc ?_ _)); refine blk_far ?_ NB429_452.out _; (with_reducible repeat (first | refine blk_drewN ?_ _ | refine blk_drew ?_ | refine blk_alloc ?_ _)); refine blk_far ?_ NB429_452.out _; (with_reducible repeat (first | refine blk_drewN ?_ _ | refine blk_drew ?_ | refine blk_alloc ?_ _)); refine blk_far ?_ NB429_452.out _; (with_reducible repeat (first | refine blk_drewN ?_ _ | refine blk_drew ?_ | refine blk_alloc ?_ _)); exact BK429.out) hb); replace BK438 := Aside0.mk (blk_below (g := gb438) (o := .cells #[.int .i64 ((rd_T23 y433 x28_1).f0), .int .i64 ((rd_T23 y433 x28_1).f1), .int .i64 ((rd_T23 y433 x28_1).f2)] 23 (0, 0)) (by (with_reducible repeat (first | refine blk_drewN ?_ _ | refine blk_drew ?_ | refine blk_alloc ?_ _)); refine blk_far ?_ NB438_452.out _; (with_reducible repeat (first | refine blk_drewN ?_ _ | refine blk_drew ?_ | refine blk_alloc ?_ _)); refine blk_far ?_ NB438_452.out _; (with_reducible repeat (first | refine blk_drewN ?_ _ | refine blk_drew ?_ | refine blk_alloc ?_ _)); refine blk_far ?_ NB438_452.out _; (with_reducible repeat (first | refine blk_drewN ?_ _ | refine blk_drew ?_ | refine blk_alloc ?_ _)); exact BK438.out) hb); replace BK447 := Aside0.mk (blk_below (g := gb447) (o := .cells #[.int .i64 t443, .int .i64 t444, .int .i64 t445] 23 (0, 0)) (by (with_reducible repeat (first | refine blk_drewN ?_ _ | refine blk_drew ?_ | refine blk_alloc ?_ _)); refine blk_far ?_ NB447_452.out _; (with_reducible repeat (first | refine blk_drewN ?_ _ | refine blk_drew ?_ | refine blk_alloc ?_ _)); refine blk_far ?_ NB447_452.out _; (with_reducible repeat (first | refine blk_drewN ?_ _ | refine blk_drew ?_ | refine blk_alloc ?_ _)); refine blk_far ?_ NB447_452.out _; (with_reducible repeat (first | refine blk_drewN ?_ _ | refine blk_drew ?_ | refine blk_alloc ?_ _)); exact BK447.out) hb); replace BK452 := Aside0.mk (blk_below (g := gb452) (o := .cells #[.int .i64 t448, .int .i64 t449, .int .i64 t450] 23 (0, 0)) (by (with_reducible repeat (first | refine blk_drewN ?_ _ | refine blk_drew ?_ | refine blk_alloc ?_ _)); refine blk_put (cs := #[.int .i64 t448, .int .i64 t449, .int .i64 0]) ?_ 2 _ rfl; (with_reducible repeat (first | refine blk_drewN ?_ _ | refine blk_drew ?_ | refine blk_alloc ?_ _)); refine blk_put (cs := #[.int .i64 t448, .int .i64 0, .int .i64 0]) ?_ 1 _ rfl; (with_reducible repeat (first | refine blk_drewN ?_ _ | refine blk_drew ?_ | refine blk_alloc ?_ _)); refine blk_put (cs := #[.int .i64 0, .int .i64 0, .int .i64 0]) ?_ 0 _ rfl; (with_reducible repeat (first | refine blk_drewN ?_ _ | refine blk_drew ?_ | refine blk_alloc ?_ _)); exact BK452.out) hb); replace HB := Aside0.mk (below_step (by repeat (first | (with_reducible first | exact HB.out | apply below_alloc | apply pw_below_drewN | apply below_drew1 | refine below_set ?_ GE429.out | refine below_set ?_ GE438.out | refine below_set ?_ GE447.out | refine below_set ?_ GE452.out) | exact HB.out)) hb); (try clear hb); (try clear hb2); (try clear hk); (try clear hi); have hcz44_0 : w43.cell? ⟨gb438, 0, none⟩ = some (.int .i64 ((rd_T23 y433 x28_1).f0)) := (blk_cell BK438.out 0).trans rfl; have hcz44_1 : w43.cell? ⟨gb438, 1, none⟩ = some (.int .i64 ((rd_T23 y433 x28_1).f1)) := (blk_cell BK438.out 1).trans rfl; have hcz44_2 : w43.cell? ⟨gb438, 2, none⟩ = some (.int .i64 ((rd_T23 y433 x28_1).f2)) := (blk_cell BK438.out 2).trans rfl; have hfz44_0 := blk_frozen BK438.out 0; have hfz44_1 := blk_frozen BK438.out 1; have hfz44_2 := blk_frozen BK438.out 2) | ((with_reducible refine gate_callee (f := 38) rfl ?_); refine goesL_ (some 79) rfl rfl Try.func38 (by kernel_rfl) rfl #[.agg #[.int .i64 ((rd_T23 y433 x28_1).f0), .int .i64 ((rd_T23 y433 x28_1).f1), .int .i64 ((rd_T23 y433 x28_1).f2)], .int .i64 (rd y439 x37_2)] rfl (by (try simp only [List.map_toArray, List.map_cons, List.map_nil]); first | done | rfl | (simp only [List.length_drop, List.length_take]; rfl)) ?_; (with_reducible refine (chattelref10_Add.calls k2 ((rd_T23 y433 x28_1).f0) ((rd_T23 y433 x28_1).f1) ((rd_T23 y433 x28_1).f2) (rd y439 x37_2) t455 t456 t457 t458 _ A26.out).mono ?_); rintro e w45 ⟨rfl, hb⟩; refine ⟨_, rfl, ?_⟩; replace HO_26 := Aside0.mk (rb HO_26.out hb); replace HO_35 := Aside0.mk (rb HO_35.out hb); replace BK429 := Aside0.mk (bb BK429.out hb); replace BK438 := Aside0.mk (bb BK438.out hb); replace BK447 := Aside0.mk (bb BK447.out hb); replace BK452 := Aside0.mk (bb BK452.out hb); replace HB := Aside0.mk (bs HB.out hb); (try clear hb); (try clear hb2); (try clear hk); (try clear hi)) | ((with_reducible refine gate_dst (N := 13) rfl ?_); refine box_event ?hg (N := 13) ?hd (cs := #[.int .i64 0, .int .i64 0, .int .i64 0]) (t := 23) ?hr ?_; (case hd => rfl); (case hg => rfl); (case hr => first | (go_simp; done) | (go_simp; rfl)); intro gb459 hg w46 hbox hb; have n0_ := Aside0.mk (Kd.R_below (Kd.R_elderB (by (with_reducible repeat (first | apply Kd.R_alloc | apply Kd.R_drewN | apply Kd.R_drew)); exact HO_26.out) gb459 (Nat.le_of_eq hg.symm)) hb); have n1_ := Aside0.mk (rb HO_35.out hb); have n2_ := Aside0.mk (bb BK429.out hb); have n3_ := Aside0.mk (bb BK438.out hb); have n4_ := Aside0.mk (bb BK447.out hb); have n5_ := Aside0.mk (bb BK452.out hb); have n6_ := Aside0.mk (bs HB.out hb); have n7_ := Aside0.mk (hbox); have n8_ := Aside0.mk ((by rw [hg]; exact (bz HB.out) : w.heap.size ≤ gb459)); have n9_ := Aside0.mk ((by rw [hg]; exact (bz HB.out) : w.heap.size ≤ gb459)); have n10_ := Aside0.mk ((by rw [hg]; exact Nat.ne_of_lt (blk_lt (g := gb429) (o := .cells #[.int .i64 a0_0, .int .i64 a0_1, .int .i64 a0_2] 23 (0, 0)) (by (with_reducible repeat (first | refine blk_drewN ?_ _ | refine blk_drew ?_ | refine blk_alloc ?_ _)); exact BK429.out)) : gb429 ≠ gb459)); have n11_ := Aside0.mk ((by rw [hg]; exact Nat.ne_of_gt (blk_lt (g := gb429) (o := .cells #[.int .i64 a0_0, .int .i64 a0_1, .int .i64 a0_2] 23 (0, 0)) (by (with_reducible repeat (first | refine blk_drewN ?_ _ | refine blk_drew ?_ | refine blk_alloc ?_ _)); exact BK429.out)) : gb459 ≠ gb429)); have n12_ := Aside0.mk ((by rw [hg]; exact Nat.ne_of_lt (blk_lt (g := gb438) (o := .cells #[.int .i64 ((rd_T23 y433 x28_1).f0), .int .i64 ((rd_T23 y433 x28_1).f1), .int .i64 ((rd_T23 y433 x28_1).f2)] 23 (0, 0)) (by (with_reducible repeat (first | refine blk_drewN ?_ _ | refine blk_drew ?_ | refine blk_alloc ?_ _)); exact BK438.out)) : gb438 ≠ gb459)); have n13_ := Aside0.mk ((by rw [hg]; exact Nat.ne_of_gt (blk_lt (g := gb438) (o := .cells #[.int .i64 ((rd_T23 y433 x28_1).f0), .int .i64 ((rd_T23 y433 x28_1).f1), .int .i64 ((rd_T23 y433 x28_1).f2)] 23 (0, 0)) (by (with_reducible repeat (first | refine blk_drewN ?_ _ | refine blk_drew ?_ | refine blk_alloc ?_ _)); exact BK438.out)) : gb459 ≠ gb438)); have n14_ := Aside0.mk ((by rw [hg]; exact Nat.ne_of_lt (blk_lt (g := gb447) (o := .cells #[.int .i64 t443, .int .i64 t444, .int .i64 t445] 23 (0, 0)) (by (with_reducible repeat (first | refine blk_drewN ?_ _ | refine blk_drew ?_ | refine blk_alloc ?_ _)); exact BK447.out)) : gb447 ≠ gb459)); have n15_ := Aside0.mk ((by rw [hg]; exact Nat.ne_of_gt (blk_lt (g := gb447) (o := .cells #[.int .i64 t443, .int .i64 t444, .int .i64 t445] 23 (0, 0)) (by (with_reducible repeat (first | refine blk_drewN ?_ _ | refine blk_drew ?_ | refine blk_alloc ?_ _)); exact BK447.out)) : gb459 ≠ gb447)); have n16_ := Aside0.mk ((by rw [hg]; exact Nat.ne_of_lt (blk_lt (g := gb452) (o := .cells #[.int .i64 t448, .int .i64 t449, .int .i64 t450] 23 (0, 0)) (by (with_reducible repeat (first | refine blk_drewN ?_ _ | refine blk_drew ?_ | refine blk_alloc ?_ _)); exact BK452.out)) : gb452 ≠ gb459)); have n17_ := Aside0.mk ((by rw [hg]; exact Nat.ne_of_gt (blk_lt (g := gb452) (o := .cells #[.int .i64 t448, .int .i64 t449, .int .i64 t450] 23 (0, 0)) (by (with_reducible repeat (first | refine blk_drewN ?_ _ | refine blk_drew ?_ | refine blk_alloc ?_ _)); exact BK452.out)) : gb459 ≠ gb452)); clear HO_26; clear HO_35; clear BK429; clear BK438; clear BK447; clear BK452; clear HB; have HO_26 := n0_; have HO_35 := n1_; have BK429 := n2_; have BK438 := n3_; have BK447 := n4_; have BK452 := n5_; have HB := n6_; have BK459 := n7_; have GW459 := n8_; have GE459 := n9_; have NB429_459 := n10_; have NB459_429 := n11_; have NB438_459 := n12_; have NB459_438 := n13_; have NB447_459 := n14_; have NB459_447 := n15_; have NB452_459 := n16_; have NB459_452 := n17_; clear n0_ n1_ n2_ n3_ n4_ n5_ n6_ n7_ n8_ n9_ n10_ n11_ n12_ n13_ n14_ n15_ n16_ n17_; clear hb hbox hg; have hnb47 := NB459_429.out; have hnc47 := NB429_459.out; have hnb48 := NB459_438.out; have hnc48 := NB438_459.out; have hnb49 := NB459_447.out; have hnc49 := NB447_459.out; have hnb50 := NB459_452.out; have hnc50 := NB452_459.out; have hcz51_0 : w46.cell? ⟨gb459, 0, none⟩ = some (.int .i64 0) := (blk_cell BK459.out 0).trans rfl; have hcz51_1 : w46.cell? ⟨gb459, 1, none⟩ = some (.int .i64 0) := (blk_cell BK459.out 1).trans rfl; have hcz51_2 : w46.cell? ⟨gb459, 2, none⟩ = some (.int .i64 0) := (blk_cell BK459.out 2).trans rfl; have hfz51_0 := blk_frozen BK459.out 0; have hfz51_1 := blk_frozen BK459.out 1; have hfz51_2 := blk_frozen BK459.out 2))
                (try simp only [Act.put, List.setIfInBounds_toArray, List.set_cons_zero, List.set_cons_succ])
                go_cut [98] (fun v98 wc => ∃ (kq : Nat) (x98_26 : Bool), v98 = .bool x98_26 ∧ Aside0 (chattellaw10_MonthAdds.j2 kq a1 (rd y439 x37_2) t451 y433 (y433.length : Int) x28_1 y439 (y439.length : Int) x37_2 x98_26 ((rd_T23 y433 x28_1).f0) ((rd_T23 y433 x28_1).f1) ((rd_T23 y433 x28_1).f2) t448 t449 t450 = some r) ∧ Aside0 (kq ≤ k2) ∧ Aside0 (Kd.R k23 23 wc w.heap.size (fun k_ => k_ ≠ gb429 ∧ k_ ≠ gb438 ∧ k_ ≠ gb447 ∧ k_ ≠ gb452 ∧ k_ ≠ gb459) (.slice (some ad437) y433.length co9) y433) ∧ Aside0 (Kd.R (Kd.int .i64) 3 wc w.heap.size (fun _ => True) (.slice (some ad442) y439.length co18) y439) ∧ Aside0 (wc.heap[gb429]? = some (.cells #[.int .i64 a0_0, .int .i64 a0_1, .int .i64 a0_2] 23 (0, 0))) ∧ Aside0 (wc.heap[gb438]? = some (.cells #[.int .i64 ((rd_T23 y433 x28_1).f0), .int .i64 ((rd_T23 y433 x28_1).f1), .int .i64 ((rd_T23 y433 x28_1).f2)] 23 (0, 0))) ∧ Aside0 (wc.heap[gb447]? = some (.cells #[.int .i64 t443, .int .i64 t444, .int .i64 t445] 23 (0, 0))) ∧ Aside0 (wc.heap[gb452]? = some (.cells #[.int .i64 t448, .int .i64 t449, .int .i64 t450] 23 (0, 0))) ∧ Aside0 (wc.heap[gb459]? = some (.cells #[.int .i64 t455, .int .i64 t456, .int .i64 t457] 23 (0, 0))) ∧ Aside0 (Below w.heap.size w wc))
                case first =>
                  have H := HC27.out
                  clear HC27
                  by_cases c52 : ((t446 == 0) != t458) = true
                  · rw [if_pos c52] at H
                    have c52b0 : ((t446 == 0) != t458) = true := c52
                    (try (have c52b1 : decide ((t446 == 0) = t458) = false := by simpa using c52))
                    (try (have c52b2 : ((t446 == 0) == t458) = false := by simpa using c52))
                    (try (have c52b3 : ¬ ((t446 == 0) = t458) := by simpa using c52))
                    clear c52
                    (first | rw [c52b0] | (simp only [i64_w, i32_w]; rw [c52b0]) | skip)
                    have H' := Aside0.mk H
                    clear H
                    go_wp2
                    (refine Met.intro ?_; go_step; (repeat apply Exists.intro); refine ⟨?rel, ?frame⟩)
                    case frame => first | rfl | (rw [c52b0]; first | done | rfl) | (rw [c21b0]; first | done | rfl) | (rw [c20b0]; first | done | rfl) | (rw [c19b0]; first | done | rfl) | (simp only [c10b0, c11b0, c12b0, c19b0, c20b0, c21b0, c52b0]; first | done | rfl)
                    case rel => exact ⟨_, (true), (by first | rfl | (simp; done) | (simp [*]; done)), H', ⟨by have := HK1.out; have := HK2.out; first | omega | exact Nat.le_refl _⟩, ⟨by (with_reducible repeat (first | apply Kd.R_alloc | apply Kd.R_drewN | apply Kd.R_drew)); exact Kd.R_mono (Kd.R_far (p := ⟨gb459, 2, none⟩) (Kd.R_far (p := ⟨gb459, 1, none⟩) (Kd.R_far (p := ⟨gb459, 0, none⟩) (Kd.R_mono HO_26.out (fun k_ hk => (⟨hk, hk.2⟩ : _ ∧ k_ ≠ gb459))) (fun _ hk => hk.2) (.int .i64 t455)) (fun _ hk => hk.2) (.int .i64 t456)) (fun _ hk => hk.2) (.int .i64 t457)) (fun _ hk => ⟨hk.1.1.1.1.1, ⟨hk.1.1.1.1.2, ⟨hk.1.1.1.2, ⟨hk.1.1.2, hk.1.2⟩⟩⟩⟩)⟩, ⟨by (with_reducible repeat (first | apply Kd.R_alloc | apply Kd.R_drewN | apply Kd.R_drew)); exact Kd.R_mono (Kd.R_far (p := ⟨gb459, 2, none⟩) (Kd.R_far (p := ⟨gb459, 1, none⟩) (Kd.R_far (p := ⟨gb459, 0, none⟩) (Kd.R_types HO_35.out BK459.out (by decide)) (fun _ hk => hk.2) (.int .i64 t455)) (fun _ hk => hk.2) (.int .i64 t456)) (fun _ hk => hk.2) (.int .i64 t457)) (fun _ hk => trivial)⟩, ⟨by (with_reducible repeat (first | refine blk_drewN ?_ _ | refine blk_drew ?_ | refine blk_alloc ?_ _)); refine blk_far ?_ NB429_459.out _; (with_reducible repeat (first | refine blk_drewN ?_ _ | refine blk_drew ?_ | refine blk_alloc ?_ _)); refine blk_far ?_ NB429_459.out _; (with_reducible repeat (first | refine blk_drewN ?_ _ | refine blk_drew ?_ | refine blk_alloc ?_ _)); refine blk_far ?_ NB429_459.out _; (with_reducible repeat (first | refine blk_drewN ?_ _ | refine blk_drew ?_ | refine blk_alloc ?_ _)); exact BK429.out⟩, ⟨by (with_reducible repeat (first | refine blk_drewN ?_ _ | refine blk_drew ?_ | refine blk_alloc ?_ _)); refine blk_far ?_ NB438_459.out _; (with_reducible repeat (first | refine blk_drewN ?_ _ | refine blk_drew ?_ | refine blk_alloc ?_ _)); refine blk_far ?_ NB438_459.out _; (with_reducible repeat (first | refine blk_drewN ?_ _ | refine blk_drew ?_ | refine blk_alloc ?_ _)); refine blk_far ?_ NB438_459.out _; (with_reducible repeat (first | refine blk_drewN ?_ _ | refine blk_drew ?_ | refine blk_alloc ?_ _)); exact BK438.out⟩, ⟨by (with_reducible repeat (first | refine blk_drewN ?_ _ | refine blk_drew ?_ | refine blk_alloc ?_ _)); refine blk_far ?_ NB447_459.out _; (with_reducible repeat (first | refine blk_drewN ?_ _ | refine blk_drew ?_ | refine blk_alloc ?_ _)); refine blk_far ?_ NB447_459.out _; (with_reducible repeat (first | refine blk_drewN ?_ _ | refine blk_drew ?_ | refine blk_alloc ?_ _)); refine blk_far ?_ NB447_459.out _; (with_reducible repeat (first | refine blk_drewN ?_ _ | refine blk_drew ?_ | refine blk_alloc ?_ _)); exact BK447.out⟩, ⟨by (with_reducible repeat (first | refine blk_drewN ?_ _ | refine blk_drew ?_ | refine blk_alloc ?_ _)); refine blk_far ?_ NB452_459.out _; (with_reducible repeat (first | refine blk_drewN ?_ _ | refine blk_drew ?_ | refine blk_alloc ?_ _)); refine blk_far ?_ NB452_459.out _; (with_reducible repeat (first | refine blk_drewN ?_ _ | refine blk_drew ?_ | refine blk_alloc ?_ _)); refine blk_far ?_ NB452_459.out _; (with_reducible repeat (first | refine blk_drewN ?_ _ | refine blk_drew ?_ | refine blk_alloc ?_ _)); exact BK452.out⟩, ⟨by (with_reducible repeat (first | refine blk_drewN ?_ _ | refine blk_drew ?_ | refine blk_alloc ?_ _)); refine blk_put (cs := #[.int .i64 t455, .int .i64 t456, .int .i64 0]) ?_ 2 _ rfl; (with_reducible repeat (first | refine blk_drewN ?_ _ | refine blk_drew ?_ | refine blk_alloc ?_ _)); refine blk_put (cs := #[.int .i64 t455, .int .i64 0, .int .i64 0]) ?_ 1 _ rfl; (with_reducible repeat (first | refine blk_drewN ?_ _ | refine blk_drew ?_ | refine blk_alloc ?_ _)); refine blk_put (cs := #[.int .i64 0, .int .i64 0, .int .i64 0]) ?_ 0 _ rfl; (with_reducible repeat (first | refine blk_drewN ?_ _ | refine blk_drew ?_ | refine blk_alloc ?_ _)); exact BK459.out⟩, ⟨by repeat (first | (with_reducible first | exact HB.out | apply below_alloc | apply pw_below_drewN | apply below_drew1 | refine below_set ?_ GE429.out | refine below_set ?_ GE438.out | refine below_set ?_ GE447.out | refine below_set ?_ GE452.out | refine below_set ?_ GE459.out) | exact HB.out)⟩⟩
                  · rw [if_neg c52] at H
                    have c52b0 : ((t446 == 0) != t458) = false := by simpa using c52
                    (try (have c52b1 : decide ((t446 == 0) = t458) = true := by simpa using c52))
                    (try (have c52b2 : ((t446 == 0) == t458) = true := by simpa using c52))
                    clear c52
                    (first | rw [c52b0] | (simp only [i64_w, i32_w]; rw [c52b0]) | skip)
                    by_cases c53 : (!(t443 == t455) || (!(t444 == t456) || (!(t445 == t457)))) = true
                    · rw [if_pos c53] at H
                      have c53b0 : (!(t443 == t455) || (!(t444 == t456) || (!(t445 == t457)))) = true := c53
                      clear c53
                      have H' := Aside0.mk H
                      clear H
                      have hnb54 := NB447_429.out
                      have hnc54 := NB429_447.out
                      have hnb55 := NB447_438.out
                      have hnc55 := NB438_447.out
                      have hnb56 := NB447_452.out
                      have hnc56 := NB452_447.out
                      have hnb57 := NB447_459.out
                      have hnc57 := NB459_447.out
                      have hcz58_0 : w46.cell? ⟨gb447, 0, none⟩ = some (.int .i64 t443) := (blk_cell BK447.out 0).trans rfl
                      have hcz58_1 : w46.cell? ⟨gb447, 1, none⟩ = some (.int .i64 t444) := (blk_cell BK447.out 1).trans rfl
                      have hcz58_2 : w46.cell? ⟨gb447, 2, none⟩ = some (.int .i64 t445) := (blk_cell BK447.out 2).trans rfl
                      have hfz58_0 := blk_frozen BK447.out 0
                      have hfz58_1 := blk_frozen BK447.out 1
                      have hfz58_2 := blk_frozen BK447.out 2
                      have hnb59 := NB459_429.out
                      have hnc59 := NB429_459.out
                      have hnb60 := NB459_438.out
                      have hnc60 := NB438_459.out
                      have hnb61 := NB459_452.out
                      have hnc61 := NB452_459.out
                      have hcz62_0 : w46.cell? ⟨gb459, 0, none⟩ = some (.int .i64 0) := (blk_cell BK459.out 0).trans rfl
                      have hcz62_1 : w46.cell? ⟨gb459, 1, none⟩ = some (.int .i64 0) := (blk_cell BK459.out 1).trans rfl
                      have hcz62_2 : w46.cell? ⟨gb459, 2, none⟩ = some (.int .i64 0) := (blk_cell BK459.out 2).trans rfl
                      have hfz62_0 := blk_frozen BK459.out 0
                      have hfz62_1 := blk_frozen BK459.out 1
                      have hfz62_2 := blk_frozen BK459.out 2
                      go_wp2
                      (refine Met.intro ?_; go_step; (repeat apply Exists.intro); refine ⟨?rel, ?frame⟩)
                      case frame => first | rfl | (rw [c53b0]; first | done | rfl) | (rw [c52b0]; first | done | rfl) | (rw [c21b0]; first | done | rfl) | (rw [c20b0]; first | done | rfl) | (simp only [c10b0, c11b0, c12b0, c19b0, c20b0, c21b0, c52b0, c53b0]; first | done | rfl)
                      case rel => exact ⟨_, (true), (by first | rfl | (simp; done) | (simp [*]; done)), H', ⟨by have := HK1.out; have := HK2.out; first | omega | exact Nat.le_refl _⟩, ⟨by (with_reducible repeat (first | apply Kd.R_alloc | apply Kd.R_drewN | apply Kd.R_drew)); exact Kd.R_mono (Kd.R_far (p := ⟨gb459, 2, none⟩) (Kd.R_far (p := ⟨gb459, 1, none⟩) (Kd.R_far (p := ⟨gb459, 0, none⟩) (Kd.R_mono HO_26.out (fun k_ hk => (⟨hk, hk.2⟩ : _ ∧ k_ ≠ gb459))) (fun _ hk => hk.2) (.int .i64 t455)) (fun _ hk => hk.2) (.int .i64 t456)) (fun _ hk => hk.2) (.int .i64 t457)) (fun _ hk => ⟨hk.1.1.1.1.1, ⟨hk.1.1.1.1.2, ⟨hk.1.1.1.2, ⟨hk.1.1.2, hk.1.2⟩⟩⟩⟩)⟩, ⟨by (with_reducible repeat (first | apply Kd.R_alloc | apply Kd.R_drewN | apply Kd.R_drew)); exact Kd.R_mono (Kd.R_far (p := ⟨gb459, 2, none⟩) (Kd.R_far (p := ⟨gb459, 1, none⟩) (Kd.R_far (p := ⟨gb459, 0, none⟩) (Kd.R_types HO_35.out BK459.out (by decide)) (fun _ hk => hk.2) (.int .i64 t455)) (fun _ hk => hk.2) (.int .i64 t456)) (fun _ hk => hk.2) (.int .i64 t457)) (fun _ hk => trivial)⟩, ⟨by (with_reducible repeat (first | refine blk_drewN ?_ _ | refine blk_drew ?_ | refine blk_alloc ?_ _)); refine blk_far ?_ NB429_459.out _; (with_reducible repeat (first | refine blk_drewN ?_ _ | refine blk_drew ?_ | refine blk_alloc ?_ _)); refine blk_far ?_ NB429_459.out _; (with_reducible repeat (first | refine blk_drewN ?_ _ | refine blk_drew ?_ | refine blk_alloc ?_ _)); refine blk_far ?_ NB429_459.out _; (with_reducible repeat (first | refine blk_drewN ?_ _ | refine blk_drew ?_ | refine blk_alloc ?_ _)); exact BK429.out⟩, ⟨by (with_reducible repeat (first | refine blk_drewN ?_ _ | refine blk_drew ?_ | refine blk_alloc ?_ _)); refine blk_far ?_ NB438_459.out _; (with_reducible repeat (first | refine blk_drewN ?_ _ | refine blk_drew ?_ | refine blk_alloc ?_ _)); refine blk_far ?_ NB438_459.out _; (with_reducible repeat (first | refine blk_drewN ?_ _ | refine blk_drew ?_ | refine blk_alloc ?_ _)); refine blk_far ?_ NB438_459.out _; (with_reducible repeat (first | refine blk_drewN ?_ _ | refine blk_drew ?_ | refine blk_alloc ?_ _)); exact BK438.out⟩, ⟨by (with_reducible repeat (first | refine blk_drewN ?_ _ | refine blk_drew ?_ | refine blk_alloc ?_ _)); refine blk_far ?_ NB447_459.out _; (with_reducible repeat (first | refine blk_drewN ?_ _ | refine blk_drew ?_ | refine blk_alloc ?_ _)); refine blk_far ?_ NB447_459.out _; (with_reducible repeat (first | refine blk_drewN ?_ _ | refine blk_drew ?_ | refine blk_alloc ?_ _)); refine blk_far ?_ NB447_459.out _; (with_reducible repeat (first | refine blk_drewN ?_ _ | refine blk_drew ?_ | refine blk_alloc ?_ _)); exact BK447.out⟩, ⟨by (with_reducible repeat (first | refine blk_drewN ?_ _ | refine blk_drew ?_ | refine blk_alloc ?_ _)); refine blk_far ?_ NB452_459.out _; (with_reducible repeat (first | refine blk_drewN ?_ _ | refine blk_drew ?_ | refine blk_alloc ?_ _)); refine blk_far ?_ NB452_459.out _; (with_reducible repeat (first | refine blk_drewN ?_ _ | refine blk_drew ?_ | refine blk_alloc ?_ _)); refine blk_far ?_ NB452_459.out _; (with_reducible repeat (first | refine blk_drewN ?_ _ | refine blk_drew ?_ | refine blk_alloc ?_ _)); exact BK452.out⟩, ⟨by (with_reducible repeat (first | refine blk_drewN ?_ _ | refine blk_drew ?_ | refine blk_alloc ?_ _)); refine blk_put (cs := #[.int .i64 t455, .int .i64 t456, .int .i64 0]) ?_ 2 _ rfl; (with_reducible repeat (first | refine blk_drewN ?_ _ | refine blk_drew ?_ | refine blk_alloc ?_ _)); refine blk_put (cs := #[.int .i64 t455, .int .i64 0, .int .i64 0]) ?_ 1 _ rfl; (with_reducible repeat (first | refine blk_drewN ?_ _ | refine blk_drew ?_ | refine blk_alloc ?_ _)); refine blk_put (cs := #[.int .i64 0, .int .i64 0, .int .i64 0]) ?_ 0 _ rfl; (with_reducible repeat (first | refine blk_drewN ?_ _ | refine blk_drew ?_ | refine blk_alloc ?_ _)); exact BK459.out⟩, ⟨by repeat (first | (with_reducible first | exact HB.out | apply below_alloc | apply pw_below_drewN | apply below_drew1 | refine below_set ?_ GE429.out | refine below_set ?_ GE438.out | refine below_set ?_ GE447.out | refine below_set ?_ GE452.out | refine below_set ?_ GE459.out) | exact HB.out)⟩⟩
                    · rw [if_neg c53] at H
                      have c53b0 : (!(t443 == t455) || (!(t444 == t456) || (!(t445 == t457)))) = false := by simpa using c53
                      clear c53
                      by_cases c63 : t458 = true
                      · subst c63
                        have H1 : (chattellaw10_MonthAdds.j2 k2 a1 (rd y439 x37_2) t451 y433 (y433.length : Int) x28_1 y439 (y439.length : Int) x37_2 false ((rd_T23 y433 x28_1).f0) ((rd_T23 y433 x28_1).f1) ((rd_T23 y433 x28_1).f2) t448 t449 t450) = some r := by rw [if_pos rfl] at H; exact H
                        clear H
                        have H := H1
                        clear H1
                        have H' := Aside0.mk H
                        clear H
                        have hnb64 := NB447_429.out
                        have hnc64 := NB429_447.out
                        have hnb65 := NB447_438.out
                        have hnc65 := NB438_447.out
                        have hnb66 := NB447_452.out
                        have hnc66 := NB452_447.out
                        have hnb67 := NB447_459.out
                        have hnc67 := NB459_447.out
                        have hcz68_0 : w46.cell? ⟨gb447, 0, none⟩ = some (.int .i64 t443) := (blk_cell BK447.out 0).trans rfl
                        have hcz68_1 : w46.cell? ⟨gb447, 1, none⟩ = some (.int .i64 t444) := (blk_cell BK447.out 1).trans rfl
                        have hcz68_2 : w46.cell? ⟨gb447, 2, none⟩ = some (.int .i64 t445) := (blk_cell BK447.out 2).trans rfl
                        have hfz68_0 := blk_frozen BK447.out 0
                        have hfz68_1 := blk_frozen BK447.out 1
                        have hfz68_2 := blk_frozen BK447.out 2
                        have hnb69 := NB459_429.out
                        have hnc69 := NB429_459.out
                        have hnb70 := NB459_438.out
                        have hnc70 := NB438_459.out
                        have hnb71 := NB459_452.out
                        have hnc71 := NB452_459.out
                        have hcz72_0 : w46.cell? ⟨gb459, 0, none⟩ = some (.int .i64 0) := (blk_cell BK459.out 0).trans rfl
                        have hcz72_1 : w46.cell? ⟨gb459, 1, none⟩ = some (.int .i64 0) := (blk_cell BK459.out 1).trans rfl
                        have hcz72_2 : w46.cell? ⟨gb459, 2, none⟩ = some (.int .i64 0) := (blk_cell BK459.out 2).trans rfl
                        have hfz72_0 := blk_frozen BK459.out 0
                        have hfz72_1 := blk_frozen BK459.out 1
                        have hfz72_2 := blk_frozen BK459.out 2
                        go_wp2
                        (refine Met.intro ?_; go_step; (repeat apply Exists.intro); refine ⟨?rel, ?frame⟩)
                        case frame => first | rfl | (rw [c53b0]; first | done | rfl) | (rw [c52b0]; first | done | rfl) | (rw [c21b0]; first | done | rfl) | (rw [c20b0]; first | done | rfl) | (simp only [c10b0, c11b0, c12b0, c19b0, c20b0, c21b0, c52b0, c53b0]; first | done | rfl)
                        case rel => exact ⟨_, (false), (by first | rfl | (simp; done) | (simp [*]; done)), H', ⟨by have := HK1.out; have := HK2.out; first | omega | exact Nat.le_refl _⟩, ⟨by (with_reducible repeat (first | apply Kd.R_alloc | apply Kd.R_drewN | apply Kd.R_drew)); exact Kd.R_mono (Kd.R_far (p := ⟨gb459, 2, none⟩) (Kd.R_far (p := ⟨gb459, 1, none⟩) (Kd.R_far (p := ⟨gb459, 0, none⟩) (Kd.R_mono HO_26.out (fun k_ hk => (⟨hk, hk.2⟩ : _ ∧ k_ ≠ gb459))) (fun _ hk => hk.2) (.int .i64 t455)) (fun _ hk => hk.2) (.int .i64 t456)) (fun _ hk => hk.2) (.int .i64 t457)) (fun _ hk => ⟨hk.1.1.1.1.1, ⟨hk.1.1.1.1.2, ⟨hk.1.1.1.2, ⟨hk.1.1.2, hk.1.2⟩⟩⟩⟩)⟩, ⟨by (with_reducible repeat (first | apply Kd.R_alloc | apply Kd.R_drewN | apply Kd.R_drew)); exact Kd.R_mono (Kd.R_far (p := ⟨gb459, 2, none⟩) (Kd.R_far (p := ⟨gb459, 1, none⟩) (Kd.R_far (p := ⟨gb459, 0, none⟩) (Kd.R_types HO_35.out BK459.out (by decide)) (fun _ hk => hk.2) (.int .i64 t455)) (fun _ hk => hk.2) (.int .i64 t456)) (fun _ hk => hk.2) (.int .i64 t457)) (fun _ hk => trivial)⟩, ⟨by (with_reducible repeat (first | refine blk_drewN ?_ _ | refine blk_drew ?_ | refine blk_alloc ?_ _)); refine blk_far ?_ NB429_459.out _; (with_reducible repeat (first | refine blk_drewN ?_ _ | refine blk_drew ?_ | refine blk_alloc ?_ _)); refine blk_far ?_ NB429_459.out _; (with_reducible repeat (first | refine blk_drewN ?_ _ | refine blk_drew ?_ | refine blk_alloc ?_ _)); refine blk_far ?_ NB429_459.out _; (with_reducible repeat (first | refine blk_drewN ?_ _ | refine blk_drew ?_ | refine blk_alloc ?_ _)); exact BK429.out⟩, ⟨by (with_reducible repeat (first | refine blk_drewN ?_ _ | refine blk_drew ?_ | refine blk_alloc ?_ _)); refine blk_far ?_ NB438_459.out _; (with_reducible repeat (first | refine blk_drewN ?_ _ | refine blk_drew ?_ | refine blk_alloc ?_ _)); refine blk_far ?_ NB438_459.out _; (with_reducible repeat (first | refine blk_drewN ?_ _ | refine blk_drew ?_ | refine blk_alloc ?_ _)); refine blk_far ?_ NB438_459.out _; (with_reducible repeat (first | refine blk_drewN ?_ _ | refine blk_drew ?_ | refine blk_alloc ?_ _)); exact BK438.out⟩, ⟨by (with_reducible repeat (first | refine blk_drewN ?_ _ | refine blk_drew ?_ | refine blk_alloc ?_ _)); refine blk_far ?_ NB447_459.out _; (with_reducible repeat (first | refine blk_drewN ?_ _ | refine blk_drew ?_ | refine blk_alloc ?_ _)); refine blk_far ?_ NB447_459.out _; (with_reducible repeat (first | refine blk_drewN ?_ _ | refine blk_drew ?_ | refine blk_alloc ?_ _)); refine blk_far ?_ NB447_459.out _; (with_reducible repeat (first | refine blk_drewN ?_ _ | refine blk_drew ?_ | refine blk_alloc ?_ _)); exact BK447.out⟩, ⟨by (with_reducible repeat (first | refine blk_drewN ?_ _ | refine blk_drew ?_ | refine blk_alloc ?_ _)); refine blk_far ?_ NB452_459.out _; (with_reducible repeat (first | refine blk_drewN ?_ _ | refine blk_drew ?_ | refine blk_alloc ?_ _)); refine blk_far ?_ NB452_459.out _; (with_reducible repeat (first | refine blk_drewN ?_ _ | refine blk_drew ?_ | refine blk_alloc ?_ _)); refine blk_far ?_ NB452_459.out _; (with_reducible repeat (first | refine blk_drewN ?_ _ | refine blk_drew ?_ | refine blk_alloc ?_ _)); exact BK452.out⟩, ⟨by (with_reducible repeat (first | refine blk_drewN ?_ _ | refine blk_drew ?_ | refine blk_alloc ?_ _)); refine blk_put (cs := #[.int .i64 t455, .int .i64 t456, .int .i64 0]) ?_ 2 _ rfl; (with_reducible repeat (first | refine blk_drewN ?_ _ | refine blk_drew ?_ | refine blk_alloc ?_ _)); refine blk_put (cs := #[.int .i64 t455, .int .i64 0, .int .i64 0]) ?_ 1 _ rfl; (with_reducible repeat (first | refine blk_drewN ?_ _ | refine blk_drew ?_ | refine blk_alloc ?_ _)); refine blk_put (cs := #[.int .i64 0, .int .i64 0, .int .i64 0]) ?_ 0 _ rfl; (with_reducible repeat (first | refine blk_drewN ?_ _ | refine blk_drew ?_ | refine blk_alloc ?_ _)); exact BK459.out⟩, ⟨by repeat (first | (with_reducible first | exact HB.out | apply below_alloc | apply pw_below_drewN | apply below_drew1 | refine below_set ?_ GE429.out | refine below_set ?_ GE438.out | refine below_set ?_ GE447.out | refine below_set ?_ GE452.out | refine below_set ?_ GE459.out) | exact HB.out)⟩⟩
                      · replace c63 := Bool.eq_false_iff.mpr c63
                        subst c63
                        have H1 : (chattellaw10_MonthAdds.j2 k2 a1 (rd y439 x37_2) t451 y433 (y433.length : Int) x28_1 y439 (y439.length : Int) x37_2 (t446 != 11) ((rd_T23 y433 x28_1).f0) ((rd_T23 y433 x28_1).f1) ((rd_T23 y433 x28_1).f2) t448 t449 t450) = some r := by rw [if_neg (show ¬ (false = true) by decide)] at H; exact H
                        clear H
                        have H := H1
                        clear H1
                        have H' := Aside0.mk H
                        clear H
                        have hnb73 := NB447_429.out
                        have hnc73 := NB429_447.out
                        have hnb74 := NB447_438.out
                        have hnc74 := NB438_447.out
                        have hnb75 := NB447_452.out
                        have hnc75 := NB452_447.out
                        have hnb76 := NB447_459.out
                        have hnc76 := NB459_447.out
                        have hcz77_0 : w46.cell? ⟨gb447, 0, none⟩ = some (.int .i64 t443) := (blk_cell BK447.out 0).trans rfl
                        have hcz77_1 : w46.cell? ⟨gb447, 1, none⟩ = some (.int .i64 t444) := (blk_cell BK447.out 1).trans rfl
                        have hcz77_2 : w46.cell? ⟨gb447, 2, none⟩ = some (.int .i64 t445) := (blk_cell BK447.out 2).trans rfl
                        have hfz77_0 := blk_frozen BK447.out 0
                        have hfz77_1 := blk_frozen BK447.out 1
                        have hfz77_2 := blk_frozen BK447.out 2
                        have hnb78 := NB459_429.out
                        have hnc78 := NB429_459.out
                        have hnb79 := NB459_438.out
                        have hnc79 := NB438_459.out
                        have hnb80 := NB459_452.out
                        have hnc80 := NB452_459.out
                        have hcz81_0 : w46.cell? ⟨gb459, 0, none⟩ = some (.int .i64 0) := (blk_cell BK459.out 0).trans rfl
                        have hcz81_1 : w46.cell? ⟨gb459, 1, none⟩ = some (.int .i64 0) := (blk_cell BK459.out 1).trans rfl
                        have hcz81_2 : w46.cell? ⟨gb459, 2, none⟩ = some (.int .i64 0) := (blk_cell BK459.out 2).trans rfl
                        have hfz81_0 := blk_frozen BK459.out 0
                        have hfz81_1 := blk_frozen BK459.out 1
                        have hfz81_2 := blk_frozen BK459.out 2
                        go_wp2
                        (refine Met.intro ?_; go_step; (repeat apply Exists.intro); refine ⟨?rel, ?frame⟩)
                        case frame => first | rfl | (rw [c53b0]; first | done | rfl) | (rw [c52b0]; first | done | rfl) | (rw [c21b0]; first | done | rfl) | (rw [c20b0]; first | done | rfl) | (simp only [c10b0, c11b0, c12b0, c19b0, c20b0, c21b0, c52b0, c53b0]; first | done | rfl)
                        case rel => exact ⟨_, ((t446 != 11)), (by first | rfl | (simp; done) | (simp [*]; done)), H', ⟨by have := HK1.out; have := HK2.out; first | omega | exact Nat.le_refl _⟩, ⟨by (with_reducible repeat (first | apply Kd.R_alloc | apply Kd.R_drewN | apply Kd.R_drew)); exact Kd.R_mono (Kd.R_far (p := ⟨gb459, 2, none⟩) (Kd.R_far (p := ⟨gb459, 1, none⟩) (Kd.R_far (p := ⟨gb459, 0, none⟩) (Kd.R_mono HO_26.out (fun k_ hk => (⟨hk, hk.2⟩ : _ ∧ k_ ≠ gb459))) (fun _ hk => hk.2) (.int .i64 t455)) (fun _ hk => hk.2) (.int .i64 t456)) (fun _ hk => hk.2) (.int .i64 t457)) (fun _ hk => ⟨hk.1.1.1.1.1, ⟨hk.1.1.1.1.2, ⟨hk.1.1.1.2, ⟨hk.1.1.2, hk.1.2⟩⟩⟩⟩)⟩, ⟨by (with_reducible repeat (first | apply Kd.R_alloc | apply Kd.R_drewN | apply Kd.R_drew)); exact Kd.R_mono (Kd.R_far (p := ⟨gb459, 2, none⟩) (Kd.R_far (p := ⟨gb459, 1, none⟩) (Kd.R_far (p := ⟨gb459, 0, none⟩) (Kd.R_types HO_35.out BK459.out (by decide)) (fun _ hk => hk.2) (.int .i64 t455)) (fun _ hk => hk.2) (.int .i64 t456)) (fun _ hk => hk.2) (.int .i64 t457)) (fun _ hk => trivial)⟩, ⟨by (with_reducible repeat (first | refine blk_drewN ?_ _ | refine blk_drew ?_ | refine blk_alloc ?_ _)); refine blk_far ?_ NB429_459.out _; (with_reducible repeat (first | refine blk_drewN ?_ _ | refine blk_drew ?_ | refine blk_alloc ?_ _)); refine blk_far ?_ NB429_459.out _; (with_reducible repeat (first | refine blk_drewN ?_ _ | refine blk_drew ?_ | refine blk_alloc ?_ _)); refine blk_far ?_ NB429_459.out _; (with_reducible repeat (first | refine blk_drewN ?_ _ | refine blk_drew ?_ | refine blk_alloc ?_ _)); exact BK429.out⟩, ⟨by (with_reducible repeat (first | refine blk_drewN ?_ _ | refine blk_drew ?_ | refine blk_alloc ?_ _)); refine blk_far ?_ NB438_459.out _; (with_reducible repeat (first | refine blk_drewN ?_ _ | refine blk_drew ?_ | refine blk_alloc ?_ _)); refine blk_far ?_ NB438_459.out _; (with_reducible repeat (first | refine blk_drewN ?_ _ | refine blk_drew ?_ | refine blk_alloc ?_ _)); refine blk_far ?_ NB438_459.out _; (with_reducible repeat (first | refine blk_drewN ?_ _ | refine blk_drew ?_ | refine blk_alloc ?_ _)); exact BK438.out⟩, ⟨by (with_reducible repeat (first | refine blk_drewN ?_ _ | refine blk_drew ?_ | refine blk_alloc ?_ _)); refine blk_far ?_ NB447_459.out _; (with_reducible repeat (first | refine blk_drewN ?_ _ | refine blk_drew ?_ | refine blk_alloc ?_ _)); refine blk_far ?_ NB447_459.out _; (with_reducible repeat (first | refine blk_drewN ?_ _ | refine blk_drew ?_ | refine blk_alloc ?_ _)); refine blk_far ?_ NB447_459.out _; (with_reducible repeat (first | refine blk_drewN ?_ _ | refine blk_drew ?_ | refine blk_alloc ?_ _)); exact BK447.out⟩, ⟨by (with_reducible repeat (first | refine blk_drewN ?_ _ | refine blk_drew ?_ | refine blk_alloc ?_ _)); refine blk_far ?_ NB452_459.out _; (with_reducible repeat (first | refine blk_drewN ?_ _ | refine blk_drew ?_ | refine blk_alloc ?_ _)); refine blk_far ?_ NB452_459.out _; (with_reducible repeat (first | refine blk_drewN ?_ _ | refine blk_drew ?_ | refine blk_alloc ?_ _)); refine blk_far ?_ NB452_459.out _; (with_reducible repeat (first | refine blk_drewN ?_ _ | refine blk_drew ?_ | refine blk_alloc ?_ _)); exact BK452.out⟩, ⟨by (with_reducible repeat (first | refine blk_drewN ?_ _ | refine blk_drew ?_ | refine blk_alloc ?_ _)); refine blk_put (cs := #[.int .i64 t455, .int .i64 t456, .int .i64 0]) ?_ 2 _ rfl; (with_reducible repeat (first | refine blk_drewN ?_ _ | refine blk_drew ?_ | refine blk_alloc ?_ _)); refine blk_put (cs := #[.int .i64 t455, .int .i64 0, .int .i64 0]) ?_ 1 _ rfl; (with_reducible repeat (first | refine blk_drewN ?_ _ | refine blk_drew ?_ | refine blk_alloc ?_ _)); refine blk_put (cs := #[.int .i64 0, .int .i64 0, .int .i64 0]) ?_ 0 _ rfl; (with_reducible repeat (first | refine blk_drewN ?_ _ | refine blk_drew ?_ | refine blk_alloc ?_ _)); exact BK459.out⟩, ⟨by repeat (first | (with_reducible first | exact HB.out | apply below_alloc | apply pw_below_drewN | apply below_drew1 | refine below_set ?_ GE429.out | refine below_set ?_ GE438.out | refine below_set ?_ GE447.out | refine below_set ?_ GE452.out | refine below_set ?_ GE459.out) | exact HB.out)⟩⟩
                case rest =>
                  clear HC27
                  try clear c1
                  try clear c2
                  try clear p2
                  try clear c3
                  try clear c4
                  try clear p4
                  try clear q4
                  try clear hx4
                  try clear c5
                  try clear c6
                  try clear p6
                  try clear c7
                  try clear c8
                  try clear c9
                  try clear c10
                  try clear c10b0
                  try clear c11
                  try clear c11b0
                  try clear c12
                  try clear c12b0
                  try clear c14
                  try clear c17
                  try clear c19
                  try clear c19b0
                  try clear c20
                  try clear c20b0
                  try clear c21
                  try clear c21b0
                  try clear c25
                  try clear c28
                  try clear c32
                  try clear c33
                  try clear c37
                  try clear c38
                  try clear c39
                  try clear c40
                  try clear p43
                  try clear q43
                  try clear hx43
                  try clear p44
                  try clear q44
                  try clear hx44
                  try clear c47
                  try clear c48
                  try clear c49
                  try clear c50
                  try clear c52
                  try clear c52b0
                  try clear c52b1
                  try clear c52b2
                  try clear c53
                  try clear c53b0
                  try clear c54
                  try clear c55
                  try clear c56
                  try clear c57
                  try clear c59
                  try clear c60
                  try clear c61
                  try clear c63
                  try clear c64
                  try clear p64
                  try clear c65
                  try clear c66
                  try clear c67
                  try clear c69
                  try clear c70
                  try clear c71
                  try clear c73
                  try clear c74
                  try clear c75
                  try clear c76
                  try clear c78
                  try clear c79
                  try clear c80
                  try clear hcz15_0
                  try clear hcz15_1
                  try clear hcz15_2
                  try clear hcz29_0
                  try clear hcz29_1
                  try clear hcz29_2
                  try clear hcz34_0
                  try clear hcz34_1
                  try clear hcz34_2
                  try clear hcz35_0
                  try clear hcz35_1
                  try clear hcz35_2
                  try clear hcz41_0
                  try clear hcz41_1
                  try clear hcz41_2
                  try clear hcz42_0
                  try clear hcz42_1
                  try clear hcz42_2
                  try clear hcz44_0
                  try clear hcz44_1
                  try clear hcz44_2
                  try clear hcz51_0
                  try clear hcz51_1
                  try clear hcz51_2
                  try clear hcz58_0
                  try clear hcz58_1
                  try clear hcz58_2
                  try clear hcz62_0
                  try clear hcz62_1
                  try clear hcz62_2
                  try clear hcz68_0
                  try clear hcz68_1
                  try clear hcz68_2
                  try clear hcz72_0
                  try clear hcz72_1
                  try clear hcz72_2
                  try clear hcz77_0
                  try clear hcz77_1
                  try clear hcz77_2
                  try clear hcz81_0
                  try clear hcz81_1
                  try clear hcz81_2
                  try clear hfz15_0
                  try clear hfz15_1
                  try clear hfz15_2
                  try clear hfz29_0
                  try clear hfz29_1
                  try clear hfz29_2
                  try clear hfz34_0
                  try clear hfz34_1
                  try clear hfz34_2
                  try clear hfz35_0
                  try clear hfz35_1
                  try clear hfz35_2
                  try clear hfz41_0
                  try clear hfz41_1
                  try clear hfz41_2
                  try clear hfz42_0
                  try clear hfz42_1
                  try clear hfz42_2
                  try clear hfz44_0
                  try clear hfz44_1
                  try clear hfz44_2
                  try clear hfz51_0
                  try clear hfz51_1
                  try clear hfz51_2
                  try clear hfz58_0
                  try clear hfz58_1
                  try clear hfz58_2
                  try clear hfz62_0
                  try clear hfz62_1
                  try clear hfz62_2
                  try clear hfz68_0
                  try clear hfz68_1
                  try clear hfz68_2
                  try clear hfz72_0
                  try clear hfz72_1
                  try clear hfz72_2
                  try clear hfz77_0
                  try clear hfz77_1
                  try clear hfz77_2
                  try clear hfz81_0
                  try clear hfz81_1
                  try clear hfz81_2
                  try clear hx437_0
                  try clear hx437_1
                  try clear hx437_2
                  try clear hx442_0
                  try clear p2
                  try clear p4
                  try clear p437
                  try clear p442
                  try clear q4
                  try clear q437
                  try clear q442
                  obtain ⟨kq, x98_26, rfl, HA, HJ26, HO_26, HO_35, BK429, BK438, BK447, BK452, BK459, HB⟩ := hcut
                  cases kq with
                  | zero => exact absurd HA.out (by simp [chattellaw10_MonthAdds.j2])
                  | succ kj26 =>
                    have H := HA.out
                    clear HA
                    simp only [chattellaw10_MonthAdds.j2] at H
                    by_cases c82 : x98_26 = true
                    · subst c82
                      have H1 : (some false) = some r := by rw [if_pos rfl] at H; exact H
                      clear H
                      have H := H1
                      clear H1
                      exact absurd (Option.some.inj H) (by rw [ht_]; decide)
                    · replace c82 := Bool.eq_false_iff.mpr c82
                      subst c82
                      have H1 : ((chattelref09_Number.f kj26 ((rd_T23 y433 x28_1).f0) ((rd_T23 y433 x28_1).f1) ((rd_T23 y433 x28_1).f2)).bind fun t460 => (if (rd y439 x37_2) ≥ (wrap64 (1 - t460)) then (chattellaw10_MonthAdds.j3 kj26 a1 (rd y439 x37_2) t451 t460 (decide ((rd y439 x37_2) ≤ (wrap64 (3652059 - t460)))) y433 (y433.length : Int) x28_1 y439 (y439.length : Int) x37_2 ((rd_T23 y433 x28_1).f0) ((rd_T23 y433 x28_1).f1) ((rd_T23 y433 x28_1).f2) t448 t449 t450) else (chattellaw10_MonthAdds.j3 kj26 a1 (rd y439 x37_2) t451 t460 false y433 (y433.length : Int) x28_1 y439 (y439.length : Int) x37_2 ((rd_T23 y433 x28_1).f0) ((rd_T23 y433 x28_1).f1) ((rd_T23 y433 x28_1).f2) t448 t449 t450))) = some r := by rw [if_neg (show ¬ (false = true) by decide)] at H; exact H
                      clear H
                      have H := H1
                      clear H1
                      replace H := Option.bind_eq_some_iff.mp H
                      obtain ⟨t460, A830, H⟩ := H
                      replace H : (if (rd y439 x37_2) ≥ (wrap64 (1 - t460)) then (chattellaw10_MonthAdds.j3 kj26 a1 (rd y439 x37_2) t451 t460 (decide ((rd y439 x37_2) ≤ (wrap64 (3652059 - t460)))) y433 (y433.length : Int) x28_1 y439 (y439.length : Int) x37_2 ((rd_T23 y433 x28_1).f0) ((rd_T23 y433 x28_1).f1) ((rd_T23 y433 x28_1).f2) t448 t449 t450) else (chattellaw10_MonthAdds.j3 kj26 a1 (rd y439 x37_2) t451 t460 false y433 (y433.length : Int) x28_1 y439 (y439.length : Int) x37_2 ((rd_T23 y433 x28_1).f0) ((rd_T23 y433 x28_1).f1) ((rd_T23 y433 x28_1).f2) t448 t449 t450)) = some r := H
                      have A83 := Aside0.mk A830
                      clear A830
                      have HC84 := Aside0.mk H
                      clear H
                      have hnb85 := NB438_429.out
                      have hnc85 := NB429_438.out
                      have hnb86 := NB438_447.out
                      have hnc86 := NB447_438.out
                      have hnb87 := NB438_452.out
                      have hnc87 := NB452_438.out
                      have hnb88 := NB438_459.out
                      have hnc88 := NB459_438.out
                      have hcz89_0 : wc.cell? ⟨gb438, 0, none⟩ = some (.int .i64 ((rd_T23 y433 x28_1).f0)) := (blk_cell BK438.out 0).trans rfl
                      have hcz89_1 : wc.cell? ⟨gb438, 1, none⟩ = some (.int .i64 ((rd_T23 y433 x28_1).f1)) := (blk_cell BK438.out 1).trans rfl
                      have hcz89_2 : wc.cell? ⟨gb438, 2, none⟩ = some (.int .i64 ((rd_T23 y433 x28_1).f2)) := (blk_cell BK438.out 2).trans rfl
                      have hfz89_0 := blk_frozen BK438.out 0
                      have hfz89_1 := blk_frozen BK438.out 1
                      have hfz89_2 := blk_frozen BK438.out 2
                      go_upto_region 16 with (first | ((with_reducible refine gate_callee (f := 30) rfl ?_); refine goesL_ (some 100) rfl rfl Try.func30 (by kernel_rfl) rfl #[.agg #[.int .i64 ((rd_T23 y433 x28_1).f0), .int .i64 ((rd_T23 y433 x28_1).f1), .int .i64 ((rd_T23 y433 x28_1).f2)]] rfl (by (try simp only [List.map_toArray, List.map_cons, List.map_nil]); first | done | rfl | (simp only [List.length_drop, List.length_take]; rfl)) ?_; (with_reducible refine (chattelref09_Number.calls kj26 ((rd_T23 y433 x28_1).f0) ((rd_T23 y433 x28_1).f1) ((rd_T23 y433 x28_1).f2) t460 _ A83.out).mono ?_); rintro e w90 ⟨rfl, hb⟩; refine ⟨_, rfl, ?_⟩; replace HO_26 := Aside0.mk (rb HO_26.out hb); replace HO_35 := Aside0.mk (rb HO_35.out hb); replace BK429 := Aside0.mk (bb BK429.out hb); replace BK438 := Aside0.mk (bb BK438.out hb); replace BK447 := Aside0.mk (bb BK447.out hb); replace BK452 := Aside0.mk (bb BK452.out hb); replace BK459 := Aside0.mk (bb BK459.out hb); replace HB := Aside0.mk (bs HB.out hb); (try clear hb); (try clear hb2); (try clear hk); (try clear hi)))
                      (try simp only [Act.put, List.setIfInBounds_toArray, List.set_cons_zero, List.set_cons_succ])
                      go_cut [16] (fun v16 wc => ∃ (kq : Nat) (x16_83 : Bool), v16 = .bool x16_83 ∧ Aside0 (chattellaw10_MonthAdds.j3 kq a1 (rd y439 x37_2) t451 t460 x16_83 y433 (y433.length : Int) x28_1 y439 (y439.length : Int) x37_2 ((rd_T23 y433 x28_1).f0) ((rd_T23 y433 x28_1).f1) ((rd_T23 y433 x28_1).f2) t448 t449 t450 = some r) ∧ Aside0 (kq ≤ kj26) ∧ Aside0 (Kd.R k23 23 wc w.heap.size (fun k_ => k_ ≠ gb429 ∧ k_ ≠ gb438 ∧ k_ ≠ gb447 ∧ k_ ≠ gb452 ∧ k_ ≠ gb459) (.slice (some ad437) y433.length co9) y433) ∧ Aside0 (Kd.R (Kd.int .i64) 3 wc w.heap.size (fun _ => True) (.slice (some ad442) y439.length co18) y439) ∧ Aside0 (wc.heap[gb429]? = some (.cells #[.int .i64 a0_0, .int .i64 a0_1, .int .i64 a0_2] 23 (0, 0))) ∧ Aside0 (wc.heap[gb438]? = some (.cells #[.int .i64 ((rd_T23 y433 x28_1).f0), .int .i64 ((rd_T23 y433 x28_1).f1), .int .i64 ((rd_T23 y433 x28_1).f2)] 23 (0, 0))) ∧ Aside0 (wc.heap[gb447]? = some (.cells #[.int .i64 t443, .int .i64 t444, .int .i64 t445] 23 (0, 0))) ∧ Aside0 (wc.heap[gb452]? = some (.cells #[.int .i64 t448, .int .i64 t449, .int .i64 t450] 23 (0, 0))) ∧ Aside0 (wc.heap[gb459]? = some (.cells #[.int .i64 t455, .int .i64 t456, .int .i64 t457] 23 (0, 0))) ∧ Aside0 (Below w.heap.size w wc))
                      case first =>
                        have H := HC84.out
                        clear HC84
                        by_cases c91 : (rd y439 x37_2) ≥ (wrap64 (1 - t460))
                        · rw [if_pos c91] at H
                          have c91b0 : decide ((wrap64 (1 - t460)) ≤ (rd y439 x37_2)) = true := decide_eq_true c91
                          clear c91
                          (first | rw [c91b0] | (simp only [i64_w, i32_w]; rw [c91b0]) | skip)
                          have H' := Aside0.mk H
                          clear H
                          go_wp2
                          (refine Met.intro ?_; go_step; (repeat apply Exists.intro); refine ⟨?rel, ?frame⟩)
                          case frame => first | rfl | (rw [c91b0]; first | done | rfl) | (rw [c21b0]; first | done | rfl) | (rw [c20b0]; first | done | rfl) | (rw [c19b0]; first | done | rfl) | (simp only [c10b0, c11b0, c12b0, c19b0, c20b0, c21b0, c91b0]; first | done | rfl)
                          case rel => exact ⟨_, (decide ((rd y439 x37_2) ≤ (wrap64 (3652059 - t460)))), (by first | rfl | (simp; done) | (simp [*]; done)), H', ⟨by have := HK1.out; have := HK2.out; have := HJ26.out; first | omega | exact Nat.le_refl _⟩, ⟨by (with_reducible repeat (first | apply Kd.R_alloc | apply Kd.R_drewN | apply Kd.R_drew)); exact HO_26.out⟩, ⟨by (with_reducible repeat (first | apply Kd.R_alloc | apply Kd.R_drewN | apply Kd.R_drew)); exact HO_35.out⟩, ⟨by (with_reducible repeat (first | refine blk_drewN ?_ _ | refine blk_drew ?_ | refine blk_alloc ?_ _)); exact BK429.out⟩, ⟨by (with_reducible repeat (first | refine blk_drewN ?_ _ | refine blk_drew ?_ | refine blk_alloc ?_ _)); exact BK438.out⟩, ⟨by (with_reducible repeat (first | refine blk_drewN ?_ _ | refine blk_drew ?_ | refine blk_alloc ?_ _)); exact BK447.out⟩, ⟨by (with_reducible repeat (first | refine blk_drewN ?_ _ | refine blk_drew ?_ | refine blk_alloc ?_ _)); exact BK452.out⟩, ⟨by (with_reducible repeat (first | refine blk_drewN ?_ _ | refine blk_drew ?_ | refine blk_alloc ?_ _)); exact BK459.out⟩, ⟨by repeat (first | (with_reducible first | exact HB.out | apply below_alloc | apply pw_below_drewN | apply below_drew1 | refine below_set ?_ GE429.out | refine below_set ?_ GE438.out | refine below_set ?_ GE447.out | refine below_set ?_ GE452.out | refine below_set ?_ GE459.out) | exact HB.out)⟩⟩
                        · rw [if_neg c91] at H
                          have c91b0 : decide ((wrap64 (1 - t460)) ≤ (rd y439 x37_2)) = false := decide_eq_false c91
                          clear c91
                          (first | rw [c91b0] | (simp only [i64_w, i32_w]; rw [c91b0]) | skip)
                          have H' := Aside0.mk H
                          clear H
                          go_wp2
                          (refine Met.intro ?_; go_step; (repeat apply Exists.intro); refine ⟨?rel, ?frame⟩)
                          case frame => first | rfl | (rw [c91b0]; first | done | rfl) | (rw [c21b0]; first | done | rfl) | (rw [c20b0]; first | done | rfl) | (rw [c19b0]; first | done | rfl) | (simp only [c10b0, c11b0, c12b0, c19b0, c20b0, c21b0, c91b0]; first | done | rfl)
                          case rel => exact ⟨_, (false), (by first | rfl | (simp; done) | (simp [*]; done)), H', ⟨by have := HK1.out; have := HK2.out; have := HJ26.out; first | omega | exact Nat.le_refl _⟩, ⟨by (with_reducible repeat (first | apply Kd.R_alloc | apply Kd.R_drewN | apply Kd.R_drew)); exact HO_26.out⟩, ⟨by (with_reducible repeat (first | apply Kd.R_alloc | apply Kd.R_drewN | apply Kd.R_drew)); exact HO_35.out⟩, ⟨by (with_reducible repeat (first | refine blk_drewN ?_ _ | refine blk_drew ?_ | refine blk_alloc ?_ _)); exact BK429.out⟩, ⟨by (with_reducible repeat (first | refine blk_drewN ?_ _ | refine blk_drew ?_ | refine blk_alloc ?_ _)); exact BK438.out⟩, ⟨by (with_reducible repeat (first | refine blk_drewN ?_ _ | refine blk_drew ?_ | refine blk_alloc ?_ _)); exact BK447.out⟩, ⟨by (with_reducible repeat (first | refine blk_drewN ?_ _ | refine blk_drew ?_ | refine blk_alloc ?_ _)); exact BK452.out⟩, ⟨by (with_reducible repeat (first | refine blk_drewN ?_ _ | refine blk_drew ?_ | refine blk_alloc ?_ _)); exact BK459.out⟩, ⟨by repeat (first | (with_reducible first | exact HB.out | apply below_alloc | apply pw_below_drewN | apply below_drew1 | refine below_set ?_ GE429.out | refine below_set ?_ GE438.out | refine below_set ?_ GE447.out | refine below_set ?_ GE452.out | refine below_set ?_ GE459.out) | exact HB.out)⟩⟩
                      case rest =>
                        clear HC84
                        try clear c1
                        try clear c2
                        try clear p2
                        try clear c3
                        try clear c4
                        try clear p4
                        try clear q4
                        try clear hx4
                        try clear c5
                        try clear c6
                        try clear p6
                        try clear c7
                        try clear c8
                        try clear c9
                        try clear c10
                        try clear c10b0
                        try clear c11
                        try clear c11b0
                        try clear c12
                        try clear c12b0
                        try clear c14
                        try clear c17
                        try clear c19
                        try clear c19b0
                        try clear c20
                        try clear c20b0
                        try clear c21
                        try clear c21b0
                        try clear c25
                        try clear c28
                        try clear c30
                        try clear c32
                        try clear c33
                        try clear c37
                        try clear c38
                        try clear c39
                        try clear c40
                        try clear p43
                        try clear q43
                        try clear hx43
                        try clear p44
                        try clear q44
                        try clear hx44
                        try clear c47
                        try clear c48
                        try clear c49
                        try clear c50
                        try clear c52
                        try clear c52b0
                        try clear c52b1
                        try clear c52b2
                        try clear c53
                        try clear c53b0
                        try clear c54
                        try clear c55
                        try clear c56
                        try clear c57
                        try clear c59
                        try clear c60
                        try clear c61
                        try clear c63
                        try clear c64
                        try clear p64
                        try clear c65
                        try clear c66
                        try clear c67
                        try clear c69
                        try clear c70
                        try clear c71
                        try clear c73
                        try clear c74
                        try clear c75
                        try clear c76
                        try clear c78
                        try clear c79
                        try clear c80
                        try clear c82
                        try clear c85
                        try clear c86
                        try clear c87
                        try clear c88
                        try clear c91
                        try clear c91b0
                        try clear hcz15_0
                        try clear hcz15_1
                        try clear hcz15_2
                        try clear hcz29_0
                        try clear hcz29_1
                        try clear hcz29_2
                        try clear hcz34_0
                        try clear hcz34_1
                        try clear hcz34_2
                        try clear hcz35_0
                        try clear hcz35_1
                        try clear hcz35_2
                        try clear hcz41_0
                        try clear hcz41_1
                        try clear hcz41_2
                        try clear hcz42_0
                        try clear hcz42_1
                        try clear hcz42_2
                        try clear hcz44_0
                        try clear hcz44_1
                        try clear hcz44_2
                        try clear hcz51_0
                        try clear hcz51_1
                        try clear hcz51_2
                        try clear hcz58_0
                        try clear hcz58_1
                        try clear hcz58_2
                        try clear hcz62_0
                        try clear hcz62_1
                        try clear hcz62_2
                        try clear hcz68_0
                        try clear hcz68_1
                        try clear hcz68_2
                        try clear hcz72_0
                        try clear hcz72_1
                        try clear hcz72_2
                        try clear hcz77_0
                        try clear hcz77_1
                        try clear hcz77_2
                        try clear hcz81_0
                        try clear hcz81_1
                        try clear hcz81_2
                        try clear hcz89_0
                        try clear hcz89_1
                        try clear hcz89_2
                        try clear hfz15_0
                        try clear hfz15_1
                        try clear hfz15_2
                        try clear hfz29_0
                        try clear hfz29_1
                        try clear hfz29_2
                        try clear hfz34_0
                        try clear hfz34_1
                        try clear hfz34_2
                        try clear hfz35_0
                        try clear hfz35_1
                        try clear hfz35_2
                        try clear hfz41_0
                        try clear hfz41_1
                        try clear hfz41_2
                        try clear hfz42_0
                        try clear hfz42_1
                        try clear hfz42_2
                        try clear hfz44_0
                        try clear hfz44_1
                        try clear hfz44_2
                        try clear hfz51_0
                        try clear hfz51_1
                        try clear hfz51_2
                        try clear hfz58_0
                        try clear hfz58_1
                        try clear hfz58_2
                        try clear hfz62_0
                        try clear hfz62_1
                        try clear hfz62_2
                        try clear hfz68_0
                        try clear hfz68_1
                        try clear hfz68_2
                        try clear hfz72_0
                        try clear hfz72_1
                        try clear hfz72_2
                        try clear hfz77_0
                        try clear hfz77_1
                        try clear hfz77_2
                        try clear hfz81_0
                        try clear hfz81_1
                        try clear hfz81_2
                        try clear hfz89_0
                        try clear hfz89_1
                        try clear hfz89_2
                        try clear hx437_0
                        try clear hx437_1
                        try clear hx437_2
                        try clear hx442_0
                        try clear p2
                        try clear p4
                        try clear p43
                        try clear p437
                        try clear p44
                        try clear p442
                        try clear p6
                        try clear p64
                        try clear q4
                        try clear q43
                        try clear q437
                        try clear q44
                        try clear q442
                        obtain ⟨kq, x16_83, rfl, HA, HJ83, HO_26, HO_35, BK429, BK438, BK447, BK452, BK459, HB⟩ := hcut
                        cases kq with
                        | zero => exact absurd HA.out (by simp [chattellaw10_MonthAdds.j3])
                        | succ kj83 =>
                          have H := HA.out
                          clear HA
                          simp only [chattellaw10_MonthAdds.j3] at H
                          have HC92 := Aside0.mk H
                          clear H
                          go_upto_region 17 with (fail)
                          go_cut [138] (fun v138 wc => ∃ (kq : Nat) (x138_91 : Bool), v138 = .bool x138_91 ∧ Aside0 (chattellaw10_MonthAdds.j4 kq a1 y433 (y433.length : Int) x28_1 y439 (y439.length : Int) x37_2 x138_91 ((rd_T23 y433 x28_1).f0) ((rd_T23 y433 x28_1).f1) ((rd_T23 y433 x28_1).f2) = some r) ∧ Aside0 (kq ≤ kj83) ∧ Aside0 (Kd.R k23 23 wc w.heap.size (fun k_ => k_ ≠ gb429 ∧ k_ ≠ gb438 ∧ k_ ≠ gb447 ∧ k_ ≠ gb452 ∧ k_ ≠ gb459) (.slice (some ad437) y433.length co9) y433) ∧ Aside0 (Kd.R (Kd.int .i64) 3 wc w.heap.size (fun _ => True) (.slice (some ad442) y439.length co18) y439) ∧ Aside0 (wc.heap[gb429]? = some (.cells #[.int .i64 a0_0, .int .i64 a0_1, .int .i64 a0_2] 23 (0, 0))) ∧ Aside0 (wc.heap[gb438]? = some (.cells #[.int .i64 ((rd_T23 y433 x28_1).f0), .int .i64 ((rd_T23 y433 x28_1).f1), .int .i64 ((rd_T23 y433 x28_1).f2)] 23 (0, 0))) ∧ Aside0 (wc.heap[gb447]? = some (.cells #[.int .i64 t443, .int .i64 t444, .int .i64 t445] 23 (0, 0))) ∧ Aside0 (wc.heap[gb452]? = some (.cells #[.int .i64 t448, .int .i64 t449, .int .i64 t450] 23 (0, 0))) ∧ Aside0 (wc.heap[gb459]? = some (.cells #[.int .i64 t455, .int .i64 t456, .int .i64 t457] 23 (0, 0))) ∧ Aside0 (Below w.heap.size w wc))
                          case first =>
                            have H := HC92.out
                            clear HC92
                            by_cases c93 : ((t451 == 0) != x16_83) = true
                            · rw [if_pos c93] at H
                              have c93b0 : ((t451 == 0) != x16_83) = true := c93
                              (try (have c93b1 : decide ((t451 == 0) = x16_83) = false := by simpa using c93))
                              (try (have c93b2 : ((t451 == 0) == x16_83) = false := by simpa using c93))
                              (try (have c93b3 : ¬ ((t451 == 0) = x16_83) := by simpa using c93))
                              clear c93
                              (first | rw [c93b0] | (simp only [i64_w, i32_w]; rw [c93b0]) | skip)
                              have H' := Aside0.mk H
                              clear H
                              go_wp2
                              (refine Met.intro ?_; go_step; (repeat apply Exists.intro); refine ⟨?rel, ?frame⟩)
                              case frame => first | rfl | (rw [c93b0]; first | done | rfl) | (rw [c21b0]; first | done | rfl) | (rw [c20b0]; first | done | rfl) | (rw [c19b0]; first | done | rfl) | (simp only [c10b0, c11b0, c12b0, c19b0, c20b0, c21b0, c93b0]; first | done | rfl)
                              case rel => exact ⟨_, (true), (by first | rfl | (simp; done) | (simp [*]; done)), H', ⟨by have := HK1.out; have := HK2.out; have := HJ26.out; have := HJ83.out; first | omega | exact Nat.le_refl _⟩, ⟨by (with_reducible repeat (first | apply Kd.R_alloc | apply Kd.R_drewN | apply Kd.R_drew)); exact HO_26.out⟩, ⟨by (with_reducible repeat (first | apply Kd.R_alloc | apply Kd.R_drewN | apply Kd.R_drew)); exact HO_35.out⟩, ⟨by (with_reducible repeat (first | refine blk_drewN ?_ _ | refine blk_drew ?_ | refine blk_alloc ?_ _)); exact BK429.out⟩, ⟨by (with_reducible repeat (first | refine blk_drewN ?_ _ | refine blk_drew ?_ | refine blk_alloc ?_ _)); exact BK438.out⟩, ⟨by (with_reducible repeat (first | refine blk_drewN ?_ _ | refine blk_drew ?_ | refine blk_alloc ?_ _)); exact BK447.out⟩, ⟨by (with_reducible repeat (first | refine blk_drewN ?_ _ | refine blk_drew ?_ | refine blk_alloc ?_ _)); exact BK452.out⟩, ⟨by (with_reducible repeat (first | refine blk_drewN ?_ _ | refine blk_drew ?_ | refine blk_alloc ?_ _)); exact BK459.out⟩, ⟨by repeat (first | (with_reducible first | exact HB.out | apply below_alloc | apply pw_below_drewN | apply below_drew1 | refine below_set ?_ GE429.out | refine below_set ?_ GE438.out | refine below_set ?_ GE447.out | refine below_set ?_ GE452.out | refine below_set ?_ GE459.out) | exact HB.out)⟩⟩
                            · rw [if_neg c93] at H
                              have c93b0 : ((t451 == 0) != x16_83) = false := by simpa using c93
                              (try (have c93b1 : decide ((t451 == 0) = x16_83) = true := by simpa using c93))
                              (try (have c93b2 : ((t451 == 0) == x16_83) = true := by simpa using c93))
                              clear c93
                              (first | rw [c93b0] | (simp only [i64_w, i32_w]; rw [c93b0]) | skip)
                              by_cases c94 : x16_83 = true
                              · subst c94
                                have H1 : ((chattelref09_Number.f kj83 t448 t449 t450).bind fun t461 => (if t461 = (wrap64 (t460 + (rd y439 x37_2))) then (chattellaw10_MonthAdds.j4 kj83 a1 y433 (y433.length : Int) x28_1 y439 (y439.length : Int) x37_2 false ((rd_T23 y433 x28_1).f0) ((rd_T23 y433 x28_1).f1) ((rd_T23 y433 x28_1).f2)) else (chattellaw10_MonthAdds.j4 kj83 a1 y433 (y433.length : Int) x28_1 y439 (y439.length : Int) x37_2 true ((rd_T23 y433 x28_1).f0) ((rd_T23 y433 x28_1).f1) ((rd_T23 y433 x28_1).f2)))) = some r := by rw [if_pos rfl] at H; exact H
                                clear H
                                have H := H1
                                clear H1
                                replace H := Option.bind_eq_some_iff.mp H
                                obtain ⟨t461, A950, H⟩ := H
                                replace H : (if t461 = (wrap64 (t460 + (rd y439 x37_2))) then (chattellaw10_MonthAdds.j4 kj83 a1 y433 (y433.length : Int) x28_1 y439 (y439.length : Int) x37_2 false ((rd_T23 y433 x28_1).f0) ((rd_T23 y433 x28_1).f1) ((rd_T23 y433 x28_1).f2)) else (chattellaw10_MonthAdds.j4 kj83 a1 y433 (y433.length : Int) x28_1 y439 (y439.length : Int) x37_2 true ((rd_T23 y433 x28_1).f0) ((rd_T23 y433 x28_1).f1) ((rd_T23 y433 x28_1).f2))) = some r := H
                                have A95 := Aside0.mk A950
                                clear A950
                                by_cases c96 : t461 = (wrap64 (t460 + (rd y439 x37_2)))
                                · rw [if_pos c96] at H
                                  have c96b0 : (t461 == (wrap64 (t460 + (rd y439 x37_2)))) = true := beq_iff_eq.mpr c96
                                  have c96b1 : (t461 != (wrap64 (t460 + (rd y439 x37_2)))) = false := bne_eq_false_iff_eq.mpr c96
                                  clear c96
                                  have H' := Aside0.mk H
                                  clear H
                                  have hnb97 := NB452_429.out
                                  have hnc97 := NB429_452.out
                                  have hnb98 := NB452_438.out
                                  have hnc98 := NB438_452.out
                                  have hnb99 := NB452_447.out
                                  have hnc99 := NB447_452.out
                                  have hnb100 := NB452_459.out
                                  have hnc100 := NB459_452.out
                                  have hcz101_0 : wc.cell? ⟨gb452, 0, none⟩ = some (.int .i64 t448) := (blk_cell BK452.out 0).trans rfl
                                  have hcz101_1 : wc.cell? ⟨gb452, 1, none⟩ = some (.int .i64 t449) := (blk_cell BK452.out 1).trans rfl
                                  have hcz101_2 : wc.cell? ⟨gb452, 2, none⟩ = some (.int .i64 t450) := (blk_cell BK452.out 2).trans rfl
                                  have hfz101_0 := blk_frozen BK452.out 0
                                  have hfz101_1 := blk_frozen BK452.out 1
                                  have hfz101_2 := blk_frozen BK452.out 2
                                  go_wp2_with (first | (go_at_call 30; (with_reducible refine (chattelref09_Number.calls kj83 t448 t449 t450 t461 _ A95.out).mono ?_); rintro e w102 ⟨rfl, hb⟩; replace HO_26 := Aside0.mk (rb HO_26.out hb); replace HO_35 := Aside0.mk (rb HO_35.out hb); replace BK429 := Aside0.mk (bb BK429.out hb); replace BK438 := Aside0.mk (bb BK438.out hb); replace BK447 := Aside0.mk (bb BK447.out hb); replace BK452 := Aside0.mk (bb BK452.out hb); replace BK459 := Aside0.mk (bb BK459.out hb); replace HB := Aside0.mk (bs HB.out hb); (try clear hb); (try clear hb2); (try clear hk); (try clear hi)))
                                  (refine Met.intro ?_; go_step; (repeat apply Exists.intro); refine ⟨?rel, ?frame⟩)
                                  case frame => first | rfl | (rw [c96b1]; first | done | rfl) | (rw [c96b0]; first | done | rfl) | (rw [c93b0]; first | done | rfl) | (rw [c21b0]; first | done | rfl) | (simp only [c10b0, c11b0, c12b0, c19b0, c20b0, c21b0, c93b0, c96b0, c96b1]; first | done | rfl)
                                  case rel => exact ⟨_, (false), (by first | rfl | (simp; done) | (simp [*]; done)), H', ⟨by have := HK1.out; have := HK2.out; have := HJ26.out; have := HJ83.out; first | omega | exact Nat.le_refl _⟩, ⟨by (with_reducible repeat (first | apply Kd.R_alloc | apply Kd.R_drewN | apply Kd.R_drew)); exact HO_26.out⟩, ⟨by (with_reducible repeat (first | apply Kd.R_alloc | apply Kd.R_drewN | apply Kd.R_drew)); exact HO_35.out⟩, ⟨by (with_reducible repeat (first | refine blk_drewN ?_ _ | refine blk_drew ?_ | refine blk_alloc ?_ _)); exact BK429.out⟩, ⟨by (with_reducible repeat (first | refine blk_drewN ?_ _ | refine blk_drew ?_ | refine blk_alloc ?_ _)); exact BK438.out⟩, ⟨by (with_reducible repeat (first | refine blk_drewN ?_ _ | refine blk_drew ?_ | refine blk_alloc ?_ _)); exact BK447.out⟩, ⟨by (with_reducible repeat (first | refine blk_drewN ?_ _ | refine blk_drew ?_ | refine blk_alloc ?_ _)); exact BK452.out⟩, ⟨by (with_reducible repeat (first | refine blk_drewN ?_ _ | refine blk_drew ?_ | refine blk_alloc ?_ _)); exact BK459.out⟩, ⟨by repeat (first | (with_reducible first | exact HB.out | apply below_alloc | apply pw_below_drewN | apply below_drew1 | refine below_set ?_ GE429.out | refine below_set ?_ GE438.out | refine below_set ?_ GE447.out | refine below_set ?_ GE452.out | refine below_set ?_ GE459.out) | exact HB.out)⟩⟩
                                · rw [if_neg c96] at H
                                  have c96b0 : (t461 == (wrap64 (t460 + (rd y439 x37_2)))) = false := beq_eq_false_iff_ne.mpr c96
                                  have c96b1 : (t461 != (wrap64 (t460 + (rd y439 x37_2)))) = true := bne_iff_ne.mpr c96
                                  have H' := Aside0.mk H
                                  clear H
                                  have hnb103 := NB452_429.out
                                  have hnc103 := NB429_452.out
                                  have hnb104 := NB452_438.out
                                  have hnc104 := NB438_452.out
                                  have hnb105 := NB452_447.out
                                  have hnc105 := NB447_452.out
                                  have hnb106 := NB452_459.out
                                  have hnc106 := NB459_452.out
                                  have hcz107_0 : wc.cell? ⟨gb452, 0, none⟩ = some (.int .i64 t448) := (blk_cell BK452.out 0).trans rfl
                                  have hcz107_1 : wc.cell? ⟨gb452, 1, none⟩ = some (.int .i64 t449) := (blk_cell BK452.out 1).trans rfl
                                  have hcz107_2 : wc.cell? ⟨gb452, 2, none⟩ = some (.int .i64 t450) := (blk_cell BK452.out 2).trans rfl
                                  have hfz107_0 := blk_frozen BK452.out 0
                                  have hfz107_1 := blk_frozen BK452.out 1
                                  have hfz107_2 := blk_frozen BK452.out 2
                                  go_wp2_with (first | (go_at_call 30; (with_reducible refine (chattelref09_Number.calls kj83 t448 t449 t450 t461 _ A95.out).mono ?_); rintro e w108 ⟨rfl, hb⟩; replace HO_26 := Aside0.mk (rb HO_26.out hb); replace HO_35 := Aside0.mk (rb HO_35.out hb); replace BK429 := Aside0.mk (bb BK429.out hb); replace BK438 := Aside0.mk (bb BK438.out hb); replace BK447 := Aside0.mk (bb BK447.out hb); replace BK452 := Aside0.mk (bb BK452.out hb); replace BK459 := Aside0.mk (bb BK459.out hb); replace HB := Aside0.mk (bs HB.out hb); (try clear hb); (try clear hb2); (try clear hk); (try clear hi)))
                                  (refine Met.intro ?_; go_step; (repeat apply Exists.intro); refine ⟨?rel, ?frame⟩)
                                  case frame => first | rfl | (rw [c96b1]; first | done | rfl) | (rw [c96b0]; first | done | rfl) | (rw [c93b0]; first | done | rfl) | (rw [c21b0]; first | done | rfl) | (simp only [c10b0, c11b0, c12b0, c19b0, c20b0, c21b0, c93b0, c96b0, c96b1]; first | done | rfl)
                                  case rel => exact ⟨_, (true), (by first | rfl | (simp; done) | (simp [*]; done)), H', ⟨by have := HK1.out; have := HK2.out; have := HJ26.out; have := HJ83.out; first | omega | exact Nat.le_refl _⟩, ⟨by (with_reducible repeat (first | apply Kd.R_alloc | apply Kd.R_drewN | apply Kd.R_drew)); exact HO_26.out⟩, ⟨by (with_reducible repeat (first | apply Kd.R_alloc | apply Kd.R_drewN | apply Kd.R_drew)); exact HO_35.out⟩, ⟨by (with_reducible repeat (first | refine blk_drewN ?_ _ | refine blk_drew ?_ | refine blk_alloc ?_ _)); exact BK429.out⟩, ⟨by (with_reducible repeat (first | refine blk_drewN ?_ _ | refine blk_drew ?_ | refine blk_alloc ?_ _)); exact BK438.out⟩, ⟨by (with_reducible repeat (first | refine blk_drewN ?_ _ | refine blk_drew ?_ | refine blk_alloc ?_ _)); exact BK447.out⟩, ⟨by (with_reducible repeat (first | refine blk_drewN ?_ _ | refine blk_drew ?_ | refine blk_alloc ?_ _)); exact BK452.out⟩, ⟨by (with_reducible repeat (first | refine blk_drewN ?_ _ | refine blk_drew ?_ | refine blk_alloc ?_ _)); exact BK459.out⟩, ⟨by repeat (first | (with_reducible first | exact HB.out | apply below_alloc | apply pw_below_drewN | apply below_drew1 | refine below_set ?_ GE429.out | refine below_set ?_ GE438.out | refine below_set ?_ GE447.out | refine below_set ?_ GE452.out | refine below_set ?_ GE459.out) | exact HB.out)⟩⟩
                              · replace c94 := Bool.eq_false_iff.mpr c94
                                subst c94
                                have H1 : (if t451 = 11 then (chattellaw10_MonthAdds.j4 kj83 a1 y433 (y433.length : Int) x28_1 y439 (y439.length : Int) x37_2 (!(t448 == 0) || (!(t449 == 0) || (!(t450 == 0)))) ((rd_T23 y433 x28_1).f0) ((rd_T23 y433 x28_1).f1) ((rd_T23 y433 x28_1).f2)) else (chattellaw10_MonthAdds.j4 kj83 a1 y433 (y433.length : Int) x28_1 y439 (y439.length : Int) x37_2 true ((rd_T23 y433 x28_1).f0) ((rd_T23 y433 x28_1).f1) ((rd_T23 y433 x28_1).f2))) = some r := by rw [if_neg (show ¬ (false = true) by decide)] at H; exact H
                                clear H
                                have H := H1
                                clear H1
                                by_cases c109 : t451 = 11
                                · rw [if_pos c109] at H
                                  have c109b0 : (t451 == 11) = true := beq_iff_eq.mpr c109
                                  have c109b1 : (t451 != 11) = false := bne_eq_false_iff_eq.mpr c109
                                  clear c109
                                  have H' := Aside0.mk H
                                  clear H
                                  have hnb110 := NB452_429.out
                                  have hnc110 := NB429_452.out
                                  have hnb111 := NB452_438.out
                                  have hnc111 := NB438_452.out
                                  have hnb112 := NB452_447.out
                                  have hnc112 := NB447_452.out
                                  have hnb113 := NB452_459.out
                                  have hnc113 := NB459_452.out
                                  have hcz114_0 : wc.cell? ⟨gb452, 0, none⟩ = some (.int .i64 t448) := (blk_cell BK452.out 0).trans rfl
                                  have hcz114_1 : wc.cell? ⟨gb452, 1, none⟩ = some (.int .i64 t449) := (blk_cell BK452.out 1).trans rfl
                                  have hcz114_2 : wc.cell? ⟨gb452, 2, none⟩ = some (.int .i64 t450) := (blk_cell BK452.out 2).trans rfl
                                  have hfz114_0 := blk_frozen BK452.out 0
                                  have hfz114_1 := blk_frozen BK452.out 1
                                  have hfz114_2 := blk_frozen BK452.out 2
                                  go_wp2
                                  (refine Met.intro ?_; go_step; (repeat apply Exists.intro); refine ⟨?rel, ?frame⟩)
                                  case frame => first | rfl | (rw [c109b1]; first | done | rfl) | (rw [c109b0]; first | done | rfl) | (rw [c93b0]; first | done | rfl) | (rw [c21b0]; first | done | rfl) | (simp only [c10b0, c11b0, c12b0, c19b0, c20b0, c21b0, c93b0, c109b0, c109b1]; first | done | rfl)
                                  case rel => exact ⟨_, ((!(t448 == 0) || (!(t449 == 0) || (!(t450 == 0))))), (by first | rfl | (simp; done) | (simp [*]; done)), H', ⟨by have := HK1.out; have := HK2.out; have := HJ26.out; have := HJ83.out; first | omega | exact Nat.le_refl _⟩, ⟨by (with_reducible repeat (first | apply Kd.R_alloc | apply Kd.R_drewN | apply Kd.R_drew)); exact HO_26.out⟩, ⟨by (with_reducible repeat (first | apply Kd.R_alloc | apply Kd.R_drewN | apply Kd.R_drew)); exact HO_35.out⟩, ⟨by (with_reducible repeat (first | refine blk_drewN ?_ _ | refine blk_drew ?_ | refine blk_alloc ?_ _)); exact BK429.out⟩, ⟨by (with_reducible repeat (first | refine blk_drewN ?_ _ | refine blk_drew ?_ | refine blk_alloc ?_ _)); exact BK438.out⟩, ⟨by (with_reducible repeat (first | refine blk_drewN ?_ _ | refine blk_drew ?_ | refine blk_alloc ?_ _)); exact BK447.out⟩, ⟨by (with_reducible repeat (first | refine blk_drewN ?_ _ | refine blk_drew ?_ | refine blk_alloc ?_ _)); exact BK452.out⟩, ⟨by (with_reducible repeat (first | refine blk_drewN ?_ _ | refine blk_drew ?_ | refine blk_alloc ?_ _)); exact BK459.out⟩, ⟨by repeat (first | (with_reducible first | exact HB.out | apply below_alloc | apply pw_below_drewN | apply below_drew1 | refine below_set ?_ GE429.out | refine below_set ?_ GE438.out | refine below_set ?_ GE447.out | refine below_set ?_ GE452.out | refine below_set ?_ GE459.out) | exact HB.out)⟩⟩
                                · rw [if_neg c109] at H
                                  have c109b0 : (t451 == 11) = false := beq_eq_false_iff_ne.mpr c109
                                  have c109b1 : (t451 != 11) = true := bne_iff_ne.mpr c109
                                  have H' := Aside0.mk H
                                  clear H
                                  go_wp2
                                  (refine Met.intro ?_; go_step; (repeat apply Exists.intro); refine ⟨?rel, ?frame⟩)
                                  case frame => first | rfl | (rw [c109b1]; first | done | rfl) | (rw [c109b0]; first | done | rfl) | (rw [c93b0]; first | done | rfl) | (rw [c21b0]; first | done | rfl) | (simp only [c10b0, c11b0, c12b0, c19b0, c20b0, c21b0, c93b0, c109b0, c109b1]; first | done | rfl)
                                  case rel => exact ⟨_, (true), (by first | rfl | (simp; done) | (simp [*]; done)), H', ⟨by have := HK1.out; have := HK2.out; have := HJ26.out; have := HJ83.out; first | omega | exact Nat.le_refl _⟩, ⟨by (with_reducible repeat (first | apply Kd.R_alloc | apply Kd.R_drewN | apply Kd.R_drew)); exact HO_26.out⟩, ⟨by (with_reducible repeat (first | apply Kd.R_alloc | apply Kd.R_drewN | apply Kd.R_drew)); exact HO_35.out⟩, ⟨by (with_reducible repeat (first | refine blk_drewN ?_ _ | refine blk_drew ?_ | refine blk_alloc ?_ _)); exact BK429.out⟩, ⟨by (with_reducible repeat (first | refine blk_drewN ?_ _ | refine blk_drew ?_ | refine blk_alloc ?_ _)); exact BK438.out⟩, ⟨by (with_reducible repeat (first | refine blk_drewN ?_ _ | refine blk_drew ?_ | refine blk_alloc ?_ _)); exact BK447.out⟩, ⟨by (with_reducible repeat (first | refine blk_drewN ?_ _ | refine blk_drew ?_ | refine blk_alloc ?_ _)); exact BK452.out⟩, ⟨by (with_reducible repeat (first | refine blk_drewN ?_ _ | refine blk_drew ?_ | refine blk_alloc ?_ _)); exact BK459.out⟩, ⟨by repeat (first | (with_reducible first | exact HB.out | apply below_alloc | apply pw_below_drewN | apply below_drew1 | refine below_set ?_ GE429.out | refine below_set ?_ GE438.out | refine below_set ?_ GE447.out | refine below_set ?_ GE452.out | refine below_set ?_ GE459.out) | exact HB.out)⟩⟩
                          case rest =>
                            clear HC92
                            try clear c1
                            try clear c2
                            try clear p2
                            try clear c3
                            try clear c4
                            try clear p4
                            try clear q4
                            try clear hx4
                            try clear c5
                            try clear c6
                            try clear p6
                            try clear c7
                            try clear c8
                            try clear c9
                            try clear c10
                            try clear c10b0
                            try clear c11
                            try clear c11b0
                            try clear c12
                            try clear c12b0
                            try clear c14
                            try clear c17
                            try clear c19
                            try clear c19b0
                            try clear c20
                            try clear c20b0
                            try clear c21
                            try clear c21b0
                            try clear c25
                            try clear c28
                            try clear c30
                            try clear c32
                            try clear c33
                            try clear c37
                            try clear c38
                            try clear c39
                            try clear c40
                            try clear p43
                            try clear q43
                            try clear hx43
                            try clear p44
                            try clear q44
                            try clear hx44
                            try clear c47
                            try clear c48
                            try clear c49
                            try clear c50
                            try clear c52
                            try clear c52b0
                            try clear c52b1
                            try clear c52b2
                            try clear c53
                            try clear c53b0
                            try clear c54
                            try clear c55
                            try clear c56
                            try clear c57
                            try clear c59
                            try clear c60
                            try clear c61
                            try clear c63
                            try clear c64
                            try clear p64
                            try clear c65
                            try clear c66
                            try clear c67
                            try clear c69
                            try clear c70
                            try clear c71
                            try clear c73
                            try clear c74
                            try clear c75
                            try clear c76
                            try clear c78
                            try clear c79
                            try clear c80
                            try clear c82
                            try clear c85
                            try clear c86
                            try clear c87
                            try clear c88
                            try clear c91
                            try clear c91b0
                            try clear c93
                            try clear c93b0
                            try clear c93b1
                            try clear c93b2
                            try clear c94
                            try clear c96
                            try clear c96b0
                            try clear c96b1
                            try clear c97
                            try clear c98
                            try clear c99
                            try clear c100
                            try clear c103
                            try clear c104
                            try clear c105
                            try clear c106
                            try clear c109
                            try clear c109b0
                            try clear c109b1
                            try clear c110
                            try clear c111
                            try clear c112
                            try clear c113
                            try clear hcz101_0
                            try clear hcz101_1
                            try clear hcz101_2
                            try clear hcz107_0
                            try clear hcz107_1
                            try clear hcz107_2
                            try clear hcz114_0
                            try clear hcz114_1
                            try clear hcz114_2
                            try clear hcz15_0
                            try clear hcz15_1
                            try clear hcz15_2
                            try clear hcz29_0
                            try clear hcz29_1
                            try clear hcz29_2
                            try clear hcz34_0
                            try clear hcz34_1
                            try clear hcz34_2
                            try clear hcz35_0
                            try clear hcz35_1
                            try clear hcz35_2
                            try clear hcz41_0
                            try clear hcz41_1
                            try clear hcz41_2
                            try clear hcz42_0
                            try clear hcz42_1
                            try clear hcz42_2
                            try clear hcz44_0
                            try clear hcz44_1
                            try clear hcz44_2
                            try clear hcz51_0
                            try clear hcz51_1
                            try clear hcz51_2
                            try clear hcz58_0
                            try clear hcz58_1
                            try clear hcz58_2
                            try clear hcz62_0
                            try clear hcz62_1
                            try clear hcz62_2
                            try clear hcz68_0
                            try clear hcz68_1
                            try clear hcz68_2
                            try clear hcz72_0
                            try clear hcz72_1
                            try clear hcz72_2
                            try clear hcz77_0
                            try clear hcz77_1
                            try clear hcz77_2
                            try clear hcz81_0
                            try clear hcz81_1
                            try clear hcz81_2
                            try clear hcz89_0
                            try clear hcz89_1
                            try clear hcz89_2
                            try clear hfz101_0
                            try clear hfz101_1
                            try clear hfz101_2
                            try clear hfz107_0
                            try clear hfz107_1
                            try clear hfz107_2
                            try clear hfz114_0
                            try clear hfz114_1
                            try clear hfz114_2
                            try clear hfz15_0
                            try clear hfz15_1
                            try clear hfz15_2
                            try clear hfz29_0
                            try clear hfz29_1
                            try clear hfz29_2
                            try clear hfz34_0
                            try clear hfz34_1
                            try clear hfz34_2
                            try clear hfz35_0
                            try clear hfz35_1
                            try clear hfz35_2
                            try clear hfz41_0
                            try clear hfz41_1
                            try clear hfz41_2
                            try clear hfz42_0
                            try clear hfz42_1
                            try clear hfz42_2
                            try clear hfz44_0
                            try clear hfz44_1
                            try clear hfz44_2
                            try clear hfz51_0
                            try clear hfz51_1
                            try clear hfz51_2
                            try clear hfz58_0
                            try clear hfz58_1
                            try clear hfz58_2
                            try clear hfz62_0
                            try clear hfz62_1
                            try clear hfz62_2
                            try clear hfz68_0
                            try clear hfz68_1
                            try clear hfz68_2
                            try clear hfz72_0
                            try clear hfz72_1
                            try clear hfz72_2
                            try clear hfz77_0
                            try clear hfz77_1
                            try clear hfz77_2
                            try clear hfz81_0
                            try clear hfz81_1
                            try clear hfz81_2
                            try clear hfz89_0
                            try clear hfz89_1
                            try clear hfz89_2
                            try clear hx437_0
                            try clear hx437_1
                            try clear hx437_2
                            try clear hx442_0
                            try clear p2
                            try clear p4
                            try clear p43
                            try clear p437
                            try clear p44
                            try clear p442
                            try clear p6
                            try clear p64
                            try clear q4
                            try clear q43
                            try clear q437
                            try clear q44
                            try clear q442
                            obtain ⟨kq, x138_91, rfl, HA, HJ91, HO_26, HO_35, BK429, BK438, BK447, BK452, BK459, HB⟩ := hcut
                            cases kq with
                            | zero => exact absurd HA.out (by simp [chattellaw10_MonthAdds.j4])
                            | succ kj91 =>
                              have H := HA.out
                              clear HA
                              simp only [chattellaw10_MonthAdds.j4] at H
                              by_cases c115 : x138_91 = true
                              · subst c115
                                have H1 : (some false) = some r := by rw [if_pos rfl] at H; exact H
                                clear H
                                have H := H1
                                clear H1
                                exact absurd (Option.some.inj H) (by rw [ht_]; decide)
                              · replace c115 := Bool.eq_false_iff.mpr c115
                                subst c115
                                have H1 : ((month_End.f kj91 ((rd_T23 y433 x28_1).f0) ((rd_T23 y433 x28_1).f1) ((rd_T23 y433 x28_1).f2)).bind fun t462 => ((chattelref09_Days.f kj91 ((rd_T23 y433 x28_1).f0) ((rd_T23 y433 x28_1).f1)).bind fun t463 => (if (t462 != (((rd_T23 y433 x28_1).f2) == t463)) = true then (some false) else (chattellaw10_MonthAdds.l1 kj91 a1 y433 (y433.length : Int) x28_1 y439 (y439.length : Int) (wrap64 (x37_2 + 1)) ((rd_T23 y433 x28_1).f0) ((rd_T23 y433 x28_1).f1) ((rd_T23 y433 x28_1).f2))))) = some r := by rw [if_neg (show ¬ (false = true) by decide)] at H; exact H
                                clear H
                                have H := H1
                                clear H1
                                replace H := Option.bind_eq_some_iff.mp H
                                obtain ⟨t462, A1160, H⟩ := H
                                replace H : ((chattelref09_Days.f kj91 ((rd_T23 y433 x28_1).f0) ((rd_T23 y433 x28_1).f1)).bind fun t463 => (if (t462 != (((rd_T23 y433 x28_1).f2) == t463)) = true then (some false) else (chattellaw10_MonthAdds.l1 kj91 a1 y433 (y433.length : Int) x28_1 y439 (y439.length : Int) (wrap64 (x37_2 + 1)) ((rd_T23 y433 x28_1).f0) ((rd_T23 y433 x28_1).f1) ((rd_T23 y433 x28_1).f2)))) = some r := H
                                have A116 := Aside0.mk A1160
                                clear A1160
                                replace H := Option.bind_eq_some_iff.mp H
                                obtain ⟨t463, A1170, H⟩ := H
                                replace H : (if (t462 != (((rd_T23 y433 x28_1).f2) == t463)) = true then (some false) else (chattellaw10_MonthAdds.l1 kj91 a1 y433 (y433.length : Int) x28_1 y439 (y439.length : Int) (wrap64 (x37_2 + 1)) ((rd_T23 y433 x28_1).f0) ((rd_T23 y433 x28_1).f1) ((rd_T23 y433 x28_1).f2))) = some r := H
                                have A117 := Aside0.mk A1170
                                clear A1170
                                by_cases c118 : (t462 != (((rd_T23 y433 x28_1).f2) == t463)) = true
                                · rw [if_pos c118] at H
                                  have c118b0 : (t462 != (((rd_T23 y433 x28_1).f2) == t463)) = true := c118
                                  (try (have c118b1 : decide (t462 = (((rd_T23 y433 x28_1).f2) == t463)) = false := by simpa using c118))
                                  (try (have c118b2 : (t462 == (((rd_T23 y433 x28_1).f2) == t463)) = false := by simpa using c118))
                                  (try (have c118b3 : ¬ (t462 = (((rd_T23 y433 x28_1).f2) == t463)) := by simpa using c118))
                                  clear c118
                                  exact absurd (Option.some.inj H) (by rw [ht_]; decide)
                                · rw [if_neg c118] at H
                                  have c118b0 : (t462 != (((rd_T23 y433 x28_1).f2) == t463)) = false := by simpa using c118
                                  (try (have c118b1 : decide (t462 = (((rd_T23 y433 x28_1).f2) == t463)) = true := by simpa using c118))
                                  (try (have c118b2 : (t462 == (((rd_T23 y433 x28_1).f2) == t463)) = true := by simpa using c118))
                                  clear c118
                                  have H' := Aside0.mk H
                                  clear H
                                  try go_wp2
                                  replace HO_26 := Aside0.mk (Kd.R_drew HO_26.out)
                                  replace HO_35 := Aside0.mk (Kd.R_drew HO_35.out)
                                  replace BK429 := Aside0.mk (blk_drew BK429.out)
                                  replace BK438 := Aside0.mk (blk_drew BK438.out)
                                  replace BK447 := Aside0.mk (blk_drew BK447.out)
                                  replace BK452 := Aside0.mk (blk_drew BK452.out)
                                  replace BK459 := Aside0.mk (blk_drew BK459.out)
                                  replace HB := Aside0.mk (below_drew1 HB.out)
                                  refine start_ (n := 11) (S := fun w' => w'.cell? ⟨gb438, 0, none⟩ = some (.int .i64 ((rd_T23 y433 x28_1).f0)) ∧ w'.cell? ⟨gb438, 1, none⟩ = some (.int .i64 ((rd_T23 y433 x28_1).f1)) ∧ w'.cell? ⟨gb438, 2, none⟩ = some (.int .i64 ((rd_T23 y433 x28_1).f2))) (ds := []) (fl 0 11 []) (by kernel_rfl) rfl rfl ⟨(blk_cell BK438.out 0).trans rfl, (blk_cell BK438.out 1).trans rfl, (blk_cell BK438.out 2).trans rfl⟩ (fun hHeld => ?_); refine with_tabW chattellaw10_MonthAdds.tab19 chattellaw10_MonthAdds.bits19 (fun HT_ HW_ => ?_)
                                  generalize wc.drew = w119 at HO_26 HO_35 BK429 BK438 BK447 BK452 BK459 HB hHeld ⊢
                                  refine pure_ (i := 2) (N := some 141) (v := ?_) (a' := ?_) (fl 0 11 [2]) rfl rfl (any_of HT_.out (by kernel_rfl)) (fun _ _ _ h => h) (Or.inl ⟨by rfl, ?_⟩) ?_ ?_
                                  rotate_left
                                  · intro w'
                                    go_simp
                                    with_reducible rfl
                                  rotate_left
                                  · simp only [Act.put, List.setIfInBounds_toArray, List.set_cons_zero, List.set_cons_succ, i64_w, i32_w]
                                    rfl
                                  refine pure_ (i := 4) (N := some 143) (v := ?_) (a' := ?_) (fl 0 11 [2, 4]) rfl rfl (any_of HT_.out (by kernel_rfl)) (fun _ _ _ h => h) (Or.inl ⟨by rfl, ?_⟩) ?_ ?_
                                  rotate_left
                                  · intro w'
                                    go_simp
                                    with_reducible rfl
                                  rotate_left
                                  · simp only [Act.put, List.setIfInBounds_toArray, List.set_cons_zero, List.set_cons_succ, i64_w, i32_w]
                                    rfl
                                  refine pure_ (i := 6) (N := some 145) (v := ?_) (a' := ?_) (fl 0 11 [2, 4, 6]) rfl rfl (any_of HT_.out (by kernel_rfl)) (fun _ _ _ h => h) (Or.inl ⟨by rfl, ?_⟩) ?_ ?_
                                  rotate_left
                                  · intro w'
                                    go_simp
                                    with_reducible rfl
                                  rotate_left
                                  · simp only [Act.put, List.setIfInBounds_toArray, List.set_cons_zero, List.set_cons_succ, i64_w, i32_w]
                                    rfl
                                  refine take_ (i := 0) (N := some 139) (v := ?_) (a' := ?_) (fl 1 11 [2, 4, 6]) rfl rfl (take_ofW HT_.out HW_.out (by kernel_rfl)) (fun _ _ _ h => h) (Or.inl ⟨by rfl, ?_⟩) hHeld ?_ ?_
                                  rotate_left
                                  · rintro w' ⟨s0, s1, s2⟩
                                    go_simp
                                    with_reducible rfl
                                  rotate_left
                                  · simp only [Act.put, List.setIfInBounds_toArray, List.set_cons_zero, List.set_cons_succ, i64_w, i32_w]
                                    rfl
                                  refine take_ (i := 3) (N := some 142) (v := ?_) (a' := ?_) (fl 1 11 [2, 3, 4, 6]) rfl rfl (take_ofW HT_.out HW_.out (by kernel_rfl)) (fun _ _ _ h => h) (Or.inl ⟨by rfl, ?_⟩) hHeld ?_ ?_
                                  rotate_left
                                  · rintro w' ⟨s0, s1, s2⟩
                                    go_simp
                                    with_reducible rfl
                                  rotate_left
                                  · simp only [Act.put, List.setIfInBounds_toArray, List.set_cons_zero, List.set_cons_succ, i64_w, i32_w]
                                    rfl
                                  refine take_ (i := 5) (N := some 144) (v := ?_) (a' := ?_) (fl 1 11 [2, 3, 4, 5, 6]) rfl rfl (take_ofW HT_.out HW_.out (by kernel_rfl)) (fun _ _ _ h => h) (Or.inl ⟨by rfl, ?_⟩) hHeld ?_ ?_
                                  rotate_left
                                  · rintro w' ⟨s0, s1, s2⟩
                                    go_simp
                                    with_reducible rfl
                                  rotate_left
                                  · simp only [Act.put, List.setIfInBounds_toArray, List.set_cons_zero, List.set_cons_succ, i64_w, i32_w]
                                    rfl
                                  refine take_ (i := 7) (N := some 146) (v := ?_) (a' := ?_) (fl 1 11 [2, 3, 4, 5, 6, 7]) rfl rfl (take_ofW HT_.out HW_.out (by kernel_rfl)) (fun _ _ _ h => h) (Or.inl ⟨by rfl, ?_⟩) hHeld ?_ ?_
                                  rotate_left
                                  · rintro w' ⟨s0, s1, s2⟩
                                    go_simp
                                    with_reducible rfl
                                  rotate_left
                                  · simp only [Act.put, List.setIfInBounds_toArray, List.set_cons_zero, List.set_cons_succ, i64_w, i32_w]
                                    rfl
                                  refine one_ (i := 1) (N := some 140) (fl 8 11 []) rfl rfl (one_of HT_.out (by kernel_rfl)) (by decide) (fun K hK => ?_)
                                  refine goes_ Try.func20 (by kernel_rfl) rfl #[.agg #[.int .i64 ((rd_T23 y433 x28_1).f0), .int .i64 ((rd_T23 y433 x28_1).f1), .int .i64 ((rd_T23 y433 x28_1).f2)]] (by rfl) rfl rfl (by (try simp only [List.map_toArray, List.map_cons, List.map_nil]); first | done | rfl | (simp only [List.length_drop, List.length_take]; rfl)) ?_
                                  with_reducible refine (month_End.calls kj91 ((rd_T23 y433 x28_1).f0) ((rd_T23 y433 x28_1).f1) ((rd_T23 y433 x28_1).f2) t462 _ A116.out).mono ?_
                                  rintro e w120 ⟨rfl, hb⟩
                                  refine ⟨_, rfl, ?_⟩
                                  replace HO_26 := Aside0.mk (rb HO_26.out hb)
                                  replace HO_35 := Aside0.mk (rb HO_35.out hb)
                                  replace BK429 := Aside0.mk (bb BK429.out hb)
                                  replace BK438 := Aside0.mk (bb BK438.out hb)
                                  replace BK447 := Aside0.mk (bb BK447.out hb)
                                  replace BK452 := Aside0.mk (bb BK452.out hb)
                                  replace BK459 := Aside0.mk (bb BK459.out hb)
                                  replace HB := Aside0.mk (bs HB.out hb)
                                  (try clear hb)
                                  (try clear hb2)
                                  (try clear hk)
                                  (try clear hi)
                                  refine hK.out _ _ ⟨(blk_cell BK438.out 0).trans rfl, (blk_cell BK438.out 1).trans rfl, (blk_cell BK438.out 2).trans rfl⟩ (fun hHeld => ?_)
                                  clear hK K
                                  refine norm_ (a' := ?_) ?_ ?_
                                  rotate_left
                                  · show Act.put _ (some 140) _ = _
                                    simp only [Act.put, List.setIfInBounds_toArray, List.set_cons_zero, List.set_cons_succ, i64_w, i32_w]
                                    rfl
                                  refine one_ (i := 8) (N := some 147) (fl 9 11 []) rfl rfl (one_of HT_.out (by kernel_rfl)) (by decide) (fun K hK => ?_)
                                  refine goes_ Try.func28 (by kernel_rfl) rfl #[.int .i64 ((rd_T23 y433 x28_1).f0), .int .i64 ((rd_T23 y433 x28_1).f1)] (by rfl) rfl rfl (by (try simp only [List.map_toArray, List.map_cons, List.map_nil]); first | done | rfl | (simp only [List.length_drop, List.length_take]; rfl)) ?_
                                  with_reducible refine (chattelref09_Days.calls kj91 ((rd_T23 y433 x28_1).f0) ((rd_T23 y433 x28_1).f1) t463 _ A117.out).mono ?_
                                  rintro e w' ⟨rfl, ⟨nd, rfl⟩⟩
                                  refine ⟨_, rfl, ?_⟩
                                  refine hK.out _ _ ⟨(blk_cell BK438.out 0).trans rfl, (blk_cell BK438.out 1).trans rfl, (blk_cell BK438.out 2).trans rfl⟩ (fun hHeld => ?_)
                                  clear hK K
                                  refine norm_ (a' := ?_) ?_ ?_
                                  rotate_left
                                  · show Act.put _ (some 147) _ = _
                                    simp only [Act.put, List.setIfInBounds_toArray, List.set_cons_zero, List.set_cons_succ, i64_w, i32_w]
                                    rfl
                                  refine pure_ (i := 9) (N := some 148) (v := ?_) (a' := ?_) (fl 10 11 []) rfl rfl (any_of HT_.out (by kernel_rfl)) (fun _ _ _ h => h) (Or.inl ⟨by rfl, ?_⟩) ?_ ?_
                                  rotate_left
                                  · intro w'
                                    go_simp
                                    with_reducible rfl
                                  rotate_left
                                  · simp only [Act.put, List.setIfInBounds_toArray, List.set_cons_zero, List.set_cons_succ, i64_w, i32_w]
                                    rfl
                                  refine pure_ (i := 10) (N := some 149) (v := ?_) (a' := ?_) (fl 11 11 []) rfl rfl (any_of HT_.out (by kernel_rfl)) (fun _ _ _ h => h) (Or.inl ⟨by rfl, ?_⟩) ?_ ?_
                                  rotate_left
                                  · intro w'
                                    go_simp
                                    with_reducible rfl
                                  rotate_left
                                  · simp only [Act.put, List.setIfInBounds_toArray, List.set_cons_zero, List.set_cons_succ, i64_w, i32_w]
                                    rfl
                                  refine done_ (done_of HT_.out (by kernel_rfl)) ?_
                                  try go_wp2
                                  go_roundg kj91
                                  case measure => have := HK1.out; have := HK2.out; have := HJ26.out; have := HJ83.out; have := HJ91.out; omega
                                  case rel => exact ⟨(wrap64 (x37_2 + 1)), (by first | rfl | (simp; done) | (simp [*]; done)), H', ⟨by have := HK1.out; have := HK2.out; have := HJ26.out; have := HJ83.out; have := HJ91.out; omega⟩, ⟨by (with_reducible repeat (first | apply Kd.R_alloc | apply Kd.R_drewN | apply Kd.R_drew)); exact Kd.R_mono HO_26.out (fun _ hk => ⟨hk.1, hk.2.1⟩)⟩, ⟨by (with_reducible repeat (first | apply Kd.R_alloc | apply Kd.R_drewN | apply Kd.R_drew)); exact HO_35.out⟩, ⟨by (with_reducible repeat (first | refine blk_drewN ?_ _ | refine blk_drew ?_ | refine blk_alloc ?_ _)); exact BK429.out⟩, ⟨by (with_reducible repeat (first | refine blk_drewN ?_ _ | refine blk_drew ?_ | refine blk_alloc ?_ _)); exact BK438.out⟩, ⟨by repeat (first | (with_reducible first | exact HB.out | apply below_alloc | apply pw_below_drewN | apply below_drew1 | refine below_set ?_ GE429.out | refine below_set ?_ GE438.out | refine below_set ?_ GE447.out | refine below_set ?_ GE452.out | refine below_set ?_ GE459.out) | exact HB.out)⟩⟩
              · replace c25 := Bool.eq_false_iff.mpr c25
                subst c25
                have H1 : (if t446 = 11 then (if t451 = 11 then (if (!(t443 == 0) || (!(t444 == 0) || (!(t445 == 0)))) = true then (some false) else (if (!(t448 == 0) || (!(t449 == 0) || (!(t450 == 0)))) = true then (some false) else ((month_End.f k2 ((rd_T23 y433 x28_1).f0) ((rd_T23 y433 x28_1).f1) ((rd_T23 y433 x28_1).f2)).bind fun t454 => (if t454 = true then (some false) else (chattellaw10_MonthAdds.l1 k2 a1 y433 (y433.length : Int) x28_1 y439 (y439.length : Int) (wrap64 (x37_2 + 1)) ((rd_T23 y433 x28_1).f0) ((rd_T23 y433 x28_1).f1) ((rd_T23 y433 x28_1).f2)))))) else (some false)) else (some false)) = some r := by rw [if_neg (show ¬ (false = true) by decide)] at H; exact H
                clear H
                have H := H1
                clear H1
                by_cases c121 : t446 = 11
                rotate_left
                · rw [if_neg c121] at H
                  have c121b0 : (t446 == 11) = false := beq_eq_false_iff_ne.mpr c121
                  have c121b1 : (t446 != 11) = true := bne_iff_ne.mpr c121
                  exact absurd (Option.some.inj H) (by rw [ht_]; decide)
                rw [if_pos c121] at H
                have c121b0 : (t446 == 11) = true := beq_iff_eq.mpr c121
                have c121b1 : (t446 != 11) = false := bne_eq_false_iff_eq.mpr c121
                clear c121
                by_cases c122 : t451 = 11
                rotate_left
                · rw [if_neg c122] at H
                  have c122b0 : (t451 == 11) = false := beq_eq_false_iff_ne.mpr c122
                  have c122b1 : (t451 != 11) = true := bne_iff_ne.mpr c122
                  exact absurd (Option.some.inj H) (by rw [ht_]; decide)
                rw [if_pos c122] at H
                have c122b0 : (t451 == 11) = true := beq_iff_eq.mpr c122
                have c122b1 : (t451 != 11) = false := bne_eq_false_iff_eq.mpr c122
                clear c122
                by_cases c123 : (!(t443 == 0) || (!(t444 == 0) || (!(t445 == 0)))) = true
                · rw [if_pos c123] at H
                  have c123b0 : (!(t443 == 0) || (!(t444 == 0) || (!(t445 == 0)))) = true := c123
                  clear c123
                  exact absurd (Option.some.inj H) (by rw [ht_]; decide)
                · rw [if_neg c123] at H
                  have c123b0 : (!(t443 == 0) || (!(t444 == 0) || (!(t445 == 0)))) = false := by simpa using c123
                  clear c123
                  by_cases c124 : (!(t448 == 0) || (!(t449 == 0) || (!(t450 == 0)))) = true
                  · rw [if_pos c124] at H
                    have c124b0 : (!(t448 == 0) || (!(t449 == 0) || (!(t450 == 0)))) = true := c124
                    clear c124
                    exact absurd (Option.some.inj H) (by rw [ht_]; decide)
                  · rw [if_neg c124] at H
                    have c124b0 : (!(t448 == 0) || (!(t449 == 0) || (!(t450 == 0)))) = false := by simpa using c124
                    clear c124
                    replace H := Option.bind_eq_some_iff.mp H
                    obtain ⟨t454, A1250, H⟩ := H
                    replace H : (if t454 = true then (some false) else (chattellaw10_MonthAdds.l1 k2 a1 y433 (y433.length : Int) x28_1 y439 (y439.length : Int) (wrap64 (x37_2 + 1)) ((rd_T23 y433 x28_1).f0) ((rd_T23 y433 x28_1).f1) ((rd_T23 y433 x28_1).f2))) = some r := H
                    have A125 := Aside0.mk A1250
                    clear A1250
                    by_cases c126 : t454 = true
                    · subst c126
                      have H1 : (some false) = some r := by rw [if_pos rfl] at H; exact H
                      clear H
                      have H := H1
                      clear H1
                      exact absurd (Option.some.inj H) (by rw [ht_]; decide)
                    · replace c126 := Bool.eq_false_iff.mpr c126
                      subst c126
                      have H1 : (chattellaw10_MonthAdds.l1 k2 a1 y433 (y433.length : Int) x28_1 y439 (y439.length : Int) (wrap64 (x37_2 + 1)) ((rd_T23 y433 x28_1).f0) ((rd_T23 y433 x28_1).f1) ((rd_T23 y433 x28_1).f2)) = some r := by rw [if_neg (show ¬ (false = true) by decide)] at H; exact H
                      clear H
                      have H := H1
                      clear H1
                      have H' := Aside0.mk H
                      clear H
                      have p442 : 0 ≤ (x37_2 : Int) := of_decide_eq_true (by first | (with_reducible assumption) | assumption)
                      have q442 : x37_2 < (y439.length : Int) := of_decide_eq_true (by first | (with_reducible assumption) | assumption)
                      obtain ⟨ad442, e442, hx442_0⟩ := Kd.at_int (Kd.R_reads' HO_35.out).2.2 x37_2 p442 q442
                      cases e442
                      replace p442 := eq_true p442
                      replace q442 := eq_true q442
                      have hnb127 := NB438_429.out
                      have hnc127 := NB429_438.out
                      have hcz128_0 : wr.cell? ⟨gb438, 0, none⟩ = some (.int .i64 ((rd_T23 y433 x28_1).f0)) := (blk_cell BK438.out 0).trans rfl
                      have hcz128_1 : wr.cell? ⟨gb438, 1, none⟩ = some (.int .i64 ((rd_T23 y433 x28_1).f1)) := (blk_cell BK438.out 1).trans rfl
                      have hcz128_2 : wr.cell? ⟨gb438, 2, none⟩ = some (.int .i64 ((rd_T23 y433 x28_1).f2)) := (blk_cell BK438.out 2).trans rfl
                      have hfz128_0 := blk_frozen BK438.out 0
                      have hfz128_1 := blk_frozen BK438.out 1
                      have hfz128_2 := blk_frozen BK438.out 2
                      go_wp2_with (first | ((with_reducible refine gate_callee (f := 17) rfl ?_); refine goesL_ (some 44) rfl rfl Try.func17 (by kernel_rfl) rfl #[.agg #[.int .i64 ((rd_T23 y433 x28_1).f0), .int .i64 ((rd_T23 y433 x28_1).f1), .int .i64 ((rd_T23 y433 x28_1).f2)], .int .i64 (rd y439 x37_2)] rfl (by (try simp only [List.map_toArray, List.map_cons, List.map_nil]); first | done | rfl | (simp only [List.length_drop, List.length_take]; rfl)) ?_; (with_reducible refine (month_Add.calls k2 ((rd_T23 y433 x28_1).f0) ((rd_T23 y433 x28_1).f1) ((rd_T23 y433 x28_1).f2) (rd y439 x37_2) t443 t444 t445 t446 _ A22.out).mono ?_); rintro e w129 ⟨rfl, hb⟩; refine ⟨_, rfl, ?_⟩; replace HO_26 := Aside0.mk (rb HO_26.out hb); replace HO_35 := Aside0.mk (rb HO_35.out hb); replace BK429 := Aside0.mk (bb BK429.out hb); replace BK438 := Aside0.mk (bb BK438.out hb); replace HB := Aside0.mk (bs HB.out hb); (try clear hb); (try clear hb2); (try clear hk); (try clear hi)) | ((with_reducible refine gate_dst (N := 9) rfl ?_); refine box_event ?hg (N := 9) ?hd (cs := #[.int .i64 0, .int .i64 0, .int .i64 0]) (t := 23) ?hr ?_; (case hd => rfl); (case hg => rfl); (case hr => first | (go_simp; done) | (go_simp; rfl)); intro gb447 hg w130 hbox hb; have n0_ := Aside0.mk (Kd.R_below (Kd.R_elderB (by (with_reducible repeat (first | apply Kd.R_alloc | apply Kd.R_drewN | apply Kd.R_drew)); exact HO_26.out) gb447 (Nat.le_of_eq hg.symm)) hb); have n1_ := Aside0.mk (rb HO_35.out hb); have n2_ := Aside0.mk (bb BK429.out hb); have n3_ := Aside0.mk (bb BK438.out hb); have n4_ := Aside0.mk (bs HB.out hb); have n5_ := Aside0.mk (hbox); have n6_ := Aside0.mk ((by rw [hg]; exact (bz HB.out) : w.heap.size ≤ gb447)); have n7_ := Aside0.mk ((by rw [hg]; exact (bz HB.out) : w.heap.size ≤ gb447)); have n8_ := Aside0.mk ((by rw [hg]; exact Nat.ne_of_lt (blk_lt (g := gb429) (o := .cells #[.int .i64 a0_0, .int .i64 a0_1, .int .i64 a0_2] 23 (0, 0)) (by (with_reducible repeat (first | refine blk_drewN ?_ _ | refine blk_drew ?_ | refine blk_alloc ?_ _)); exact BK429.out)) : gb429 ≠ gb447)); have n9_ := Aside0.mk ((by rw [hg]; exact Nat.ne_of_gt (blk_lt (g := gb429) (o := .cells #[.int .i64 a0_0, .int .i64 a0_1, .int .i64 a0_2] 23 (0, 0)) (by (with_reducible repeat (first | refine blk_drewN ?_ _ | refine blk_drew ?_ | refine blk_alloc ?_ _)); exact BK429.out)) : gb447 ≠ gb429)); have n10_ := Aside0.mk ((by rw [hg]; exact Nat.ne_of_lt (blk_lt (g := gb438) (o := .cells #[.int .i64 ((rd_T23 y433 x28_1).f0), .int .i64 ((rd_T23 y433 x28_1).f1), .int .i64 ((rd_T23 y433 x28_1).f2)] 23 (0, 0)) (by (with_reducible repeat (first | refine blk_drewN ?_ _ | refine blk_drew ?_ | refine blk_alloc ?_ _)); exact BK438.out)) : gb438 ≠ gb447)); have n11_ := Aside0.mk ((by rw [hg]; exact Nat.ne_of_gt (blk_lt (g := gb438) (o := .cells #[.int .i64 ((rd_T23 y433 x28_1).f0), .int .i64 ((rd_T23 y433 x28_1).f1), .int .i64 ((rd_T23 y433 x28_1).f2)] 23 (0, 0)) (by (with_reducible repeat (first | refine blk_drewN ?_ _ | refine blk_drew ?_ | refine blk_alloc ?_ _)); exact BK438.out)) : gb447 ≠ gb438)); clear HO_26; clear HO_35; clear BK429; clear BK438; clear HB; have HO_26 := n0_; have HO_35 := n1_; have BK429 := n2_; have BK438 := n3_; have HB := n4_; have BK447 := n5_; have GW447 := n6_; have GE447 := n7_; have NB429_447 := n8_; have NB447_429 := n9_; have NB438_447 := n10_; have NB447_438 := n11_; clear n0_ n1_ n2_ n3_ n4_ n5_ n6_ n7_ n8_ n9_ n10_ n11_; clear hb hbox hg; have hnb131 := NB447_429.out; have hnc131 := NB429_447.out; have hnb132 := NB447_438.out; have hnc132 := NB438_447.out; have hcz133_0 : w130.cell? ⟨gb447, 0, none⟩ = some (.int .i64 0) := (blk_cell BK447.out 0).trans rfl; have hcz133_1 : w130.cell? ⟨gb447, 1, none⟩ = some (.int .i64 0) := (blk_cell BK447.out 1).trans rfl; have hcz133_2 : w130.cell? ⟨gb447, 2, none⟩ = some (.int .i64 0) := (blk_cell BK447.out 2).trans rfl; have hfz133_0 := blk_frozen BK447.out 0; have hfz133_1 := blk_frozen BK447.out 1; have hfz133_2 := blk_frozen BK447.out 2; have hcz134_0 : w130.cell? ⟨gb438, 0, none⟩ = some (.int .i64 ((rd_T23 y433 x28_1).f0)) := (blk_cell BK438.out 0).trans rfl; have hcz134_1 : w130.cell? ⟨gb438, 1, none⟩ = some (.int .i64 ((rd_T23 y433 x28_1).f1)) := (blk_cell BK438.out 1).trans rfl; have hcz134_2 : w130.cell? ⟨gb438, 2, none⟩ = some (.int .i64 ((rd_T23 y433 x28_1).f2)) := (blk_cell BK438.out 2).trans rfl; have hfz134_0 := blk_frozen BK438.out 0; have hfz134_1 := blk_frozen BK438.out 1; have hfz134_2 := blk_frozen BK438.out 2) | ((with_reducible refine gate_callee (f := 37) rfl ?_); refine goesL_ (some 50) rfl rfl Try.func37 (by kernel_rfl) rfl #[.agg #[.int .i64 ((rd_T23 y433 x28_1).f0), .int .i64 ((rd_T23 y433 x28_1).f1), .int .i64 ((rd_T23 y433 x28_1).f2)], .int .i64 (rd y439 x37_2)] rfl (by (try simp only [List.map_toArray, List.map_cons, List.map_nil]); first | done | rfl | (simp only [List.length_drop, List.length_take]; rfl)) ?_; (with_reducible refine (month_AddDays.calls k2 ((rd_T23 y433 x28_1).f0) ((rd_T23 y433 x28_1).f1) ((rd_T23 y433 x28_1).f2) (rd y439 x37_2) t448 t449 t450 t451 _ A23.out).mono ?_); rintro e w135 ⟨rfl, hb⟩; refine ⟨_, rfl, ?_⟩; replace HO_26 := Aside0.mk (Kd.R_below (by (with_reducible repeat (first | apply Kd.R_alloc | apply Kd.R_drewN | apply Kd.R_drew)); exact (Kd.R_mono (Kd.R_far (p := ⟨gb447, 2, none⟩) (Kd.R_far (p := ⟨gb447, 1, none⟩) (Kd.R_far (p := ⟨gb447, 0, none⟩) (Kd.R_mono HO_26.out (fun k_ hk => (⟨hk, hk.2⟩ : _ ∧ k_ ≠ gb447))) (fun _ hk => hk.2) (.int .i64 t443)) (fun _ hk => hk.2) (.int .i64 t444)) (fun _ hk => hk.2) (.int .i64 t445)) (fun _ h_ => h_.1))) hb); replace HO_35 := Aside0.mk (Kd.R_below (by (with_reducible repeat (first | apply Kd.R_alloc | apply Kd.R_drewN | apply Kd.R_drew)); exact (Kd.R_mono (Kd.R_far (p := ⟨gb447, 2, none⟩) (Kd.R_far (p := ⟨gb447, 1, none⟩) (Kd.R_far (p := ⟨gb447, 0, none⟩) (Kd.R_types HO_35.out BK447.out (by decide)) (fun _ hk => hk.2) (.int .i64 t443)) (fun _ hk => hk.2) (.int .i64 t444)) (fun _ hk => hk.2) (.int .i64 t445)) (fun _ h_ => h_.1))) hb); replace BK429 := Aside0.mk (blk_below (g := gb429) (o := .cells #[.int .i64 a0_0, .int .i64 a0_1, .int .i64 a0_2] 23 (0, 0)) (by (with_reducible repeat (first | refine blk_drewN ?_ _ | refine blk_drew ?_ | refine blk_alloc ?_ _)); refine blk_far ?_ NB429_447.out _; (with_reducible repeat (first | refine blk_drewN ?_ _ | refine blk_drew ?_ | refine blk_alloc ?_ _)); refine blk_far ?_ NB429_447.out _; (with_reducible repeat (first | refine blk_drewN ?_ _ | refine blk_drew ?_ | refine blk_alloc ?_ _)); refine blk_far ?_ NB429_447.out _; (with_reducible repeat (first | refine blk_drewN ?_ _ | refine blk_drew ?_ | refine blk_alloc ?_ _)); exact BK429.out) hb); replace BK438 := Aside0.mk (blk_below (g := gb438) (o := .cells #[.int .i64 ((rd_T23 y433 x28_1).f0), .int .i64 ((rd_T23 y433 x28_1).f1), .int .i64 ((rd_T23 y433 x28_1).f2)] 23 (0, 0)) (by (with_reducible repeat (first | refine blk_drewN ?_ _ | refine blk_drew ?_ | refine blk_alloc ?_ _)); refine blk_far ?_ NB438_447.out _; (with_reducible repeat (first | refine blk_drewN ?_ _ | refine blk_drew ?_ | refine blk_alloc ?_ _)); refine blk_far ?_ NB438_447.out _; (with_reducible repeat (first | refine blk_drewN ?_ _ | refine blk_drew ?_ | refine blk_alloc ?_ _)); refine blk_far ?_ NB438_447.out _; (with_reducible repeat (first | refine blk_drewN ?_ _ | refine blk_drew ?_ | refine blk_alloc ?_ _)); exact BK438.out) hb); replace BK447 := Aside0.mk (blk_below (g := gb447) (o := .cells #[.int .i64 t443, .int .i64 t444, .int .i64 t445] 23 (0, 0)) (by (with_reducible repeat (first | refine blk_drewN ?_ _ | refine blk_drew ?_ | refine blk_alloc ?_ _)); refine blk_put (cs := #[.int .i64 t443, .int .i64 t444, .int .i64 0]) ?_ 2 _ rfl; (with_reducible repeat (first | refine blk_drewN ?_ _ | refine blk_drew ?_ | refine blk_alloc ?_ _)); refine blk_put (cs := #[.int .i64 t443, .int .i64 0, .int .i64 0]) ?_ 1 _ rfl; (with_reducible repeat (first | refine blk_drewN ?_ _ | refine blk_drew ?_ | refine blk_alloc ?_ _)); refine blk_put (cs := #[.int .i64 0, .int .i64 0, .int .i64 0]) ?_ 0 _ rfl; (with_reducible repeat (first | refine blk_drewN ?_ _ | refine blk_drew ?_ | refine blk_alloc ?_ _)); exact BK447.out) hb); replace HB := Aside0.mk (below_step (by repeat (first | (with_reducible first | exact HB.out | apply below_alloc | apply pw_below_drewN | apply below_drew1 | refine below_set ?_ GE429.out | refine below_set ?_ GE438.out | refine below_set ?_ GE447.out) | exact HB.out)) hb); (try clear hb); (try clear hb2); (try clear hk); (try clear hi)) | ((with_reducible refine gate_dst (N := 11) rfl ?_); refine box_event ?hg (N := 11) ?hd (cs := #[.int .i64 0, .int .i64 0, .int .i64 0]) (t := 23) ?hr ?_; (case hd => rfl); (case hg => rfl); (case hr => first | (go_simp; done) | (go_simp; rfl)); intro gb452 hg w136 hbox hb; have n0_ := Aside0.mk (Kd.R_below (Kd.R_elderB (by (with_reducible repeat (first | apply Kd.R_alloc | apply Kd.R_drewN | apply Kd.R_drew)); exact HO_26.out) gb452 (Nat.le_of_eq hg.symm)) hb); have n1_ := Aside0.mk (rb HO_35.out hb); have n2_ := Aside0.mk (bb BK429.out hb); have n3_ := Aside0.mk (bb BK438.out hb); have n4_ := Aside0.mk (bb BK447.out hb); have n5_ := Aside0.mk (bs HB.out hb); have n6_ := Aside0.mk (hbox); have n7_ := Aside0.mk ((by rw [hg]; exact (bz HB.out) : w.heap.size ≤ gb452)); have n8_ := Aside0.mk ((by rw [hg]; exact (bz HB.out) : w.heap.size ≤ gb452)); have n9_ := Aside0.mk ((by rw [hg]; exact Nat.ne_of_lt (blk_lt (g := gb429) (o := .cells #[.int .i64 a0_0, .int .i64 a0_1, .int .i64 a0_2] 23 (0, 0)) (by (with_reducible repeat (first | refine blk_drewN ?_ _ | refine blk_drew ?_ | refine blk_alloc ?_ _)); exact BK429.out)) : gb429 ≠ gb452)); have n10_ := Aside0.mk ((by rw [hg]; exact Nat.ne_of_gt (blk_lt (g := gb429) (o := .cells #[.int .i64 a0_0, .int .i64 a0_1, .int .i64 a0_2] 23 (0, 0)) (by (with_reducible repeat (first | refine blk_drewN ?_ _ | refine blk_drew ?_ | refine blk_alloc ?_ _)); exact BK429.out)) : gb452 ≠ gb429)); have n11_ := Aside0.mk ((by rw [hg]; exact Nat.ne_of_lt (blk_lt (g := gb438) (o := .cells #[.int .i64 ((rd_T23 y433 x28_1).f0), .int .i64 ((rd_T23 y433 x28_1).f1), .int .i64 ((rd_T23 y433 x28_1).f2)] 23 (0, 0)) (by (with_reducible repeat (first | refine blk_drewN ?_ _ | refine blk_drew ?_ | refine blk_alloc ?_ _)); exact BK438.out)) : gb438 ≠ gb452)); have n12_ := Aside0.mk ((by rw [hg]; exact Nat.ne_of_gt (blk_lt (g := gb438) (o := .cells #[.int .i64 ((rd_T23 y433 x28_1).f0), .int .i64 ((rd_T23 y433 x28_1).f1), .int .i64 ((rd_T23 y433 x28_1).f2)] 23 (0, 0)) (by (with_reducible repeat (first | refine blk_drewN ?_ _ | refine blk_drew ?_ | refine blk_alloc ?_ _)); exact BK438.out)) : gb452 ≠ gb438)); have n13_ := Aside0.mk ((by rw [hg]; exact Nat.ne_of_lt (blk_lt (g := gb447) (o := .cells #[.int .i64 t443, .int .i64 t444, .int .i64 t445] 23 (0, 0)) (by (with_reducible repeat (first | refine blk_drewN ?_ _ | refine blk_drew ?_ | refine blk_alloc ?_ _)); exact BK447.out)) : gb447 ≠ gb452)); have n14_ := Aside0.mk ((by rw [hg]; exact Nat.ne_of_gt (blk_lt (g := gb447) (o := .cells #[.int .i64 t443, .int .i64 t444, .int .i64 t445] 23 (0, 0)) (by (with_reducible repeat (first | refine blk_drewN ?_ _ | refine blk_drew ?_ | refine blk_alloc ?_ _)); exact BK447.out)) : gb452 ≠ gb447)); clear HO_26; clear HO_35; clear BK429; clear BK438; clear BK447; clear HB; have HO_26 := n0_; have HO_35 := n1_; have BK429 := n2_; have BK438 := n3_; have BK447 := n4_; have HB := n5_; have BK452 := n6_; have GW452 := n7_; have GE452 := n8_; have NB429_452 := n9_; have NB452_429 := n10_; have NB438_452 := n11_; have NB452_438 := n12_; have NB447_452 := n13_; have NB452_447 := n14_; clear n0_ n1_ n2_ n3_ n4_ n5_ n6_ n7_ n8_ n9_ n10_ n11_ n12_ n13_ n14_; clear hb hbox hg; have hnb137 := NB452_429.out; have hnc137 := NB429_452.out; have hnb138 := NB452_438.out; have hnc138 := NB438_452.out; have hnb139 := NB452_447.out; have hnc139 := NB447_452.out; have hcz140_0 : w136.cell? ⟨gb452, 0, none⟩ = some (.int .i64 0) := (blk_cell BK452.out 0).trans rfl; have hcz140_1 : w136.cell? ⟨gb452, 1, none⟩ = some (.int .i64 0) := (blk_cell BK452.out 1).trans rfl; have hcz140_2 : w136.cell? ⟨gb452, 2, none⟩ = some (.int .i64 0) := (blk_cell BK452.out 2).trans rfl; have hfz140_0 := blk_frozen BK452.out 0; have hfz140_1 := blk_frozen BK452.out 1; have hfz140_2 := blk_frozen BK452.out 2; have hcz141_0 : w136.cell? ⟨gb438, 0, none⟩ = some (.int .i64 ((rd_T23 y433 x28_1).f0)) := (blk_cell BK438.out 0).trans rfl; have hcz141_1 : w136.cell? ⟨gb438, 1, none⟩ = some (.int .i64 ((rd_T23 y433 x28_1).f1)) := (blk_cell BK438.out 1).trans rfl; have hcz141_2 : w136.cell? ⟨gb438, 2, none⟩ = some (.int .i64 ((rd_T23 y433 x28_1).f2)) := (blk_cell BK438.out 2).trans rfl; have hfz141_0 := blk_frozen BK438.out 0; have hfz141_1 := blk_frozen BK438.out 1; have hfz141_2 := blk_frozen BK438.out 2) | ((with_reducible refine gate_callee (f := 21) rfl ?_); refine goesL_ (some 54) rfl rfl Try.func21 (by kernel_rfl) rfl #[.agg #[.int .i64 ((rd_T23 y433 x28_1).f0), .int .i64 ((rd_T23 y433 x28_1).f1), .int .i64 ((rd_T23 y433 x28_1).f2)]] rfl (by (try simp only [List.map_toArray, List.map_cons, List.map_nil]); first | done | rfl | (simp only [List.length_drop, List.length_take]; rfl)) ?_; (with_reducible refine (chattelref09_Right.calls k2 ((rd_T23 y433 x28_1).f0) ((rd_T23 y433 x28_1).f1) ((rd_T23 y433 x28_1).f2) false _ A24.out).mono ?_); rintro e w142 ⟨rfl, hb⟩; refine ⟨_, rfl, ?_⟩; replace HO_26 := Aside0.mk (Kd.R_below (by (with_reducible repeat (first | apply Kd.R_alloc | apply Kd.R_drewN | apply Kd.R_drew)); exact (Kd.R_mono (Kd.R_far (p := ⟨gb452, 2, none⟩) (Kd.R_far (p := ⟨gb452, 1, none⟩) (Kd.R_far (p := ⟨gb452, 0, none⟩) (Kd.R_mono HO_26.out (fun k_ hk => (⟨hk, hk.2⟩ : _ ∧ k_ ≠ gb452))) (fun _ hk => hk.2) (.int .i64 t448)) (fun _ hk => hk.2) (.int .i64 t449)) (fun _ hk => hk.2) (.int .i64 t450)) (fun _ h_ => h_.1))) hb); replace HO_35 := Aside0.mk (Kd.R_below (by (with_reducible repeat (first | apply Kd.R_alloc | apply Kd.R_drewN | apply Kd.R_drew)); exact (Kd.R_mono (Kd.R_far (p := ⟨gb452, 2, none⟩) (Kd.R_far (p := ⟨gb452, 1, none⟩) (Kd.R_far (p := ⟨gb452, 0, none⟩) (Kd.R_types HO_35.out BK452.out (by decide)) (fun _ hk => hk.2) (.int .i64 t448)) (fun _ hk => hk.2) (.int .i64 t449)) (fun _ hk => hk.2) (.int .i64 t450)) (fun _ h_ => h_.1))) hb); replace BK429 := Aside0.mk (blk_below (g := gb429) (o := .cells #[.int .i64 a0_0, .int .i64 a0_1, .int .i64 a0_2] 23 (0, 0)) (by (with_reducible repeat (first | refine blk_drewN ?_ _ | refine blk_drew ?_ | refine blk_alloc ?_ _)); refine blk_far ?_ NB429_452.out _; (with_reducible repeat (first | refine blk_drewN ?_ _ | refine blk_drew ?_ | refine blk_alloc ?_ _)); refine blk_far ?_ NB429_452.out _; (with_reducible repeat (first | refine blk_drewN ?_ _ | refine blk_drew ?_ | refine blk_alloc ?_ _)); refine blk_far ?_ NB429_452.out _; (with_reducible repeat (first | refine blk_drewN ?_ _ | refine blk_drew ?_ | refine blk_alloc ?_ _)); exact BK429.out) hb); replace BK438 := Aside0.mk (blk_below (g := gb438) (o := .cells #[.int .i64 ((rd_T23 y433 x28_1).f0), .int .i64 ((rd_T23 y433 x28_1).f1), .int .i64 ((rd_T23 y433 x28_1).f2)] 23 (0, 0)) (by (with_reducible repeat (first | refine blk_drewN ?_ _ | refine blk_drew ?_ | refine blk_alloc ?_ _)); refine blk_far ?_ NB438_452.out _; (with_reducible repeat (first | refine blk_drewN ?_ _ | refine blk_drew ?_ | refine blk_alloc ?_ _)); refine blk_far ?_ NB438_452.out _; (with_reducible repeat (first | refine blk_drewN ?_ _ | refine blk_drew ?_ | refine blk_alloc ?_ _)); refine blk_far ?_ NB438_452.out _; (with_reducible repeat (first | refine blk_drewN ?_ _ | refine blk_drew ?_ | refine blk_alloc ?_ _)); exact BK438.out) hb); replace BK447 := Aside0.mk (blk_below (g := gb447) (o := .cells #[.int .i64 t443, .int .i64 t444, .int .i64 t445] 23 (0, 0)) (by (with_reducible repeat (first | refine blk_drewN ?_ _ | refine blk_drew ?_ | refine blk_alloc ?_ _)); refine blk_far ?_ NB447_452.out _; (with_reducible repeat (first | refine blk_drewN ?_ _ | refine blk_drew ?_ | refine blk_alloc ?_ _)); refine blk_far ?_ NB447_452.out _; (with_reducible repeat (first | refine blk_drewN ?_ _ | refine blk_drew ?_ | refine blk_alloc ?_ _)); refine blk_far ?_ NB447_452.out _; (with_reducible repeat (first | refine blk_drewN ?_ _ | refine blk_drew ?_ | refine blk_alloc ?_ _)); exact BK447.out) hb); replace BK452 := Aside0.mk (blk_below (g := gb452) (o := .cells #[.int .i64 t448, .int .i64 t449, .int .i64 t450] 23 (0, 0)) (by (with_reducible repeat (first | refine blk_drewN ?_ _ | refine blk_drew ?_ | refine blk_alloc ?_ _)); refine blk_put (cs := #[.int .i64 t448, .int .i64 t449, .int .i64 0]) ?_ 2 _ rfl; (with_reducible repeat (first | refine blk_drewN ?_ _ | refine blk_drew ?_ | refine blk_alloc ?_ _)); refine blk_put (cs := #[.int .i64 t448, .int .i64 0, .int .i64 0]) ?_ 1 _ rfl; (with_reducible repeat (first | refine blk_drewN ?_ _ | refine blk_drew ?_ | refine blk_alloc ?_ _)); refine blk_put (cs := #[.int .i64 0, .int .i64 0, .int .i64 0]) ?_ 0 _ rfl; (with_reducible repeat (first | refine blk_drewN ?_ _ | refine blk_drew ?_ | refine blk_alloc ?_ _)); exact BK452.out) hb); replace HB := Aside0.mk (below_step (by repeat (first | (with_reducible first | exact HB.out | apply below_alloc | apply pw_below_drewN | apply below_drew1 | refine below_set ?_ GE429.out | refine below_set ?_ GE438.out | refine below_set ?_ GE447.out | refine below_set ?_ GE452.out) | exact HB.out)) hb); (try clear hb); (try clear hb2); (try clear hk); (try clear hi); have hcz143_0 : w142.cell? ⟨gb447, 0, none⟩ = some (.int .i64 t443) := (blk_cell BK447.out 0).trans rfl; have hcz143_1 : w142.cell? ⟨gb447, 1, none⟩ = some (.int .i64 t444) := (blk_cell BK447.out 1).trans rfl; have hcz143_2 : w142.cell? ⟨gb447, 2, none⟩ = some (.int .i64 t445) := (blk_cell BK447.out 2).trans rfl; have hfz143_0 := blk_frozen BK447.out 0; have hfz143_1 := blk_frozen BK447.out 1; have hfz143_2 := blk_frozen BK447.out 2; have hcz144_0 : w142.cell? ⟨gb452, 0, none⟩ = some (.int .i64 t448) := (blk_cell BK452.out 0).trans rfl; have hcz144_1 : w142.cell? ⟨gb452, 1, none⟩ = some (.int .i64 t449) := (blk_cell BK452.out 1).trans rfl; have hcz144_2 : w142.cell? ⟨gb452, 2, none⟩ = some (.int .i64 t450) := (blk_cell BK452.out 2).trans rfl; have hfz144_0 := blk_frozen BK452.out 0; have hfz144_1 := blk_frozen BK452.out 1; have hfz144_2 := blk_frozen BK452.out 2; have hcz145_0 : w142.cell? ⟨gb438, 0, none⟩ = some (.int .i64 ((rd_T23 y433 x28_1).f0)) := (blk_cell BK438.out 0).trans rfl; have hcz145_1 : w142.cell? ⟨gb438, 1, none⟩ = some (.int .i64 ((rd_T23 y433 x28_1).f1)) := (blk_cell BK438.out 1).trans rfl; have hcz145_2 : w142.cell? ⟨gb438, 2, none⟩ = some (.int .i64 ((rd_T23 y433 x28_1).f2)) := (blk_cell BK438.out 2).trans rfl; have hfz145_0 := blk_frozen BK438.out 0; have hfz145_1 := blk_frozen BK438.out 1; have hfz145_2 := blk_frozen BK438.out 2) | (go_at_call 20; (with_reducible refine (month_End.calls k2 ((rd_T23 y433 x28_1).f0) ((rd_T23 y433 x28_1).f1) ((rd_T23 y433 x28_1).f2) false _ A125.out).mono ?_); rintro e w146 ⟨rfl, hb⟩; replace HO_26 := Aside0.mk (rb HO_26.out hb); replace HO_35 := Aside0.mk (rb HO_35.out hb); replace BK429 := Aside0.mk (bb BK429.out hb); replace BK438 := Aside0.mk (bb BK438.out hb); replace BK447 := Aside0.mk (bb BK447.out hb); replace BK452 := Aside0.mk (bb BK452.out hb); replace HB := Aside0.mk (bs HB.out hb); (try clear hb); (try clear hb2); (try clear hk); (try clear hi)))
                      go_roundg k2
                      case measure => have := HK1.out; have := HK2.out; omega
                      case rel => exact ⟨(wrap64 (x37_2 + 1)), (by first | rfl | (simp; done) | (simp [*]; done)), H', ⟨by have := HK1.out; have := HK2.out; omega⟩, ⟨by (with_reducible repeat (first | apply Kd.R_alloc | apply Kd.R_drewN | apply Kd.R_drew)); exact Kd.R_mono HO_26.out (fun _ hk => ⟨hk.1.1.1, hk.1.1.2⟩)⟩, ⟨by (with_reducible repeat (first | apply Kd.R_alloc | apply Kd.R_drewN | apply Kd.R_drew)); exact HO_35.out⟩, ⟨by (with_reducible repeat (first | refine blk_drewN ?_ _ | refine blk_drew ?_ | refine blk_alloc ?_ _)); exact BK429.out⟩, ⟨by (with_reducible repeat (first | refine blk_drewN ?_ _ | refine blk_drew ?_ | refine blk_alloc ?_ _)); exact BK438.out⟩, ⟨by repeat (first | (with_reducible first | exact HB.out | apply below_alloc | apply pw_below_drewN | apply below_drew1 | refine below_set ?_ GE429.out | refine below_set ?_ GE438.out | refine below_set ?_ GE447.out | refine below_set ?_ GE452.out) | exact HB.out)⟩⟩
            · rw [if_neg c19] at H
              have c19b0 : decide (x37_2 < (y439.length : Int)) = false := decide_eq_false c19
              clear c19
              have H' := Aside0.mk H
              clear H
              go_wp2
              go_roundg k2
              case measure => have := HK1.out; have := HK2.out; omega
              case rel => exact ⟨(wrap64 (x28_1 + 1)), (by first | rfl | (simp; done) | (simp [*]; done)), H', ⟨by have := HK1.out; have := HK2.out; omega⟩, ⟨by (with_reducible repeat (first | apply Kd.R_alloc | apply Kd.R_drewN | apply Kd.R_drew)); exact Kd.R_mono HO_26.out (fun _ hk => hk.1)⟩, ⟨by (with_reducible repeat (first | refine blk_drewN ?_ _ | refine blk_drew ?_ | refine blk_alloc ?_ _)); exact BK429.out⟩, ⟨by repeat (first | (with_reducible first | exact HB.out | apply below_alloc | apply pw_below_drewN | apply below_drew1 | refine below_set ?_ GE429.out | refine below_set ?_ GE438.out) | exact HB.out)⟩⟩
      · rw [if_neg c10] at H
        have c10b0 : decide (x28_1 < (y433.length : Int)) = false := decide_eq_false c10
        clear c10
        replace H := Option.bind_eq_some_iff.mp H
        obtain ⟨t436, A1470, H⟩ := H
        replace H : (some t436) = some r := H
        have A147 := Aside0.mk A1470
        clear A1470
        obtain rfl := Option.some.inj H
        go_wp2_with (first | ((with_reducible refine gate_callee (f := 16) rfl ?_); refine goesL_ (some 152) rfl rfl Try.func16 (by kernel_rfl) rfl #[] rfl (by (try simp only [List.map_toArray, List.map_cons, List.map_nil]); first | done | rfl | (simp only [List.length_drop, List.length_take]; rfl)) ?_; (with_reducible refine (chattellaw10_wakes.calls k1  t436 _ A147.out).mono ?_); rintro e w148 ⟨rfl, hb⟩; refine ⟨_, rfl, ?_⟩; replace HO_26 := Aside0.mk (rb HO_26.out hb); replace BK429 := Aside0.mk (bb BK429.out hb); replace HB := Aside0.mk (bs HB.out hb); (try clear hb); (try clear hb2); (try clear hk); (try clear hi)))
        go_ret
        exact ⟨by first | rfl | (simp [errW_none, errW_some] <;> rfl) | (simp [*, errW_none, errW_some] <;> rfl), by repeat (first | (with_reducible first | exact HB.out | apply below_alloc | apply pw_below_drewN | apply below_drew1 | refine below_set ?_ GE429.out) | exact HB.out)⟩

/-- THE ONE PURE STATEMENT of chattellaw10_MonthAdds: yours. -/
def chattellaw10_MonthAdds.Pure : Prop := ∀ (a0_0 : Int) (a0_1 : Int) (a0_2 : Int) (a1 : Int), (Lit.int .i64 a0_0).wf = true → (Lit.int .i64 a0_1).wf = true → (Lit.int .i64 a0_2).wf = true → (Lit.int .i64 a1).wf = true → ∃ k, chattellaw10_MonthAdds.f k a0_0 a0_1 a0_2 a1 = some true
theorem chattellaw10_MonthAdds.walk (P : chattellaw10_MonthAdds.Pure) (a0_0 : Int) (a0_1 : Int) (a0_2 : Int) (a1 : Int) (w : World) (w0_0 : (Lit.int .i64 a0_0).wf = true) (w0_1 : (Lit.int .i64 a0_1).wf = true) (w0_2 : (Lit.int .i64 a0_2).wf = true) (w1 : (Lit.int .i64 a1).wf = true) :
    Calls Try.prog 9 #[.agg #[.int .i64 a0_0, .int .i64 a0_1, .int .i64 a0_2], .int .i64 a1] w fun e w' => e = .returned (.bool true) ∧ Below w.heap.size w w' := by
  obtain ⟨k, h⟩ := P a0_0 a0_1 a0_2 a1 w0_0 w0_1 w0_2 w1
  refine (chattellaw10_MonthAdds.calls k a0_0 a0_1 a0_2 a1 true w h rfl).mono ?_
  rintro e w' ⟨rfl, hd⟩
  exact ⟨rfl, hd⟩

end Go.Proofs.Ytfikfmediheioaa.F
