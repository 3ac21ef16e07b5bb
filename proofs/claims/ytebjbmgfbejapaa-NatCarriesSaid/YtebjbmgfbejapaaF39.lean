-- Written by this session's printer (wip/tools), out of the translation's own print. Lean checks it.
import Derived.Test.YtebjbmgfbejapaaF0
import Derived.Test.YtebjbmgfbejapaaF4
import Derived.Test.YtebjbmgfbejapaaF5
import Derived.Test.YtebjbmgfbejapaaF6
import Derived.Test.YtebjbmgfbejapaaF9
import Derived.Test.YtebjbmgfbejapaaF14
import Derived.Test.YtebjbmgfbejapaaF16
import Derived.Test.YtebjbmgfbejapaaF17
import Derived.Test.YtebjbmgfbejapaaF28
import Derived.Test.YtebjbmgfbejapaaF30
import Derived.Test.YtebjbmgfbejapaaF38
namespace Go.Proofs.Ytebjbmgfbejapaa.F
open Go.RowKit Go.Proofs.YtebjbmgfbejapaaW.PrintWords Go.Proofs.YtebjbmgfbejapaaW.PrintLast Go.Proofs.YtebjbmgfbejapaaW.PrintMore Go.Proofs.YtebjbmgfbejapaaX
attribute [local go_sem] max2_int cell_some xrun_add64 xrun_sub64
attribute [local go_sem] max2_int min2_int max_two min_two max_three min_three max_four min_four   -- for this text's walks alone
@[reducible] def OB (A : Option Addr) (l : List Int) (c k : Nat) : Prop := some k ≠ (Value.slice A l.length c).ownBlock
set_option linter.unusedVariables false
set_option linter.unusedSimpArgs false

/-! ### chattellaw01_NatCarries: function 7 -/
def chattellaw01_NatCarries.f (k : Nat) (a0 : Int) : Option (Bool) := (slices_Repeat_uint64_uint64.f (([18446744073709551615] : List Int)) (wrap64 (Int.tmod a0 40))).bind fun t566 => ((nat_Of.f k t566).bind fun t569 => ((nat_Of.f k (([1] : List Int))).bind fun t575 => ((nat_Nat_Add.f k t569 t575).bind fun t578 => (if 0 ≤ (wrap64 (Int.tmod a0 40)) then (if (wrap64 (Int.tmod a0 40) : Int).toNat ≤ 35184372088832 then ((some (List.replicate (wrap64 (Int.tmod a0 40) : Int).toNat 0 : List Int)).bind fun y582 => ((some (([1] : List Int) : List Int)).bind fun y585 => (if y582.length + y585.length < 17592186044416 then ((nat_Of.f k (([1] : List Int))).bind fun t594 => ((nat_Nat_Sub.f k t578 t594).bind fun bt597 => ((chattellaw01_wakes.f k).bind fun t602 => (if t602 = true then ((nat_Nat_Limbs.f t578).bind fun t603 => ((slices_Equal_uint64_uint64.f k t603 (y582 ++ y585)).bind fun t606 => (if t606 = true then ((nat_Nat_Bits.f k t578).bind fun t607 => (if t607 = (wrap64 ((wrap64 (64 * (wrap64 (Int.tmod a0 40)))) + 1)) then ((nat_Nat_Mul.f k t578 t578).bind fun t608 => (if 0 ≤ (wrap64 (2 * (wrap64 (Int.tmod a0 40)))) then (if (wrap64 (2 * (wrap64 (Int.tmod a0 40))) : Int).toNat ≤ 35184372088832 then ((some (List.replicate (wrap64 (2 * (wrap64 (Int.tmod a0 40))) : Int).toNat 0 : List Int)).bind fun y611 => ((some (([1] : List Int) : List Int)).bind fun y614 => (if y611.length + y614.length < 17592186044416 then ((nat_Of.f k (y611 ++ y614)).bind fun t620 => ((nat_Nat_Cmp.f k t608 t620).bind fun t623 => (if t623 = 0 then (if bt597.2 = true then ((nat_Nat_Limbs.f bt597.1).bind fun t624 => ((slices_Equal_uint64_uint64.f k t624 t566).bind fun t627 => (some t627))) else (some false)) else (some false)))) else (none)))) else (none)) else (none))) else (some false))) else (some false)))) else (some false))))) else (none)))) else (none)) else (none)))))
theorem chattellaw01_NatCarries.mono : ∀ a0 k, LeO (chattellaw01_NatCarries.f k a0) (chattellaw01_NatCarries.f (k + 1) a0) := by
 intro a0 k
 unfold chattellaw01_NatCarries.f
 repeat' first
   | (with_reducible exact chattellaw01_wakes.mono _)
   | (with_reducible exact nat_Nat_Add.mono _ _ _)
   | (with_reducible exact nat_Nat_Bits.mono _ _)
   | (with_reducible exact nat_Nat_Cmp.mono _ _ _)
   | (with_reducible exact nat_Nat_Mul.mono _ _ _)
   | (with_reducible exact nat_Nat_Sub.mono _ _ _)
   | (with_reducible exact nat_Of.mono _ _)
   | (with_reducible exact slices_Equal_uint64_uint64.mono _ _ _)
   | (with_reducible exact LeO.refl _)
   | (with_reducible exact LeO.none _)
   | (with_reducible refine LeO.ite ?_ ?_)
   | (with_reducible refine LeO.bind ?_ (fun _ => ?_))
   | exact chattellaw01_wakes.mono _
   | exact nat_Nat_Add.mono _ _ _
   | exact nat_Nat_Bits.mono _ _
   | exact nat_Nat_Cmp.mono _ _ _
   | exact nat_Nat_Mul.mono _ _ _
   | exact nat_Nat_Sub.mono _ _ _
   | exact nat_Of.mono _ _
   | exact slices_Equal_uint64_uint64.mono _ _ _
   | exact LeO.none _
   | refine LeO.ite ?_ ?_
   | refine LeO.bind ?_ (fun _ => ?_)
def chattellaw01_NatCarries.T5 : Bool × List (List Nat × List Nat) := (true, [([], []), ([], []), ([1], [1]), ([0, 2, 2], [0, 2]), ([3], [3]), ([4], [4]), ([4], [4]), ([], []), ([7, 5, 3, 0, 1, 2, 3, 4, 5, 7], [5, 7]), ([6, 8, 0, 1, 2, 3, 4, 5, 6, 7, 8], [6])])
def chattellaw01_NatCarries.B5 : List Nat := [0, 0, 2, 7, 15, 31, 31, 0, 191, 511]
theorem chattellaw01_NatCarries.tab5 : rtab .any (opsOf Try.f7 5) = chattellaw01_NatCarries.T5 := by kernel_rfl
theorem chattellaw01_NatCarries.bits5 : waitsOk chattellaw01_NatCarries.T5.2 chattellaw01_NatCarries.B5 = true := by kernel_rfl
def chattellaw01_NatCarries.T6 : Bool × List (List Nat × List Nat) := (true, [([], []), ([0, 0], [0]), ([1], [1]), ([2, 1, 1], [1, 2]), ([1], [1]), ([3, 4, 3, 1], [1, 3, 4]), ([1, 5], [1, 5]), ([6, 5], [6]), ([7], [7]), ([8, 7, 7], [7, 8]), ([7], [7]), ([10, 7], [7, 10]), ([11, 7], [7, 11]), ([9, 12, 7], [7, 9, 12]), ([7, 13], [7, 13]), ([14, 9], [14]), ([15], [15]), ([15], [15]), ([16, 17, 15, 15], [15, 16, 17]), ([15], [15]), ([19, 15], [15, 19]), ([20, 20, 15], [15, 20]), ([15], [15]), ([21, 22, 18, 15], [15, 21, 22]), ([23, 23, 15], [15, 23]), ([18, 24, 24, 15], [15, 18, 24]), ([25, 15], [15, 25]), ([15, 26], [15, 26]), ([27, 25], [27]), ([28], [28]), ([28, 29], [28, 29]), ([30, 28], [30]), ([31], [31]), ([32, 31, 31], [31, 32]), ([31], [31]), ([33, 34, 33, 31], [31, 33, 34]), ([31, 35], [31, 35]), ([36, 35, 0, 1, 2, 3, 4, 5, 6, 7, 8, 9, 10, 11, 12, 13, 14, 15, 16, 17, 18, 19, 20, 21, 22, 23, 24, 25, 26, 27, 28, 29, 30, 31, 32, 33, 34, 35, 36], [36])])
def chattellaw01_NatCarries.B6 : List Nat := [0, 1, 3, 7, 3, 31, 63, 127, 255, 511, 255, 1279, 3327, 8191, 16383, 32767, 65535, 65535, 262143, 65535, 589823, 1638399, 65535, 8388607, 16777215, 33554431, 67108863, 134217727, 268435455, 536870911, 1073741823, 2147483647, 4294967295, 8589934591, 4294967295, 34359738367, 68719476735, 137438953471]
theorem chattellaw01_NatCarries.tab6 : rtab .any (opsOf Try.f7 6) = chattellaw01_NatCarries.T6 := by kernel_rfl
theorem chattellaw01_NatCarries.bits6 : waitsOk chattellaw01_NatCarries.T6.2 chattellaw01_NatCarries.B6 = true := by kernel_rfl
set_option maxHeartbeats 8000000 in
set_option maxRecDepth 100000 in
theorem chattellaw01_NatCarries.calls (k : Nat) (a0 : Int) (r : Bool) (w : World) (h : chattellaw01_NatCarries.f k a0 = some r) (ht_ : r = true) :
  Calls Try.prog 7 #[.int .u8 a0] w fun e w' => e = .returned (.bool r) ∧ Below w.heap.size w w' := by
 have hu25 := Try.underlying25
 have HB := Aside0.mk (Below.refl w.heap.size w)
 have H : ((slices_Repeat_uint64_uint64.f (([18446744073709551615] : List Int)) (wrap64 (Int.tmod a0 40))).bind fun t566 => ((nat_Of.f k t566).bind fun t569 => ((nat_Of.f k (([1] : List Int))).bind fun t575 => ((nat_Nat_Add.f k t569 t575).bind fun t578 => (if 0 ≤ (wrap64 (Int.tmod a0 40)) then (if (wrap64 (Int.tmod a0 40) : Int).toNat ≤ 35184372088832 then ((some (List.replicate (wrap64 (Int.tmod a0 40) : Int).toNat 0 : List Int)).bind fun y582 => ((some (([1] : List Int) : List Int)).bind fun y585 => (if y582.length + y585.length < 17592186044416 then ((nat_Of.f k (([1] : List Int))).bind fun t594 => ((nat_Nat_Sub.f k t578 t594).bind fun bt597 => ((chattellaw01_wakes.f k).bind fun t602 => (if t602 = true then ((nat_Nat_Limbs.f t578).bind fun t603 => ((slices_Equal_uint64_uint64.f k t603 (y582 ++ y585)).bind fun t606 => (if t606 = true then ((nat_Nat_Bits.f k t578).bind fun t607 => (if t607 = (wrap64 ((wrap64 (64 * (wrap64 (Int.tmod a0 40)))) + 1)) then ((nat_Nat_Mul.f k t578 t578).bind fun t608 => (if 0 ≤ (wrap64 (2 * (wrap64 (Int.tmod a0 40)))) then (if (wrap64 (2 * (wrap64 (Int.tmod a0 40))) : Int).toNat ≤ 35184372088832 then ((some (List.replicate (wrap64 (2 * (wrap64 (Int.tmod a0 40))) : Int).toNat 0 : List Int)).bind fun y611 => ((some (([1] : List Int) : List Int)).bind fun y614 => (if y611.length + y614.length < 17592186044416 then ((nat_Of.f k (y611 ++ y614)).bind fun t620 => ((nat_Nat_Cmp.f k t608 t620).bind fun t623 => (if t623 = 0 then (if bt597.2 = true then ((nat_Nat_Limbs.f bt597.1).bind fun t624 => ((slices_Equal_uint64_uint64.f k t624 t566).bind fun t627 => (some t627))) else (some false)) else (some false)))) else (none)))) else (none)) else (none))) else (some false))) else (some false)))) else (some false))))) else (none)))) else (none)) else (none)))))) = some r := h
 clear h
 obtain ⟨y563, hy563⟩ : ∃ y_ : List Int, y_ = (([18446744073709551615] : List Int)) := ⟨_, rfl⟩
 replace H : ((slices_Repeat_uint64_uint64.f y563 (wrap64 (Int.tmod a0 40))).bind fun t566 => ((nat_Of.f k t566).bind fun t569 => ((nat_Of.f k (([1] : List Int))).bind fun t575 => ((nat_Nat_Add.f k t569 t575).bind fun t578 => (if 0 ≤ (wrap64 (Int.tmod a0 40)) then (if (wrap64 (Int.tmod a0 40) : Int).toNat ≤ 35184372088832 then ((some (List.replicate (wrap64 (Int.tmod a0 40) : Int).toNat 0 : List Int)).bind fun y582 => ((some (([1] : List Int) : List Int)).bind fun y585 => (if y582.length + y585.length < 17592186044416 then ((nat_Of.f k (([1] : List Int))).bind fun t594 => ((nat_Nat_Sub.f k t578 t594).bind fun bt597 => ((chattellaw01_wakes.f k).bind fun t602 => (if t602 = true then ((nat_Nat_Limbs.f t578).bind fun t603 => ((slices_Equal_uint64_uint64.f k t603 (y582 ++ y585)).bind fun t606 => (if t606 = true then ((nat_Nat_Bits.f k t578).bind fun t607 => (if t607 = (wrap64 ((wrap64 (64 * (wrap64 (Int.tmod a0 40)))) + 1)) then ((nat_Nat_Mul.f k t578 t578).bind fun t608 => (if 0 ≤ (wrap64 (2 * (wrap64 (Int.tmod a0 40)))) then (if (wrap64 (2 * (wrap64 (Int.tmod a0 40))) : Int).toNat ≤ 35184372088832 then ((some (List.replicate (wrap64 (2 * (wrap64 (Int.tmod a0 40))) : Int).toNat 0 : List Int)).bind fun y611 => ((some (([1] : List Int) : List Int)).bind fun y614 => (if y611.length + y614.length < 17592186044416 then ((nat_Of.f k (y611 ++ y614)).bind fun t620 => ((nat_Nat_Cmp.f k t608 t620).bind fun t623 => (if t623 = 0 then (if bt597.2 = true then ((nat_Nat_Limbs.f bt597.1).bind fun t624 => ((slices_Equal_uint64_uint64.f k t624 t566).bind fun t627 => (some t627))) else (some false)) else (some false)))) else (none)))) else (none)) else (none))) else (some false))) else (some false)))) else (some false))))) else (none)))) else (none)) else (none)))))) = some r := by first | (rw [hy563]; with_reducible exact H) | (have H2_ := (Option.bind_some _ _).symm.trans H; rw [hy563]; with_reducible exact H2_) | (have H2_ := (Option.bind_some _ _).symm.trans H; with_reducible exact H2_) | with_reducible exact H | (rw [hy563]; exact H) | exact H
 have Ny563 := Aside0.mk hy563
 clear hy563
 replace H := Option.bind_eq_some_iff.mp H
 obtain ⟨t566, A20, H⟩ := H
 (try dsimp only at H)
 have A2 := Aside0.mk A20
 clear A20
 replace H := Option.bind_eq_some_iff.mp H
 obtain ⟨t569, A30, H⟩ := H
 (try dsimp only at H)
 have A3 := Aside0.mk A30
 clear A30
 obtain ⟨y572, hy572⟩ : ∃ y_ : List Int, y_ = (([1] : List Int)) := ⟨_, rfl⟩
 replace H : ((nat_Of.f k y572).bind fun t575 => ((nat_Nat_Add.f k t569 t575).bind fun t578 => (if 0 ≤ (wrap64 (Int.tmod a0 40)) then (if (wrap64 (Int.tmod a0 40) : Int).toNat ≤ 35184372088832 then ((some (List.replicate (wrap64 (Int.tmod a0 40) : Int).toNat 0 : List Int)).bind fun y582 => ((some (([1] : List Int) : List Int)).bind fun y585 => (if y582.length + y585.length < 17592186044416 then ((nat_Of.f k (([1] : List Int))).bind fun t594 => ((nat_Nat_Sub.f k t578 t594).bind fun bt597 => ((chattellaw01_wakes.f k).bind fun t602 => (if t602 = true then ((nat_Nat_Limbs.f t578).bind fun t603 => ((slices_Equal_uint64_uint64.f k t603 (y582 ++ y585)).bind fun t606 => (if t606 = true then ((nat_Nat_Bits.f k t578).bind fun t607 => (if t607 = (wrap64 ((wrap64 (64 * (wrap64 (Int.tmod a0 40)))) + 1)) then ((nat_Nat_Mul.f k t578 t578).bind fun t608 => (if 0 ≤ (wrap64 (2 * (wrap64 (Int.tmod a0 40)))) then (if (wrap64 (2 * (wrap64 (Int.tmod a0 40))) : Int).toNat ≤ 35184372088832 then ((some (List.replicate (wrap64 (2 * (wrap64 (Int.tmod a0 40))) : Int).toNat 0 : List Int)).bind fun y611 => ((some (([1] : List Int) : List Int)).bind fun y614 => (if y611.length + y614.length < 17592186044416 then ((nat_Of.f k (y611 ++ y614)).bind fun t620 => ((nat_Nat_Cmp.f k t608 t620).bind fun t623 => (if t623 = 0 then (if bt597.2 = true then ((nat_Nat_Limbs.f bt597.1).bind fun t624 => ((slices_Equal_uint64_uint64.f k t624 t566).bind fun t627 => (some t627))) else (some false)) else (some false)))) else (none)))) else (none)) else (none))) else (some false))) else (some false)))) else (some false))))) else (none)))) else (none)) else (none)))) = some r := by first | (rw [hy572]; with_reducible exact H) | (have H2_ := (Option.bind_some _ _).symm.trans H; rw [hy572]; with_reducible exact H2_) | (have H2_ := (Option.bind_some _ _).symm.trans H; with_reducible exact H2_) | with_reducible exact H | (rw [hy572]; exact H) | exact H
 have Ny572 := Aside0.mk hy572
 clear hy572
 replace H := Option.bind_eq_some_iff.mp H
 obtain ⟨t575, A40, H⟩ := H
 (try dsimp only at H)
 have A4 := Aside0.mk A40
 clear A40
 replace H := Option.bind_eq_some_iff.mp H
 obtain ⟨t578, A50, H⟩ := H
 (try dsimp only at H)
 have A5 := Aside0.mk A50
 clear A50
 obtain ⟨ji6, hji6⟩ : ∃ j_ : Int, (wrap64 (Int.tmod a0 40)) = j_ := ⟨_, rfl⟩
 replace H : (if 0 ≤ (ji6) then (if (ji6 : Int).toNat ≤ 35184372088832 then ((some (List.replicate (ji6 : Int).toNat 0 : List Int)).bind fun y582 => ((some (([1] : List Int) : List Int)).bind fun y585 => (if y582.length + y585.length < 17592186044416 then ((nat_Of.f k (([1] : List Int))).bind fun t594 => ((nat_Nat_Sub.f k t578 t594).bind fun bt597 => ((chattellaw01_wakes.f k).bind fun t602 => (if t602 = true then ((nat_Nat_Limbs.f t578).bind fun t603 => ((slices_Equal_uint64_uint64.f k t603 (y582 ++ y585)).bind fun t606 => (if t606 = true then ((nat_Nat_Bits.f k t578).bind fun t607 => (if t607 = (wrap64 ((wrap64 (64 * (ji6))) + 1)) then ((nat_Nat_Mul.f k t578 t578).bind fun t608 => (if 0 ≤ (wrap64 (2 * (ji6))) then (if (wrap64 (2 * (ji6)) : Int).toNat ≤ 35184372088832 then ((some (List.replicate (wrap64 (2 * (ji6)) : Int).toNat 0 : List Int)).bind fun y611 => ((some (([1] : List Int) : List Int)).bind fun y614 => (if y611.length + y614.length < 17592186044416 then ((nat_Of.f k (y611 ++ y614)).bind fun t620 => ((nat_Nat_Cmp.f k t608 t620).bind fun t623 => (if t623 = 0 then (if bt597.2 = true then ((nat_Nat_Limbs.f bt597.1).bind fun t624 => ((slices_Equal_uint64_uint64.f k t624 t566).bind fun t627 => (some t627))) else (some false)) else (some false)))) else (none)))) else (none)) else (none))) else (some false))) else (some false)))) else (some false))))) else (none)))) else (none)) else (none)) = some r := by first | (rw [hji6] at H; exact H) | (simp only [hji6] at H ⊢; exact H)
 (try rw [hji6] at A2)
 (try rw [hji6] at A3)
 (try rw [hji6] at A4)
 (try rw [hji6] at A5)
 have hji6w : (IntKind.i64.wrap (Int.tmod a0 40)) = ji6 := (i64_w _).trans hji6
 by_cases c7 : 0 ≤ (ji6)
 rotate_left
 ·rw [if_neg c7] at H
  exact absurd H (by simp)

 rw [if_pos c7] at H
 have c7b0 := eq_true c7
 have c7b1 : decide (0 ≤ (ji6)) = true := decide_eq_true c7
 clear c7
 by_cases c8 : (ji6 : Int).toNat ≤ 35184372088832
 rotate_left
 ·rw [if_neg c8] at H
  exact absurd H (by simp)
 rw [if_pos c8] at H
 have c8b0 := eq_true c8
 have c8b1 : decide ((ji6 : Int).toNat ≤ 35184372088832) = true := decide_eq_true c8
 clear c8
 obtain ⟨y582, hy582⟩ : ∃ y_ : List Int, y_ = (List.replicate (ji6 : Int).toNat 0) := ⟨_, rfl⟩
 replace H : ((some (([1] : List Int) : List Int)).bind fun y585 => (if y582.length + y585.length < 17592186044416 then ((nat_Of.f k (([1] : List Int))).bind fun t594 => ((nat_Nat_Sub.f k t578 t594).bind fun bt597 => ((chattellaw01_wakes.f k).bind fun t602 => (if t602 = true then ((nat_Nat_Limbs.f t578).bind fun t603 => ((slices_Equal_uint64_uint64.f k t603 (y582 ++ y585)).bind fun t606 => (if t606 = true then ((nat_Nat_Bits.f k t578).bind fun t607 => (if t607 = (wrap64 ((wrap64 (64 * (ji6))) + 1)) then ((nat_Nat_Mul.f k t578 t578).bind fun t608 => (if 0 ≤ (wrap64 (2 * (ji6))) then (if (wrap64 (2 * (ji6)) : Int).toNat ≤ 35184372088832 then ((some (List.replicate (wrap64 (2 * (ji6)) : Int).toNat 0 : List Int)).bind fun y611 => ((some (([1] : List Int) : List Int)).bind fun y614 => (if y611.length + y614.length < 17592186044416 then ((nat_Of.f k (y611 ++ y614)).bind fun t620 => ((nat_Nat_Cmp.f k t608 t620).bind fun t623 => (if t623 = 0 then (if bt597.2 = true then ((nat_Nat_Limbs.f bt597.1).bind fun t624 => ((slices_Equal_uint64_uint64.f k t624 t566).bind fun t627 => (some t627))) else (some false)) else (some false)))) else (none)))) else (none)) else (none))) else (some false))) else (some false)))) else (some false))))) else (none))) = some r := by first | (rw [hy582]; with_reducible exact H) | (have H2_ := (Option.bind_some _ _).symm.trans H; rw [hy582]; with_reducible exact H2_) | (have H2_ := (Option.bind_some _ _).symm.trans H; with_reducible exact H2_) | with_reducible exact H | (rw [hy582]; exact H) | exact H
 have Ny582 := Aside0.mk hy582
 clear hy582
 obtain ⟨y585, hy585⟩ : ∃ y_ : List Int, y_ = (([1] : List Int)) := ⟨_, rfl⟩
 replace H : (if y582.length + y585.length < 17592186044416 then ((nat_Of.f k (([1] : List Int))).bind fun t594 => ((nat_Nat_Sub.f k t578 t594).bind fun bt597 => ((chattellaw01_wakes.f k).bind fun t602 => (if t602 = true then ((nat_Nat_Limbs.f t578).bind fun t603 => ((slices_Equal_uint64_uint64.f k t603 (y582 ++ y585)).bind fun t606 => (if t606 = true then ((nat_Nat_Bits.f k t578).bind fun t607 => (if t607 = (wrap64 ((wrap64 (64 * (ji6))) + 1)) then ((nat_Nat_Mul.f k t578 t578).bind fun t608 => (if 0 ≤ (wrap64 (2 * (ji6))) then (if (wrap64 (2 * (ji6)) : Int).toNat ≤ 35184372088832 then ((some (List.replicate (wrap64 (2 * (ji6)) : Int).toNat 0 : List Int)).bind fun y611 => ((some (([1] : List Int) : List Int)).bind fun y614 => (if y611.length + y614.length < 17592186044416 then ((nat_Of.f k (y611 ++ y614)).bind fun t620 => ((nat_Nat_Cmp.f k t608 t620).bind fun t623 => (if t623 = 0 then (if bt597.2 = true then ((nat_Nat_Limbs.f bt597.1).bind fun t624 => ((slices_Equal_uint64_uint64.f k t624 t566).bind fun t627 => (some t627))) else (some false)) else (some false)))) else (none)))) else (none)) else (none))) else (some false))) else (some false)))) else (some false))))) else (none)) = some r := by first | (rw [hy585]; with_reducible exact H) | (have H2_ := (Option.bind_some _ _).symm.trans H; rw [hy585]; with_reducible exact H2_) | (have H2_ := (Option.bind_some _ _).symm.trans H; with_reducible exact H2_) | with_reducible exact H | (rw [hy585]; exact H) | exact H
 have Ny585 := Aside0.mk hy585
 clear hy585
 by_cases c9 : y582.length + y585.length < 17592186044416
 rotate_left
 ·rw [if_neg c9] at H
  exact absurd H (by simp)
 rw [if_pos c9] at H
 have LMc9 := Aside0.mk c9
 clear c9
 obtain ⟨y588, hy588⟩ : ∃ y_ : List Int, y_ = (y582 ++ y585) := ⟨_, rfl⟩
 replace H : ((nat_Of.f k (([1] : List Int))).bind fun t594 => ((nat_Nat_Sub.f k t578 t594).bind fun bt597 => ((chattellaw01_wakes.f k).bind fun t602 => (if t602 = true then ((nat_Nat_Limbs.f t578).bind fun t603 => ((slices_Equal_uint64_uint64.f k t603 y588).bind fun t606 => (if t606 = true then ((nat_Nat_Bits.f k t578).bind fun t607 => (if t607 = (wrap64 ((wrap64 (64 * (ji6))) + 1)) then ((nat_Nat_Mul.f k t578 t578).bind fun t608 => (if 0 ≤ (wrap64 (2 * (ji6))) then (if (wrap64 (2 * (ji6)) : Int).toNat ≤ 35184372088832 then ((some (List.replicate (wrap64 (2 * (ji6)) : Int).toNat 0 : List Int)).bind fun y611 => ((some (([1] : List Int) : List Int)).bind fun y614 => (if y611.length + y614.length < 17592186044416 then ((nat_Of.f k (y611 ++ y614)).bind fun t620 => ((nat_Nat_Cmp.f k t608 t620).bind fun t623 => (if t623 = 0 then (if bt597.2 = true then ((nat_Nat_Limbs.f bt597.1).bind fun t624 => ((slices_Equal_uint64_uint64.f k t624 t566).bind fun t627 => (some t627))) else (some false)) else (some false)))) else (none)))) else (none)) else (none))) else (some false))) else (some false)))) else (some false))))) = some r := by first | (rw [hy588]; with_reducible exact H) | (have H2_ := (Option.bind_some _ _).symm.trans H; rw [hy588]; with_reducible exact H2_) | (have H2_ := (Option.bind_some _ _).symm.trans H; with_reducible exact H2_) | with_reducible exact H | (rw [hy588]; exact H) | exact H
 have Ny588 := Aside0.mk hy588
 clear hy588
 obtain ⟨y591, hy591⟩ : ∃ y_ : List Int, y_ = (([1] : List Int)) := ⟨_, rfl⟩
 replace H : ((nat_Of.f k y591).bind fun t594 => ((nat_Nat_Sub.f k t578 t594).bind fun bt597 => ((chattellaw01_wakes.f k).bind fun t602 => (if t602 = true then ((nat_Nat_Limbs.f t578).bind fun t603 => ((slices_Equal_uint64_uint64.f k t603 y588).bind fun t606 => (if t606 = true then ((nat_Nat_Bits.f k t578).bind fun t607 => (if t607 = (wrap64 ((wrap64 (64 * (ji6))) + 1)) then ((nat_Nat_Mul.f k t578 t578).bind fun t608 => (if 0 ≤ (wrap64 (2 * (ji6))) then (if (wrap64 (2 * (ji6)) : Int).toNat ≤ 35184372088832 then ((some (List.replicate (wrap64 (2 * (ji6)) : Int).toNat 0 : List Int)).bind fun y611 => ((some (([1] : List Int) : List Int)).bind fun y614 => (if y611.length + y614.length < 17592186044416 then ((nat_Of.f k (y611 ++ y614)).bind fun t620 => ((nat_Nat_Cmp.f k t608 t620).bind fun t623 => (if t623 = 0 then (if bt597.2 = true then ((nat_Nat_Limbs.f bt597.1).bind fun t624 => ((slices_Equal_uint64_uint64.f k t624 t566).bind fun t627 => (some t627))) else (some false)) else (some false)))) else (none)))) else (none)) else (none))) else (some false))) else (some false)))) else (some false))))) = some r := by first | (rw [hy591]; with_reducible exact H) | (have H2_ := (Option.bind_some _ _).symm.trans H; rw [hy591]; with_reducible exact H2_) | (have H2_ := (Option.bind_some _ _).symm.trans H; with_reducible exact H2_) | with_reducible exact H | (rw [hy591]; exact H) | exact H
 have Ny591 := Aside0.mk hy591
 clear hy591
 replace H := Option.bind_eq_some_iff.mp H
 obtain ⟨t594, A100, H⟩ := H
 (try dsimp only at H)
 have A10 := Aside0.mk A100
 clear A100
 replace H := Option.bind_eq_some_iff.mp H
 obtain ⟨⟨t597, t600⟩, A110, H⟩ := H
 (try dsimp only at H)
 have A11 := Aside0.mk A110
 clear A110
 replace H := Option.bind_eq_some_iff.mp H
 obtain ⟨t602, A120, H⟩ := H
 (try dsimp only at H)
 have A12 := Aside0.mk A120
 clear A120
 by_cases c13 : t602 = true
 ·subst c13
  have H1 : ((nat_Nat_Limbs.f t578).bind fun t603 => ((slices_Equal_uint64_uint64.f k t603 y588).bind fun t606 => (if t606 = true then ((nat_Nat_Bits.f k t578).bind fun t607 => (if t607 = (wrap64 ((wrap64 (64 * (ji6))) + 1)) then ((nat_Nat_Mul.f k t578 t578).bind fun t608 => (if 0 ≤ (wrap64 (2 * (ji6))) then (if (wrap64 (2 * (ji6)) : Int).toNat ≤ 35184372088832 then ((some (List.replicate (wrap64 (2 * (ji6)) : Int).toNat 0 : List Int)).bind fun y611 => ((some (([1] : List Int) : List Int)).bind fun y614 => (if y611.length + y614.length < 17592186044416 then ((nat_Of.f k (y611 ++ y614)).bind fun t620 => ((nat_Nat_Cmp.f k t608 t620).bind fun t623 => (if t623 = 0 then (if t600 = true then ((nat_Nat_Limbs.f t597).bind fun t624 => ((slices_Equal_uint64_uint64.f k t624 t566).bind fun t627 => (some t627))) else (some false)) else (some false)))) else (none)))) else (none)) else (none))) else (some false))) else (some false)))) = some r := by rw [if_pos rfl] at H; exact H
  clear H
  have H := H1
  clear H1
  replace H := Option.bind_eq_some_iff.mp H
  obtain ⟨t603, A140, H⟩ := H
  (try dsimp only at H)
  have A14 := Aside0.mk A140
  clear A140
  replace H := Option.bind_eq_some_iff.mp H
  obtain ⟨t606, A150, H⟩ := H
  (try dsimp only at H)
  have A15 := Aside0.mk A150
  clear A150
  by_cases c16 : t606 = true
  ·subst c16
   have H1 : ((nat_Nat_Bits.f k t578).bind fun t607 => (if t607 = (wrap64 ((wrap64 (64 * (ji6))) + 1)) then ((nat_Nat_Mul.f k t578 t578).bind fun t608 => (if 0 ≤ (wrap64 (2 * (ji6))) then (if (wrap64 (2 * (ji6)) : Int).toNat ≤ 35184372088832 then ((some (List.replicate (wrap64 (2 * (ji6)) : Int).toNat 0 : List Int)).bind fun y611 => ((some (([1] : List Int) : List Int)).bind fun y614 => (if y611.length + y614.length < 17592186044416 then ((nat_Of.f k (y611 ++ y614)).bind fun t620 => ((nat_Nat_Cmp.f k t608 t620).bind fun t623 => (if t623 = 0 then (if t600 = true then ((nat_Nat_Limbs.f t597).bind fun t624 => ((slices_Equal_uint64_uint64.f k t624 t566).bind fun t627 => (some t627))) else (some false)) else (some false)))) else (none)))) else (none)) else (none))) else (some false))) = some r := by rw [if_pos rfl] at H; exact H
   clear H
   have H := H1
   clear H1
   replace H := Option.bind_eq_some_iff.mp H
   obtain ⟨t607, A170, H⟩ := H
   (try dsimp only at H)
   have A17 := Aside0.mk A170
   clear A170
   by_cases c18 : t607 = (wrap64 ((wrap64 (64 * (ji6))) + 1))
   rotate_left
   ·rw [if_neg c18] at H
    have c18b0 : (t607 == (wrap64 ((wrap64 (64 * (ji6))) + 1))) = false := beq_eq_false_iff_ne.mpr c18
    have c18b1 : (t607 != (wrap64 ((wrap64 (64 * (ji6))) + 1))) = true := bne_iff_ne.mpr c18
    exact absurd (Option.some.inj H) (by rw [ht_]; decide)
   rw [if_pos c18] at H
   have c18b0 : (t607 == (wrap64 ((wrap64 (64 * (ji6))) + 1))) = true := beq_iff_eq.mpr c18
   have c18b1 : (t607 != (wrap64 ((wrap64 (64 * (ji6))) + 1))) = false := bne_eq_false_iff_eq.mpr c18
   clear c18
   replace H := Option.bind_eq_some_iff.mp H
   obtain ⟨t608, A190, H⟩ := H
   (try dsimp only at H)
   have A19 := Aside0.mk A190
   clear A190
   obtain ⟨ji20, hji20⟩ : ∃ j_ : Int, (wrap64 (2 * (ji6))) = j_ := ⟨_, rfl⟩
   replace H : (if 0 ≤ (ji20) then (if (ji20 : Int).toNat ≤ 35184372088832 then ((some (List.replicate (ji20 : Int).toNat 0 : List Int)).bind fun y611 => ((some (([1] : List Int) : List Int)).bind fun y614 => (if y611.length + y614.length < 17592186044416 then ((nat_Of.f k (y611 ++ y614)).bind fun t620 => ((nat_Nat_Cmp.f k t608 t620).bind fun t623 => (if t623 = 0 then (if t600 = true then ((nat_Nat_Limbs.f t597).bind fun t624 => ((slices_Equal_uint64_uint64.f k t624 t566).bind fun t627 => (some t627))) else (some false)) else (some false)))) else (none)))) else (none)) else (none)) = some r := by first | (rw [hji20] at H; exact H) | (simp only [hji20] at H ⊢; exact H)
   (try rw [hji20] at A2)
   (try rw [hji20] at A3)
   (try rw [hji20] at A4)
   (try rw [hji20] at A5)
   (try rw [hji20] at A10)
   (try rw [hji20] at A11)
   (try rw [hji20] at A12)
   (try rw [hji20] at A14)
   (try rw [hji20] at A15)
   (try rw [hji20] at A17)
   (try rw [hji20] at A19)
   have hji20w : (IntKind.i64.wrap (2 * (ji6))) = ji20 := (i64_w _).trans hji20
   by_cases c21 : 0 ≤ (ji20)
   rotate_left
   ·rw [if_neg c21] at H
    exact absurd H (by simp)
   rw [if_pos c21] at H
   have c21b0 := eq_true c21
   have c21b1 : decide (0 ≤ (ji20)) = true := decide_eq_true c21
   clear c21
   by_cases c22 : (ji20 : Int).toNat ≤ 35184372088832
   rotate_left
   ·rw [if_neg c22] at H
    exact absurd H (by simp)
   rw [if_pos c22] at H
   have c22b0 := eq_true c22
   have c22b1 : decide ((ji20 : Int).toNat ≤ 35184372088832) = true := decide_eq_true c22
   clear c22
   obtain ⟨y611, hy611⟩ : ∃ y_ : List Int, y_ = (List.replicate (ji20 : Int).toNat 0) := ⟨_, rfl⟩
   replace H : ((some (([1] : List Int) : List Int)).bind fun y614 => (if y611.length + y614.length < 17592186044416 then ((nat_Of.f k (y611 ++ y614)).bind fun t620 => ((nat_Nat_Cmp.f k t608 t620).bind fun t623 => (if t623 = 0 then (if t600 = true then ((nat_Nat_Limbs.f t597).bind fun t624 => ((slices_Equal_uint64_uint64.f k t624 t566).bind fun t627 => (some t627))) else (some false)) else (some false)))) else (none))) = some r := by first | (rw [hy611]; with_reducible exact H) | (have H2_ := (Option.bind_some _ _).symm.trans H; rw [hy611]; with_reducible exact H2_) | (have H2_ := (Option.bind_some _ _).symm.trans H; with_reducible exact H2_) | with_reducible exact H | (rw [hy611]; exact H) | exact H
   have Ny611 := Aside0.mk hy611
   clear hy611
   obtain ⟨y614, hy614⟩ : ∃ y_ : List Int, y_ = (([1] : List Int)) := ⟨_, rfl⟩
   replace H : (if y611.length + y614.length < 17592186044416 then ((nat_Of.f k (y611 ++ y614)).bind fun t620 => ((nat_Nat_Cmp.f k t608 t620).bind fun t623 => (if t623 = 0 then (if t600 = true then ((nat_Nat_Limbs.f t597).bind fun t624 => ((slices_Equal_uint64_uint64.f k t624 t566).bind fun t627 => (some t627))) else (some false)) else (some false)))) else (none)) = some r := by first | (rw [hy614]; with_reducible exact H) | (have H2_ := (Option.bind_some _ _).symm.trans H; rw [hy614]; with_reducible exact H2_) | (have H2_ := (Option.bind_some _ _).symm.trans H; with_reducible exact H2_) | with_reducible exact H | (rw [hy614]; exact H) | exact H
   have Ny614 := Aside0.mk hy614
   clear hy614
   by_cases c23 : y611.length + y614.length < 17592186044416
   rotate_left
   ·rw [if_neg c23] at H
    exact absurd H (by simp)
   rw [if_pos c23] at H
   have LMc23 := Aside0.mk c23
   clear c23
   obtain ⟨y617, hy617⟩ : ∃ y_ : List Int, y_ = (y611 ++ y614) := ⟨_, rfl⟩
   replace H : ((nat_Of.f k y617).bind fun t620 => ((nat_Nat_Cmp.f k t608 t620).bind fun t623 => (if t623 = 0 then (if t600 = true then ((nat_Nat_Limbs.f t597).bind fun t624 => ((slices_Equal_uint64_uint64.f k t624 t566).bind fun t627 => (some t627))) else (some false)) else (some false)))) = some r := by first | (rw [hy617]; with_reducible exact H) | (have H2_ := (Option.bind_some _ _).symm.trans H; rw [hy617]; with_reducible exact H2_) | (have H2_ := (Option.bind_some _ _).symm.trans H; with_reducible exact H2_) | with_reducible exact H | (rw [hy617]; exact H) | exact H
   have Ny617 := Aside0.mk hy617
   clear hy617
   replace H := Option.bind_eq_some_iff.mp H
   obtain ⟨t620, A240, H⟩ := H
   (try dsimp only at H)
   have A24 := Aside0.mk A240
   clear A240
   replace H := Option.bind_eq_some_iff.mp H
   obtain ⟨t623, A250, H⟩ := H
   (try dsimp only at H)
   have A25 := Aside0.mk A250
   clear A250
   by_cases c26 : t623 = 0
   rotate_left
   ·rw [if_neg c26] at H
    have c26b0 : (t623 == 0) = false := beq_eq_false_iff_ne.mpr c26
    have c26b1 : (t623 != 0) = true := bne_iff_ne.mpr c26
    exact absurd (Option.some.inj H) (by rw [ht_]; decide)
   rw [if_pos c26] at H
   have c26b0 : (t623 == 0) = true := beq_iff_eq.mpr c26
   have c26b1 : (t623 != 0) = false := bne_eq_false_iff_eq.mpr c26
   clear c26
   by_cases c27 : t600 = true
   ·subst c27
    have H1 : ((nat_Nat_Limbs.f t597).bind fun t624 => ((slices_Equal_uint64_uint64.f k t624 t566).bind fun t627 => (some t627))) = some r := by rw [if_pos rfl] at H; exact H
    clear H
    have H := H1
    clear H1
    replace H := Option.bind_eq_some_iff.mp H
    obtain ⟨t624, A280, H⟩ := H
    (try dsimp only at H)
    have A28 := Aside0.mk A280
    clear A280
    replace H := Option.bind_eq_some_iff.mp H
    obtain ⟨t627, A290, H⟩ := H
    (try dsimp only at H)
    have A29 := Aside0.mk A290
    clear A290
    obtain rfl := Option.some.inj H
    go_enter Try.func7, Try.ntmps7
    try go_wp2_with (first | ((with_reducible refine gate_dst (N := 12) rfl ?_); (try (refine gate_guard (by rfl) ?_; dsimp only)); refine Kd.R_lit (Kd.int .u64) _ 27 ?hg (N := 12) ?hd (xs := ([18446744073709551615] : List Int)) (inner := [.int .u64 18446744073709551615]) (ok := fun _ => True) (okp := fun _ => True) ?hr ?hp (fun _ hk => hk) trivial (Below.refl _ _) (Nat.le_refl _) (by simp) ?_; (case hd => rfl); (case hg => rfl); (case hr => first | (go_simp; done) | (go_simp; rfl)); (case hp => exact (Reps.one (show Kd.M (Kd.int .u64) _ _ _ 18446744073709551615 [.int .u64 18446744073709551615] from rfl) (Reps.none _ _))); intro v564 w30 ho31 hb hg_ hnew_; clear hg_ hnew_; (first | rw [← Ny563.out] at ho31 | (simp only [Int.reduceToNat] at ho31; rw [← Ny563.out] at ho31)); have HO565 := Aside0.mk (Kd.R_lower ho31 (below_size (by repeat (first | (with_reducible first | exact HB.out | apply below_alloc | apply pw_below_drewN | apply below_drew1) | exact HB.out)))); replace HB := Aside0.mk (below_step (by repeat (first | (with_reducible first | exact HB.out | apply below_alloc | apply pw_below_drewN | apply below_drew1) | exact HB.out)) hb); clear hb ho31; obtain ⟨Ao32, co32, eo32⟩ := Kd.R_slice HO565.out; subst eo32) | ((with_reducible refine gate_callee (f := 31) rfl ?_); refine goesL_ (some 14) rfl rfl Try.func31 (by kernel_rfl) rfl #[.slice Ao32 y563.length co32, .int .i64 ji6] rfl (by (try simp only [List.map_toArray, List.map_cons, List.map_nil]); first | done | (simp only [hji6]; rfl) | rfl | (simp only [List.length_drop, List.length_take]; rfl)) ?_; (with_reducible refine (slices_Repeat_uint64_uint64.calls _ _ y563 ji6 t566 _ ?side1 ?side2 A2.out).mono ?_); (case side1 => exact cr HO565.out); (case side2 => exact (Kd.R_reads' HO565.out).2.1); rintro e w33 ⟨v567, rfl, ho0, hb⟩; refine ⟨_, rfl, ?_⟩; have n0_ := Aside0.mk (Kd.R_elder' HO565.out (Kd.R_base ho0) hb); have n1_ := Aside0.mk (Kd.R_lower (Kd.R_new' ho0 (Kd.R_lt HO565.out)) (below_size (by repeat (first | (with_reducible first | exact HB.out | apply below_alloc | apply pw_below_drewN | apply below_drew1) | exact HB.out)))); have n2_ := Aside0.mk (below_step (by repeat (first | (with_reducible first | exact HB.out | apply below_alloc | apply pw_below_drewN | apply below_drew1) | exact HB.out)) hb); clear HO565; clear HB; have HO565 := n0_; have HO568 := n1_; have HB := n2_; clear n0_ n1_ n2_; (try clear hb); (try clear hb2); (try clear hk); (try clear hi); (try clear ho0); obtain ⟨Ao34, co34, eo34⟩ := Kd.R_slice HO568.out; subst eo34) | ((with_reducible refine gate_callee (f := 14) rfl ?_); refine goesL_ (some 16) rfl rfl Try.func14 (by kernel_rfl) rfl #[.slice Ao34 t566.length co34] rfl (by (try simp only [List.map_toArray, List.map_cons, List.map_nil]); first | done | rfl | (simp only [List.length_drop, List.length_take]; rfl)) ?_; (with_reducible refine (nat_Of.calls k _ _ t566 t569 _ ?side1 ?side2 A3.out).mono ?_); (case side1 => exact cr HO568.out); (case side2 => exact (Kd.R_reads' HO568.out).2.1); rintro e w35 ⟨v570, rfl, ho0, hb⟩; refine ⟨_, rfl, ?_⟩; have n0_ := Aside0.mk (rb HO565.out hb); have n1_ := Aside0.mk (rb HO568.out hb); have n2_ := Aside0.mk (Kd.V_lower (Kd.V_mono (ok' := fun k_ => OB Ao32 y563 co32 k_ ∧ OB Ao34 t566 co34 k_) ho0 (fun k_ hk_ => ⟨(Kd.fresh' (Kd.R_lt HO565.out) k_ hk_), (Kd.fresh' (Kd.R_lt HO568.out) k_ hk_)⟩)) (bz HB.out)); have n3_ := Aside0.mk (bs HB.out hb); clear HO565; clear HO568; clear HB; have HO565 := n0_; have HO568 := n1_; have HO571 := n2_; have HB := n3_; clear n0_ n1_ n2_ n3_; (try clear hb); (try clear hb2); (try clear hk); (try clear hi); (try clear ho0)) | ((with_reducible refine gate_dst (N := 17) rfl ?_); (try (refine gate_guard (by rfl) ?_; dsimp only)); refine Kd.R_lit (Kd.int .u64) _ 27 ?hg (N := 17) ?hd (xs := ([1] : List Int)) (inner := [.int .u64 1]) (ok := fun _ => True) (okp := fun _ => True) ?hr ?hp (fun _ hk => hk) trivial (Below.refl _ _) (Nat.le_refl _) (by simp) ?_; (case hd => rfl); (case hg => rfl); (case hr => first | (go_simp; done) | (go_simp; rfl)); (case hp => exact (Reps.one (show Kd.M (Kd.int .u64) _ _ _ 1 [.int .u64 1] from rfl) (Reps.none _ _))); intro v573 w36 ho37 hb hg_ hnew_; clear hg_ hnew_; (first | rw [← Ny572.out] at ho37 | (simp only [Int.reduceToNat] at ho37; rw [← Ny572.out] at ho37)); have n0_ := Aside0.mk (Kd.R_elder' HO565.out (Kd.R_base ho37) hb); have n1_ := Aside0.mk (Kd.R_elder' HO568.out (Kd.R_base ho37) hb); have n2_ := Aside0.mk (Kd.V_elder' HO571.out (Kd.R_base ho37) hb); have n3_ := Aside0.mk (Kd.R_lower (Kd.R_new' (Kd.R_new' ho37 (Kd.R_lt HO565.out)) (Kd.R_lt HO568.out)) (below_size (by repeat (first | (with_reducible first | exact HB.out | apply below_alloc | apply pw_below_drewN | apply below_drew1) | exact HB.out)))); have n4_ := Aside0.mk (below_step (by repeat (first | (with_reducible first | exact HB.out | apply below_alloc | apply pw_below_drewN | apply below_drew1) | exact HB.out)) hb); clear HO565; clear HO568; clear HO571; clear HB; have HO565 := n0_; have HO568 := n1_; have HO571 := n2_; have HO574 := n3_; have HB := n4_; clear n0_ n1_ n2_ n3_ n4_; clear hb ho37; obtain ⟨Ao38, co38, eo38⟩ := Kd.R_slice HO574.out; subst eo38) | ((with_reducible refine gate_callee (f := 14) rfl ?_); refine goesL_ (some 18) rfl rfl Try.func14 (by kernel_rfl) rfl #[.slice Ao38 y572.length co38] rfl (by (try simp only [List.map_toArray, List.map_cons, List.map_nil]); first | done | rfl | (simp only [List.length_drop, List.length_take]; rfl)) ?_; (with_reducible refine (nat_Of.calls k _ _ y572 t575 _ ?side1 ?side2 A4.out).mono ?_); (case side1 => exact cr HO574.out); (case side2 => exact (Kd.R_reads' HO574.out).2.1); rintro e w39 ⟨v576, rfl, ho0, hb⟩; refine ⟨_, rfl, ?_⟩; have n0_ := Aside0.mk (rb HO565.out hb); have n1_ := Aside0.mk (rb HO568.out hb); have n2_ := Aside0.mk (vb HO571.out hb); have n3_ := Aside0.mk (rb HO574.out hb); have n4_ := Aside0.mk (Kd.V_lower (Kd.V_mono (ok' := fun k_ => OB Ao32 y563 co32 k_ ∧ OB Ao34 t566 co34 k_ ∧ OB Ao38 y572 co38 k_) ho0 (fun k_ hk_ => ⟨(Kd.fresh' (Kd.R_lt HO565.out) k_ hk_), (Kd.fresh' (Kd.R_lt HO568.out) k_ hk_), (Kd.fresh' (Kd.R_lt HO574.out) k_ hk_)⟩)) (bz HB.out)); have n5_ := Aside0.mk (bs HB.out hb); clear HO565; clear HO568; clear HO571; clear HO574; clear HB; have HO565 := n0_; have HO568 := n1_; have HO571 := n2_; have HO574 := n3_; have HO577 := n4_; have HB := n5_; clear n0_ n1_ n2_ n3_ n4_ n5_; (try clear hb); (try clear hb2); (try clear hk); (try clear hi); (try clear ho0); obtain ⟨Ao40, co40, eo40⟩ := Kd.V_slice HO571.out; subst eo40; obtain ⟨Ao41, co41, eo41⟩ := Kd.V_slice HO577.out; subst eo41) | ((with_reducible refine gate_callee (f := 25) rfl ?_); refine goesL_ (some 19) rfl rfl Try.func25 (by kernel_rfl) rfl #[.agg #[.slice Ao40 t569.length co40], .agg #[.slice Ao41 t575.length co41]] rfl (by (try simp only [List.map_toArray, List.map_cons, List.map_nil]); first | done | rfl | (simp only [List.length_drop, List.length_take]; rfl)) ?_; (with_reducible refine (nat_Nat_Add.calls k _ _ t569 _ _ t575 t578 _ ?side1 ?side2 ?side3 ?side4 A5.out).mono ?_); (case side1 => exact cv HO571.out); (case side2 => exact (Kd.V_reads' HO571.out).2.1); (case side3 => exact cv HO577.out); (case side4 => exact (Kd.V_reads' HO577.out).2.1); rintro e w42 ⟨v579, rfl, ho0, hb⟩; refine ⟨_, rfl, ?_⟩; have n0_ := Aside0.mk (rb HO565.out hb); have n1_ := Aside0.mk (rb HO568.out hb); have n2_ := Aside0.mk (vb HO571.out hb); have n3_ := Aside0.mk (rb HO574.out hb); have n4_ := Aside0.mk (vb HO577.out hb); have n5_ := Aside0.mk (Kd.V_lower (Kd.V_mono (ok' := fun k_ => OB Ao32 y563 co32 k_ ∧ OB Ao34 t566 co34 k_ ∧ OB Ao38 y572 co38 k_) ho0 (fun k_ hk_ => ⟨(Kd.fresh' (Kd.R_lt HO565.out) k_ hk_), (Kd.fresh' (Kd.R_lt HO568.out) k_ hk_), (Kd.fresh' (Kd.R_lt HO574.out) k_ hk_)⟩)) (bz HB.out)); have n6_ := Aside0.mk (bs HB.out hb); clear HO565; clear HO568; clear HO571; clear HO574; clear HO577; clear HB; have HO565 := n0_; have HO568 := n1_; have HO571 := n2_; have HO574 := n3_; have HO577 := n4_; have HO580 := n5_; have HB := n6_; clear n0_ n1_ n2_ n3_ n4_ n5_ n6_; (try clear hb); (try clear hb2); (try clear hk); (try clear hi); (try clear ho0)) | ((with_reducible refine gate_dst (N := 5) rfl ?_); (try (refine gate_guard (by rfl) ?_; dsimp only)); refine box_event ?hg (N := 5) ?hd (cs := #[.slice none 0 0]) (t := 25) ?hr ?_; (case hd => rfl); (case hg => rfl); (case hr => first | (go_simp; done) | (go_simp; rfl)); intro gb581 hg w43 hbox hb; have n0_ := Aside0.mk (rb HO565.out hb); have n1_ := Aside0.mk (rb HO568.out hb); have n2_ := Aside0.mk (Kd.V_below (Kd.V_elderB HO571.out gb581 (Nat.le_of_eq hg.symm)) hb); have n3_ := Aside0.mk (rb HO574.out hb); have n4_ := Aside0.mk (Kd.V_below (Kd.V_elderB HO577.out gb581 (Nat.le_of_eq hg.symm)) hb); have n5_ := Aside0.mk (Kd.V_below (Kd.V_elderB HO580.out gb581 (Nat.le_of_eq hg.symm)) hb); have n6_ := Aside0.mk (bs HB.out hb); have n7_ := Aside0.mk (hbox); have n8_ := Aside0.mk ((by rw [hg]; exact (bz HB.out) : w.heap.size ≤ gb581)); have n9_ := Aside0.mk ((by rw [hg]; exact (bz HB.out) : w.heap.size ≤ gb581)); clear HO565; clear HO568; clear HO571; clear HO574; clear HO577; clear HO580; clear HB; have HO565 := n0_; have HO568 := n1_; have HO571 := n2_; have HO574 := n3_; have HO577 := n4_; have HO580 := n5_; have HB := n6_; have BK581 := n7_; have GW581 := n8_; have GE581 := n9_; clear n0_ n1_ n2_ n3_ n4_ n5_ n6_ n7_ n8_ n9_; clear hb hbox hg; obtain ⟨Ao44, co44, eo44⟩ := Kd.V_slice HO580.out; subst eo44; have hcz45_0 : w43.cell? ⟨gb581, 0, none⟩ = some (.slice none 0 0) := (blk_cell BK581.out 0).trans rfl; have hfz45_0 := blk_frozen BK581.out 0) | ((with_reducible refine gate_dst (N := 21) rfl ?_); (try (refine gate_guard (by rfl) ?_; dsimp only)); refine Kd.R_make (Kd.int .u64) _ 27 rfl (N := 21) rfl 22 _ _ rfl ji6 rfl rfl Try.underlying22 (.int .u64 0) 8 info27 rfl (by decide) (by omega) 0 (ok := fun _ => True) (okp := fun _ => True) rfl (fun _ hk => hk) trivial (of_decide_eq_true (by first | (with_reducible assumption) | assumption)) (Nat.le_trans (Nat.mul_le_mul_right _ (of_decide_eq_true (by first | (with_reducible assumption) | assumption) : ji6.toNat ≤ 35184372088832)) (by omega)) (Below.refl _ _) (Nat.le_refl _) ?_; intro v583 w46 ho47 hb hg_ hnew_; clear hg_ hnew_; (first | rw [← Ny582.out] at ho47 | (simp only [Int.reduceToNat] at ho47; rw [← Ny582.out] at ho47)); have n0_ := Aside0.mk (Kd.R_elder' (by (with_reducible repeat (first | apply Kd.R_alloc | apply Kd.R_drewN | apply Kd.R_drew)); exact (Kd.R_mono (Kd.R_far (p := ⟨gb581, 0, none⟩) (Kd.R_types HO565.out BK581.out (by decide)) (fun _ hk => hk.2) (.slice Ao44 t578.length co44)) (fun _ h_ => h_.1))) (Kd.R_base ho47) hb); have n1_ := Aside0.mk (Kd.R_elder' (by (with_reducible repeat (first | apply Kd.R_alloc | apply Kd.R_drewN | apply Kd.R_drew)); exact (Kd.R_mono (Kd.R_far (p := ⟨gb581, 0, none⟩) (Kd.R_types HO568.out BK581.out (by decide)) (fun _ hk => hk.2) (.slice Ao44 t578.length co44)) (fun _ h_ => h_.1))) (Kd.R_base ho47) hb); have n2_ := Aside0.mk (Kd.V_elder' (by (with_reducible repeat (first | apply Kd.V_alloc | apply Kd.V_drewN | apply Kd.V_drew)); exact (Kd.V_mono (Kd.V_far (p := ⟨gb581, 0, none⟩) (Kd.V_mono HO571.out (fun k_ hk => (⟨hk, hk.2⟩ : _ ∧ k_ ≠ gb581))) (fun _ hk => hk.2) (.slice Ao44 t578.length co44)) (fun _ h_ => h_.1))) (Kd.R_base ho47) hb); have n3_ := Aside0.mk (Kd.R_elder' (by (with_reducible repeat (first | apply Kd.R_alloc | apply Kd.R_drewN | apply Kd.R_drew)); exact (Kd.R_mono (Kd.R_far (p := ⟨gb581, 0, none⟩) (Kd.R_types HO574.out BK581.out (by decide)) (fun _ hk => hk.2) (.slice Ao44 t578.length co44)) (fun _ h_ => h_.1))) (Kd.R_base ho47) hb); have n4_ := Aside0.mk (Kd.V_elder' (by (with_reducible repeat (first | apply Kd.V_alloc | apply Kd.V_drewN | apply Kd.V_drew)); exact (Kd.V_mono (Kd.V_far (p := ⟨gb581, 0, none⟩) (Kd.V_mono HO577.out (fun k_ hk => (⟨hk, hk.2⟩ : _ ∧ k_ ≠ gb581))) (fun _ hk => hk.2) (.slice Ao44 t578.length co44)) (fun _ h_ => h_.1))) (Kd.R_base ho47) hb); have n5_ := Aside0.mk (Kd.V_elder' (by (with_reducible repeat (first | apply Kd.V_alloc | apply Kd.V_drewN | apply Kd.V_drew)); exact (Kd.V_mono (Kd.V_far (p := ⟨gb581, 0, none⟩) (Kd.V_mono HO580.out (fun k_ hk => (⟨hk, hk.2⟩ : _ ∧ k_ ≠ gb581))) (fun _ hk => hk.2) (.slice Ao44 t578.length co44)) (fun _ h_ => h_.1))) (Kd.R_base ho47) hb); have n6_ := Aside0.mk (Kd.R_lower (Kd.R_new' (Kd.R_new' (Kd.R_new' ho47 (Kd.R_lt (by (with_reducible repeat (first | apply Kd.R_alloc | apply Kd.R_drewN | apply Kd.R_drew)); exact (Kd.R_mono (Kd.R_far (p := ⟨gb581, 0, none⟩) (Kd.R_types HO565.out BK581.out (by decide)) (fun _ hk => hk.2) (.slice Ao44 t578.length co44)) (fun _ h_ => h_.1))))) (Kd.R_lt (by (with_reducible repeat (first | apply Kd.R_alloc | apply Kd.R_drewN | apply Kd.R_drew)); exact (Kd.R_mono (Kd.R_far (p := ⟨gb581, 0, none⟩) (Kd.R_types HO568.out BK581.out (by decide)) (fun _ hk => hk.2) (.slice Ao44 t578.length co44)) (fun _ h_ => h_.1))))) (Kd.R_lt (by (with_reducible repeat (first | apply Kd.R_alloc | apply Kd.R_drewN | apply Kd.R_drew)); exact (Kd.R_mono (Kd.R_far (p := ⟨gb581, 0, none⟩) (Kd.R_types HO574.out BK581.out (by decide)) (fun _ hk => hk.2) (.slice Ao44 t578.length co44)) (fun _ h_ => h_.1))))) (below_size (by repeat (first | (with_reducible first | exact HB.out | apply below_alloc | apply pw_below_drewN | apply below_drew1 | refine below_set ?_ GE581.out) | exact HB.out)))); have n7_ := Aside0.mk (blk_below (g := gb581) (o := .cells #[.slice Ao44 t578.length co44] 25 (0, 0)) (by (with_reducible repeat (first | refine blk_drewN ?_ _ | refine blk_drew ?_ | refine blk_alloc ?_ _)); refine blk_put (cs := #[.slice none 0 0]) ?_ 0 _ rfl; (with_reducible repeat (first | refine blk_drewN ?_ _ | refine blk_drew ?_ | refine blk_alloc ?_ _)); exact BK581.out) hb); have n8_ := Aside0.mk (below_step (by repeat (first | (with_reducible first | exact HB.out | apply below_alloc | apply pw_below_drewN | apply below_drew1 | refine below_set ?_ GE581.out) | exact HB.out)) hb); clear HO565; clear HO568; clear HO571; clear HO574; clear HO577; clear HO580; clear BK581; clear HB; have HO565 := n0_; have HO568 := n1_; have HO571 := n2_; have HO574 := n3_; have HO577 := n4_; have HO580 := n5_; have HO584 := n6_; have BK581 := n7_; have HB := n8_; clear n0_ n1_ n2_ n3_ n4_ n5_ n6_ n7_ n8_; clear hb ho47) | ((with_reducible refine gate_dst (N := 22) rfl ?_); (try (refine gate_guard (by rfl) ?_; dsimp only)); refine Kd.R_lit (Kd.int .u64) _ 27 ?hg (N := 22) ?hd (xs := ([1] : List Int)) (inner := [.int .u64 1]) (ok := fun _ => True) (okp := fun _ => True) ?hr ?hp (fun _ hk => hk) trivial (Below.refl _ _) (Nat.le_refl _) (by simp) ?_; (case hd => rfl); (case hg => rfl); (case hr => first | (go_simp; done) | (go_simp; rfl)); (case hp => exact (Reps.one (show Kd.M (Kd.int .u64) _ _ _ 1 [.int .u64 1] from rfl) (Reps.none _ _))); intro v586 w48 ho49 hb hg_ hnew_; clear hg_ hnew_; (first | rw [← Ny585.out] at ho49 | (simp only [Int.reduceToNat] at ho49; rw [← Ny585.out] at ho49)); have n0_ := Aside0.mk (Kd.R_elder' HO565.out (Kd.R_base ho49) hb); have n1_ := Aside0.mk (Kd.R_elder' HO568.out (Kd.R_base ho49) hb); have n2_ := Aside0.mk (Kd.V_elder' HO571.out (Kd.R_base ho49) hb); have n3_ := Aside0.mk (Kd.R_elder' HO574.out (Kd.R_base ho49) hb); have n4_ := Aside0.mk (Kd.V_elder' HO577.out (Kd.R_base ho49) hb); have n5_ := Aside0.mk (Kd.V_elder' HO580.out (Kd.R_base ho49) hb); have n6_ := Aside0.mk (Kd.R_elder' HO584.out (Kd.R_base ho49) hb); have n7_ := Aside0.mk (Kd.R_lower (Kd.R_new' (Kd.R_new' (Kd.R_new' (Kd.R_new' ho49 (Kd.R_lt HO565.out)) (Kd.R_lt HO568.out)) (Kd.R_lt HO574.out)) (Kd.R_lt HO584.out)) (bz HB.out)); have n8_ := Aside0.mk (bb BK581.out hb); have n9_ := Aside0.mk (bs HB.out hb); clear HO565; clear HO568; clear HO571; clear HO574; clear HO577; clear HO580; clear HO584; clear BK581; clear HB; have HO565 := n0_; have HO568 := n1_; have HO571 := n2_; have HO574 := n3_; have HO577 := n4_; have HO580 := n5_; have HO584 := n6_; have HO587 := n7_; have BK581 := n8_; have HB := n9_; clear n0_ n1_ n2_ n3_ n4_ n5_ n6_ n7_ n8_ n9_; clear hb ho49; obtain ⟨Ao51, co51, eo51⟩ := Kd.R_slice HO587.out; subst eo51) | ((with_reducible refine gate_builtin (b := .append) (xs := #[.tmp 21, .tmp 22]) rfl ?_); (try (refine gate_guard (by rfl) ?_; dsimp only)); at_builtin; refine Kd.R_append_rows (Kd.int .u64) (w0 := w) w.heap.size rfl (.tmp 21) (.tmp 22) 22 27 (.int .u64 0) 8 rfl Try.underlying22 info27 rfl (by decide) (by omega) v583 y582 y585 _ _ _ (fun k_ => OB Ao32 y563 co32 k_ ∧ OB Ao34 t566 co34 k_ ∧ OB Ao38 y572 co38 k_ ∧ OB Ao51 y585 co51 k_) (fun _ => False) rfl rfl ?aO ?aR (fun _ _ h => h) (fun _ h => h.elim) ?aF ?aB ?aS ?aL ?_; (case aR => repeat (first | exact (Kd.R_reads' HO587.out).2.2 | (with_reducible refine Kd.C_alloc ?_ _) | (with_reducible refine Kd.C_drewN ?_ _) | (with_reducible refine Kd.C_drew ?_))); (case aB => exact (by repeat (first | (with_reducible first | exact HB.out | apply below_alloc | apply pw_below_drewN | apply below_drew1 | refine below_set ?_ GE581.out) | exact HB.out))); (case aF => exact (fun k_ hk => ⟨Kd.fresh' (Kd.R_lt HO565.out) k_ hk, Kd.fresh' (Kd.R_lt HO568.out) k_ hk, Kd.fresh' (Kd.R_lt HO574.out) k_ hk, Kd.fresh' (Kd.R_lt HO587.out) k_ hk⟩)); (case aO => exact (Kd.R_mono HO584.out (fun _ hk => ⟨hk.1.1.1.2, hk.1.1.2, hk.1.2, hk.2⟩))); (case aS => exact (below_size (by repeat (first | (with_reducible first | exact HB.out | apply below_alloc | apply pw_below_drewN | apply below_drew1 | refine below_set ?_ GE581.out) | exact HB.out)))); (case aL => have := LMc9.out; omega); intro v589 w50 ho hb hg hat; rw [← Ny588.out] at ho; have n0_ := Aside0.mk (Kd.R_after (ok := (fun k_ => OB Ao34 t566 co34 k_ ∧ OB Ao38 y572 co38 k_ ∧ OB Ao51 y585 co51 k_)) (Kd.R_mono HO565.out (fun _ hk => ⟨⟨hk.1.1.1.2, hk.1.1.2, hk.2⟩, hk.1.2⟩)) hg hat); have n1_ := Aside0.mk (Kd.R_after (ok := (fun k_ => OB Ao32 y563 co32 k_ ∧ OB Ao38 y572 co38 k_ ∧ OB Ao51 y585 co51 k_)) (Kd.R_mono HO568.out (fun _ hk => ⟨⟨hk.1.1.1.2, hk.1.1.2, hk.2⟩, hk.1.2⟩)) hg hat); have n2_ := Aside0.mk (Kd.V_afterv (ok := (fun k_ => OB Ao32 y563 co32 k_ ∧ OB Ao34 t566 co34 k_ ∧ OB Ao38 y572 co38 k_ ∧ OB Ao51 y585 co51 k_ ∧ k_ ≠ gb581)) (Kd.V_mono HO571.out (fun _ hk => ⟨⟨hk.1.1.1.1.1, hk.1.1.1.1.2, hk.1.1.1.2, hk.2, hk.1.1.2⟩, hk.1.2⟩)) hg hat); have n3_ := Aside0.mk (Kd.R_after (ok := (fun k_ => OB Ao32 y563 co32 k_ ∧ OB Ao34 t566 co34 k_ ∧ OB Ao51 y585 co51 k_)) (Kd.R_mono HO574.out (fun _ hk => ⟨⟨hk.1.1.1.2, hk.1.1.2, hk.2⟩, hk.1.2⟩)) hg hat); have n4_ := Aside0.mk (Kd.V_afterv (ok := (fun k_ => OB Ao32 y563 co32 k_ ∧ OB Ao34 t566 co34 k_ ∧ OB Ao38 y572 co38 k_ ∧ OB Ao51 y585 co51 k_ ∧ k_ ≠ gb581)) (Kd.V_mono HO577.out (fun _ hk => ⟨⟨hk.1.1.1.1, hk.1.1.1.2.1, hk.1.1.1.2.2, hk.2, hk.1.1.2⟩, hk.1.2⟩)) hg hat); have n5_ := Aside0.mk (Kd.V_afterv (ok := (fun k_ => OB Ao32 y563 co32 k_ ∧ OB Ao34 t566 co34 k_ ∧ OB Ao38 y572 co38 k_ ∧ OB Ao51 y585 co51 k_ ∧ k_ ≠ gb581)) (Kd.V_mono HO580.out (fun _ hk => ⟨⟨hk.1.1.1.1, hk.1.1.1.2.1, hk.1.1.1.2.2, hk.2, hk.1.1.2⟩, hk.1.2⟩)) hg hat); have n6_ := Aside0.mk (blk_grown (g := gb581) (o := .cells #[.slice Ao44 t578.length co44] 25 (0, 0)) BK581.out hg (Kd.R_ne HO584.out BK581.out (by decide))); have n7_ := Aside0.mk (Kd.R_after (ok := (fun k_ => OB Ao32 y563 co32 k_ ∧ OB Ao34 t566 co34 k_ ∧ OB Ao38 y572 co38 k_)) (Kd.R_mono HO587.out (fun _ hk => ⟨⟨hk.1.1.1.2, hk.1.1.2, hk.1.2⟩, hk.2⟩)) hg hat); have n8_ := Aside0.mk (hb); have n9_ := Aside0.mk (ho); clear HO565; clear HO568; clear HO571; clear HO574; clear HO577; clear HO580; clear BK581; clear HO587; clear HB; clear HO584; have HO565 := n0_; have HO568 := n1_; have HO571 := n2_; have HO574 := n3_; have HO577 := n4_; have HO580 := n5_; have BK581 := n6_; have HO587 := n7_; have HB := n8_; have HO590 := n9_; clear n0_ n1_ n2_ n3_ n4_ n5_ n6_ n7_ n8_ n9_; clear ho hb hg hat))
    replace HO565 := Aside0.mk (Kd.R_drew HO565.out)
    replace HO568 := Aside0.mk (Kd.R_drew HO568.out)
    replace HO571 := Aside0.mk (Kd.V_drew HO571.out)
    replace HO574 := Aside0.mk (Kd.R_drew HO574.out)
    replace HO577 := Aside0.mk (Kd.V_drew HO577.out)
    replace HO580 := Aside0.mk (Kd.V_drew HO580.out)
    replace HO587 := Aside0.mk (Kd.R_drew HO587.out)
    replace HO590 := Aside0.mk (Kd.R_drew HO590.out)
    replace BK581 := Aside0.mk (blk_drew BK581.out)
    replace HB := Aside0.mk (below_drew1 HB.out)
    refine start_ (n := 10) (S := fun w' => w'.cell? ⟨gb581, 0, none⟩ = some (.slice Ao44 t578.length co44)) (ds := []) (fl 0 10 []) (by kernel_rfl) rfl rfl ((blk_cell BK581.out 0).trans rfl) (fun hHeld => ?_); refine with_tabW chattellaw01_NatCarries.tab5 chattellaw01_NatCarries.bits5 (fun HT_ HW_ => ?_)
    generalize w50.drew = w52 at HO565 HO568 HO571 HO574 HO577 HO580 HO587 HO590 BK581 HB hHeld ⊢
    refine take_ (i := 0) (N := some 25) (v := ?_) (a' := ?_) (fl 1 10 []) rfl rfl (take_ofW HT_.out HW_.out (by kernel_rfl)) (fun _ _ _ h => h) (Or.inl ⟨by rfl, ?_⟩) hHeld ?_ ?_
    rotate_left
    ·intro w' s0
     go_simp
     with_reducible rfl
    rotate_left
    ·simp only [Act.put, List.setIfInBounds_toArray, List.set_cons_zero, List.set_cons_succ, i64_w, i32_w]
     rfl
    refine join_ (σ := Value × Value × Value × Nat) 2 (fl 8 10 []) (fun s_ => [(26, s_.1), (27, .agg #[s_.2.1]), (28, .tuple #[.agg #[s_.2.2.1], .bool true]), (7, .pointer (some ⟨s_.2.2.2, 0, none⟩)), (24, .tuple #[.agg #[s_.2.2.1], .bool true]), (29, .agg #[s_.2.2.1]), (30, .bool true)]) (fun s_ w' => (w'.cell? ⟨gb581, 0, none⟩ = some (.slice Ao44 t578.length co44)) ∧ (Kd.R (Kd.int .u64) 27 w' w.heap.size (fun k_ => OB Ao34 t566 co34 k_ ∧ OB Ao38 y572 co38 k_ ∧ OB Ao51 y585 co51 k_ ∧ some k_ ≠ (v589 : Value).ownBlock ∧ some k_ ≠ (s_.1 : Value).ownBlock) (.slice Ao32 y563.length co32) y563) ∧ (Kd.R (Kd.int .u64) 27 w' w.heap.size (fun k_ => OB Ao32 y563 co32 k_ ∧ OB Ao38 y572 co38 k_ ∧ OB Ao51 y585 co51 k_ ∧ some k_ ≠ (v589 : Value).ownBlock ∧ some k_ ≠ (s_.1 : Value).ownBlock) (.slice Ao34 t566.length co34) t566) ∧ (Kd.V (Kd.int .u64) 27 w' w.heap.size (fun k_ => OB Ao32 y563 co32 k_ ∧ OB Ao34 t566 co34 k_ ∧ OB Ao38 y572 co38 k_ ∧ OB Ao51 y585 co51 k_ ∧ some k_ ≠ (v589 : Value).ownBlock ∧ some k_ ≠ (s_.1 : Value).ownBlock ∧ k_ ≠ gb581 ∧ k_ ≠ s_.2.2.2) (.slice Ao40 t569.length co40) t569) ∧ (Kd.R (Kd.int .u64) 27 w' w.heap.size (fun k_ => OB Ao32 y563 co32 k_ ∧ OB Ao34 t566 co34 k_ ∧ OB Ao51 y585 co51 k_ ∧ some k_ ≠ (v589 : Value).ownBlock ∧ some k_ ≠ (s_.1 : Value).ownBlock) (.slice Ao38 y572.length co38) y572) ∧ (Kd.V (Kd.int .u64) 27 w' w.heap.size (fun k_ => OB Ao32 y563 co32 k_ ∧ OB Ao34 t566 co34 k_ ∧ OB Ao38 y572 co38 k_ ∧ OB Ao51 y585 co51 k_ ∧ some k_ ≠ (v589 : Value).ownBlock ∧ some k_ ≠ (s_.1 : Value).ownBlock ∧ k_ ≠ gb581 ∧ k_ ≠ s_.2.2.2) (.slice Ao41 t575.length co41) t575) ∧ (Kd.V (Kd.int .u64) 27 w' w.heap.size (fun k_ => OB Ao32 y563 co32 k_ ∧ OB Ao34 t566 co34 k_ ∧ OB Ao38 y572 co38 k_ ∧ OB Ao51 y585 co51 k_ ∧ some k_ ≠ (v589 : Value).ownBlock ∧ some k_ ≠ (s_.1 : Value).ownBlock ∧ k_ ≠ gb581 ∧ k_ ≠ s_.2.2.2) (.slice Ao44 t578.length co44) t578) ∧ (Kd.R (Kd.int .u64) 27 w' w.heap.size (fun k_ => OB Ao32 y563 co32 k_ ∧ OB Ao34 t566 co34 k_ ∧ OB Ao38 y572 co38 k_ ∧ some k_ ≠ (v589 : Value).ownBlock ∧ some k_ ≠ (s_.1 : Value).ownBlock) (.slice Ao51 y585.length co51) y585) ∧ (Kd.R (Kd.int .u64) 27 w' w.heap.size (fun k_ => OB Ao32 y563 co32 k_ ∧ OB Ao34 t566 co34 k_ ∧ OB Ao38 y572 co38 k_ ∧ OB Ao51 y585 co51 k_ ∧ some k_ ≠ (s_.1 : Value).ownBlock) v589 y588) ∧ (Kd.R (Kd.int .u64) 27 w' w.heap.size (fun k_ => OB Ao32 y563 co32 k_ ∧ OB Ao34 t566 co34 k_ ∧ OB Ao38 y572 co38 k_ ∧ OB Ao51 y585 co51 k_ ∧ some k_ ≠ (v589 : Value).ownBlock) s_.1 y591) ∧ (Kd.V (Kd.int .u64) 27 w' w.heap.size (fun k_ => OB Ao32 y563 co32 k_ ∧ OB Ao34 t566 co34 k_ ∧ OB Ao38 y572 co38 k_ ∧ OB Ao51 y585 co51 k_ ∧ some k_ ≠ (v589 : Value).ownBlock ∧ some k_ ≠ (s_.1 : Value).ownBlock ∧ k_ ≠ gb581 ∧ k_ ≠ s_.2.2.2) s_.2.1 t594) ∧ (Kd.V (Kd.int .u64) 27 w' w.heap.size (fun k_ => OB Ao32 y563 co32 k_ ∧ OB Ao34 t566 co34 k_ ∧ OB Ao38 y572 co38 k_ ∧ OB Ao51 y585 co51 k_ ∧ some k_ ≠ (v589 : Value).ownBlock ∧ some k_ ≠ (s_.1 : Value).ownBlock ∧ k_ ≠ gb581 ∧ k_ ≠ s_.2.2.2) s_.2.2.1 t597) ∧ (w'.heap[gb581]? = some (.cells #[.slice Ao44 t578.length co44] 25 (0, 0))) ∧ (w'.heap[s_.2.2.2]? = some (.cells #[.slice none 0 0] 25 (0, 0))) ∧ (w.heap.size ≤ s_.2.2.2) ∧ (w.heap.size ≤ s_.2.2.2) ∧ (gb581 ≠ s_.2.2.2) ∧ (s_.2.2.2 ≠ gb581) ∧ (Below w.heap.size w w')) ?_ ?_
    rotate_left
    ·intro hCont
     refine two_ (i := 1) (j := 7) (Ni := some 26) (Nj := some 7) (fl 2 10 []) (fl 1 10 [7]) rfl rfl rfl rfl (two_of HT_.out (by kernel_rfl)) (by decide) (by decide) (fun K hK => ?_) (fun K hK => ?_)
     ·skip
      refine Kd.R_lit_step (Kd.int .u64) _ 27 ?hg (N := 26) ?hd (xs := ([1] : List Int)) (inner := [.int .u64 1]) (ok := fun _ => True) (okp := fun _ => True) ?hr ?hp (fun _ hk => hk) trivial (Below.refl _ _) (Nat.le_refl _) (by simp) ?_; (case hd => rfl); (case hg => rfl); (case hr => first | (go_simp; done) | (go_simp; rfl)); (case hp => exact (Reps.one (show Kd.M (Kd.int .u64) _ _ _ 1 [.int .u64 1] from rfl) (Reps.none _ _)))
      intro v592 w53 ho54 hb hg_ hnew_
      clear hg_ hnew_
      (first | rw [← Ny591.out] at ho54 | (simp only [Int.reduceToNat] at ho54; rw [← Ny591.out] at ho54))
      have n0_ := Aside0.mk (Kd.R_elder' HO565.out (Kd.R_base ho54) hb)
      have n1_ := Aside0.mk (Kd.R_elder' HO568.out (Kd.R_base ho54) hb)
      have n2_ := Aside0.mk (Kd.V_elder' HO571.out (Kd.R_base ho54) hb)
      have n3_ := Aside0.mk (Kd.R_elder' HO574.out (Kd.R_base ho54) hb)
      have n4_ := Aside0.mk (Kd.V_elder' HO577.out (Kd.R_base ho54) hb)
      have n5_ := Aside0.mk (Kd.V_elder' HO580.out (Kd.R_base ho54) hb)
      have n6_ := Aside0.mk (Kd.R_elder' HO587.out (Kd.R_base ho54) hb)
      have n7_ := Aside0.mk (Kd.R_elder' HO590.out (Kd.R_base ho54) hb)
      have n8_ := Aside0.mk (Kd.R_lower (Kd.R_new' (Kd.R_new' (Kd.R_new' (Kd.R_new' (Kd.R_new' ho54 (Kd.R_lt HO565.out)) (Kd.R_lt HO568.out)) (Kd.R_lt HO574.out)) (Kd.R_lt HO587.out)) (Kd.R_lt HO590.out)) (bz HB.out))
      have n9_ := Aside0.mk (bb BK581.out hb)
      have n10_ := Aside0.mk (bs HB.out hb)
      clear HO565
      clear HO568
      clear HO571
      clear HO574
      clear HO577
      clear HO580
      clear HO587
      clear HO590
      clear BK581
      clear HB
      have HO565 := n0_
      have HO568 := n1_
      have HO571 := n2_
      have HO574 := n3_
      have HO577 := n4_
      have HO580 := n5_
      have HO587 := n6_
      have HO590 := n7_
      have HO593 := n8_
      have BK581 := n9_
      have HB := n10_
      clear n0_ n1_ n2_ n3_ n4_ n5_ n6_ n7_ n8_ n9_ n10_
      clear hb ho54
      obtain ⟨Ao55, co55, eo55⟩ := Kd.R_slice HO593.out
      (first | subst eo55 | (injection eo55 with f1_ f2_ f3_; have f4_ := f1_.symm; have f5_ := f3_.symm; clear f1_ f2_ f3_; subst f4_; subst f5_))
      refine hK.out _ _ ((blk_cell BK581.out 0).trans rfl) (fun hHeld => ?_)
      clear hK K
      refine norm_ (a' := ?_) ?_ ?_
      rotate_left
      ·show Act.put _ (some 26) _ = _
       simp only [Act.put, List.setIfInBounds_toArray, List.set_cons_zero, List.set_cons_succ, i64_w, i32_w]
       rfl
      refine two_ (i := 2) (j := 7) (Ni := some 27) (Nj := some 7) (fl 3 10 []) (fl 2 10 [7]) rfl rfl rfl rfl (two_of HT_.out (by kernel_rfl)) (by decide) (by decide) (fun K hK => ?_) (fun K hK => ?_)
      ·skip
       refine goes_ Try.func14 (by kernel_rfl) rfl #[.slice Ao55 y591.length co55] (by rfl) rfl rfl (by (try simp only [List.map_toArray, List.map_cons, List.map_nil]); first | done | rfl | (simp only [List.length_drop, List.length_take]; rfl)) ?_
       with_reducible refine (nat_Of.calls k _ _ y591 t594 _ ?side1 ?side2 A10.out).mono ?_
       (case side1 => exact cr HO593.out)
       (case side2 => exact (Kd.R_reads' HO593.out).2.1)
       rintro e w56 ⟨v595, rfl, ho0, hb⟩
       refine ⟨_, rfl, ?_⟩
       have n0_ := Aside0.mk (rb HO565.out hb)
       have n1_ := Aside0.mk (rb HO568.out hb)
       have n2_ := Aside0.mk (vb HO571.out hb)
       have n3_ := Aside0.mk (rb HO574.out hb)
       have n4_ := Aside0.mk (vb HO577.out hb)
       have n5_ := Aside0.mk (vb HO580.out hb)
       have n6_ := Aside0.mk (rb HO587.out hb)
       have n7_ := Aside0.mk (rb HO590.out hb)
       have n8_ := Aside0.mk (rb HO593.out hb)
       have n9_ := Aside0.mk (Kd.V_lower (Kd.V_mono (ok' := fun k_ => OB Ao32 y563 co32 k_ ∧ OB Ao34 t566 co34 k_ ∧ OB Ao38 y572 co38 k_ ∧ OB Ao51 y585 co51 k_ ∧ some k_ ≠ (v589 : Value).ownBlock ∧ OB Ao55 y591 co55 k_ ∧ k_ ≠ gb581) ho0 (fun k_ hk_ => ⟨(Kd.fresh' (Kd.R_lt HO565.out) k_ hk_), (Kd.fresh' (Kd.R_lt HO568.out) k_ hk_), (Kd.fresh' (Kd.R_lt HO574.out) k_ hk_), (Kd.fresh' (Kd.R_lt HO587.out) k_ hk_), (Kd.fresh' (Kd.R_lt HO590.out) k_ hk_), (Kd.fresh' (Kd.R_lt HO593.out) k_ hk_), (fb BK581.out k_ hk_)⟩)) (bz HB.out))
       have n10_ := Aside0.mk (bb BK581.out hb)
       have n11_ := Aside0.mk (bs HB.out hb)
       clear HO565
       clear HO568
       clear HO571
       clear HO574
       clear HO577
       clear HO580
       clear HO587
       clear HO590
       clear HO593
       clear BK581
       clear HB
       have HO565 := n0_
       have HO568 := n1_
       have HO571 := n2_
       have HO574 := n3_
       have HO577 := n4_
       have HO580 := n5_
       have HO587 := n6_
       have HO590 := n7_
       have HO593 := n8_
       have HO596 := n9_
       have BK581 := n10_
       have HB := n11_
       clear n0_ n1_ n2_ n3_ n4_ n5_ n6_ n7_ n8_ n9_ n10_ n11_
       (try clear hb)
       (try clear hb2)
       (try clear hk)
       (try clear hi)
       (try clear ho0)
       obtain ⟨Ao57, co57, eo57⟩ := Kd.V_slice HO596.out
       (first | subst eo57 | (injection eo57 with f1_ f2_ f3_; have f4_ := f1_.symm; have f5_ := f3_.symm; clear f1_ f2_ f3_; subst f4_; subst f5_))
       refine hK.out _ _ ((blk_cell BK581.out 0).trans rfl) (fun hHeld => ?_)
       clear hK K
       refine norm_ (a' := ?_) ?_ ?_
       rotate_left
       ·show Act.put _ (some 27) _ = _
        simp only [Act.put, List.setIfInBounds_toArray, List.set_cons_zero, List.set_cons_succ, i64_w, i32_w]
        rfl
       refine two_ (i := 3) (j := 7) (Ni := some 28) (Nj := some 7) (fl 4 10 []) (fl 3 10 [7]) rfl rfl rfl rfl (two_of HT_.out (by kernel_rfl)) (by decide) (by decide) (fun K hK => ?_) (fun K hK => ?_)
       ·skip
        refine goes_ Try.func26 (by kernel_rfl) rfl #[.agg #[.slice Ao44 t578.length co44], .agg #[.slice Ao57 t594.length co57]] (by rfl) rfl rfl (by (try simp only [List.map_toArray, List.map_cons, List.map_nil]); first | done | rfl | (simp only [List.length_drop, List.length_take]; rfl)) ?_
        with_reducible refine (nat_Nat_Sub.calls k _ _ t578 _ _ t594 t597 true _ ?side1 ?side2 ?side3 ?side4 A11.out).mono ?_
        (case side1 => exact cv HO580.out)
        (case side2 => exact (Kd.V_reads' HO580.out).2.1)
        (case side3 => exact cv HO596.out)
        (case side4 => exact (Kd.V_reads' HO596.out).2.1)
        rintro e w58 ⟨v598, rfl, ho0, hb⟩
        refine ⟨_, rfl, ?_⟩
        have n0_ := Aside0.mk (rb HO565.out hb)
        have n1_ := Aside0.mk (rb HO568.out hb)
        have n2_ := Aside0.mk (vb HO571.out hb)
        have n3_ := Aside0.mk (rb HO574.out hb)
        have n4_ := Aside0.mk (vb HO577.out hb)
        have n5_ := Aside0.mk (vb HO580.out hb)
        have n6_ := Aside0.mk (rb HO587.out hb)
        have n7_ := Aside0.mk (rb HO590.out hb)
        have n8_ := Aside0.mk (rb HO593.out hb)
        have n9_ := Aside0.mk (vb HO596.out hb)
        have n10_ := Aside0.mk (Kd.V_lower (Kd.V_mono (ok' := fun k_ => OB Ao32 y563 co32 k_ ∧ OB Ao34 t566 co34 k_ ∧ OB Ao38 y572 co38 k_ ∧ OB Ao51 y585 co51 k_ ∧ some k_ ≠ (v589 : Value).ownBlock ∧ OB Ao55 y591 co55 k_ ∧ k_ ≠ gb581) ho0 (fun k_ hk_ => ⟨(Kd.fresh' (Kd.R_lt HO565.out) k_ hk_), (Kd.fresh' (Kd.R_lt HO568.out) k_ hk_), (Kd.fresh' (Kd.R_lt HO574.out) k_ hk_), (Kd.fresh' (Kd.R_lt HO587.out) k_ hk_), (Kd.fresh' (Kd.R_lt HO590.out) k_ hk_), (Kd.fresh' (Kd.R_lt HO593.out) k_ hk_), (fb BK581.out k_ hk_)⟩)) (bz HB.out))
        have n11_ := Aside0.mk (bb BK581.out hb)
        have n12_ := Aside0.mk (bs HB.out hb)
        clear HO565
        clear HO568
        clear HO571
        clear HO574
        clear HO577
        clear HO580
        clear HO587
        clear HO590
        clear HO593
        clear HO596
        clear BK581
        clear HB
        have HO565 := n0_
        have HO568 := n1_
        have HO571 := n2_
        have HO574 := n3_
        have HO577 := n4_
        have HO580 := n5_
        have HO587 := n6_
        have HO590 := n7_
        have HO593 := n8_
        have HO596 := n9_
        have HO599 := n10_
        have BK581 := n11_
        have HB := n12_
        clear n0_ n1_ n2_ n3_ n4_ n5_ n6_ n7_ n8_ n9_ n10_ n11_ n12_
        (try clear hb)
        (try clear hb2)
        (try clear hk)
        (try clear hi)
        (try clear ho0)
        refine hK.out _ _ ((blk_cell BK581.out 0).trans rfl) (fun hHeld => ?_)
        clear hK K
        refine norm_ (a' := ?_) ?_ ?_
        rotate_left
        ·show Act.put _ (some 28) _ = _
         simp only [Act.put, List.setIfInBounds_toArray, List.set_cons_zero, List.set_cons_succ, i64_w, i32_w]
         rfl
        refine pure_ (i := 4) (N := some 24) (v := ?_) (a' := ?_) (fl 5 10 []) rfl rfl (any_of HT_.out (by kernel_rfl)) (fun _ _ _ h => h) (Or.inl ⟨by rfl, ?_⟩) ?_ ?_
        rotate_left
        ·intro w'
         go_simp
         with_reducible rfl
        rotate_left
        ·simp only [Act.put, List.setIfInBounds_toArray, List.set_cons_zero, List.set_cons_succ, i64_w, i32_w]
         rfl
        refine pure_ (i := 5) (N := some 29) (v := ?_) (a' := ?_) (fl 6 10 []) rfl rfl (any_of HT_.out (by kernel_rfl)) (fun _ _ _ h => h) (Or.inl ⟨by rfl, ?_⟩) ?_ ?_
        rotate_left
        ·intro w'
         go_simp
         with_reducible rfl
        rotate_left
        ·simp only [Act.put, List.setIfInBounds_toArray, List.set_cons_zero, List.set_cons_succ, i64_w, i32_w]
         rfl
        refine pure_ (i := 6) (N := some 30) (v := ?_) (a' := ?_) (fl 7 10 []) rfl rfl (any_of HT_.out (by kernel_rfl)) (fun _ _ _ h => h) (Or.inl ⟨by rfl, ?_⟩) ?_ ?_
        rotate_left
        ·intro w'
         go_simp
         with_reducible rfl
        rotate_left
        ·simp only [Act.put, List.setIfInBounds_toArray, List.set_cons_zero, List.set_cons_succ, i64_w, i32_w]
         rfl
        refine one_ (i := 7) (N := some 7) (fl 8 10 []) rfl rfl (one_of HT_.out (by kernel_rfl)) (by decide) (fun K hK => ?_)
        refine box_step ?hg (N := 7) ?hd (cs := #[.slice none 0 0]) (t := 25) ?hr ?_; (case hd => rfl); (case hg => rfl); (case hr => first | (go_simp; done) | (go_simp; rfl))
        intro gb601 hg w59 hbox hb
        have n0_ := Aside0.mk (rb HO565.out hb)
        have n1_ := Aside0.mk (rb HO568.out hb)
        have n2_ := Aside0.mk (Kd.V_below (Kd.V_elderB HO571.out gb601 (Nat.le_of_eq hg.symm)) hb)
        have n3_ := Aside0.mk (rb HO574.out hb)
        have n4_ := Aside0.mk (Kd.V_below (Kd.V_elderB HO577.out gb601 (Nat.le_of_eq hg.symm)) hb)
        have n5_ := Aside0.mk (Kd.V_below (Kd.V_elderB HO580.out gb601 (Nat.le_of_eq hg.symm)) hb)
        have n6_ := Aside0.mk (rb HO587.out hb)
        have n7_ := Aside0.mk (rb HO590.out hb)
        have n8_ := Aside0.mk (rb HO593.out hb)
        have n9_ := Aside0.mk (Kd.V_below (Kd.V_elderB HO596.out gb601 (Nat.le_of_eq hg.symm)) hb)
        have n10_ := Aside0.mk (Kd.V_below (Kd.V_elderB HO599.out gb601 (Nat.le_of_eq hg.symm)) hb)
        have n11_ := Aside0.mk (bb BK581.out hb)
        have n12_ := Aside0.mk (bs HB.out hb)
        have n13_ := Aside0.mk (hbox)
        have n14_ := Aside0.mk ((by rw [hg]; exact (bz HB.out) : w.heap.size ≤ gb601))
        have n15_ := Aside0.mk ((by rw [hg]; exact (bz HB.out) : w.heap.size ≤ gb601))
        have n16_ := Aside0.mk ((by rw [hg]; exact Nat.ne_of_lt (blk_lt (g := gb581) (o := .cells #[.slice Ao44 t578.length co44] 25 (0, 0)) BK581.out) : gb581 ≠ gb601))
        have n17_ := Aside0.mk ((by rw [hg]; exact Nat.ne_of_gt (blk_lt (g := gb581) (o := .cells #[.slice Ao44 t578.length co44] 25 (0, 0)) BK581.out) : gb601 ≠ gb581))
        clear HO565
        clear HO568
        clear HO571
        clear HO574
        clear HO577
        clear HO580
        clear HO587
        clear HO590
        clear HO593
        clear HO596
        clear HO599
        clear BK581
        clear HB
        have HO565 := n0_
        have HO568 := n1_
        have HO571 := n2_
        have HO574 := n3_
        have HO577 := n4_
        have HO580 := n5_
        have HO587 := n6_
        have HO590 := n7_
        have HO593 := n8_
        have HO596 := n9_
        have HO599 := n10_
        have BK581 := n11_
        have HB := n12_
        have BK601 := n13_
        have GW601 := n14_
        have GE601 := n15_
        have NB581_601 := n16_
        have NB601_581 := n17_
        clear n0_ n1_ n2_ n3_ n4_ n5_ n6_ n7_ n8_ n9_ n10_ n11_ n12_ n13_ n14_ n15_ n16_ n17_
        clear hb hbox hg
        refine hK.out _ _ ((blk_cell BK581.out 0).trans rfl) (fun hHeld => ?_)
        clear hK K
        refine norm_ (a' := ?_) ?_ ?_
        rotate_left
        ·show Act.put _ (some 7) _ = _
         simp only [Act.put, List.setIfInBounds_toArray, List.set_cons_zero, List.set_cons_succ, i64_w, i32_w]
         rfl
        exact norm_ (by simp only [putAll, Act.put, List.setIfInBounds_toArray, List.set_cons_zero, List.set_cons_succ]) (hCont (.slice Ao55 y591.length co55, .slice Ao57 t594.length co57, v598, gb601) _ ⟨hHeld, (Kd.R_mono HO565.out (fun _ hk => ⟨hk.1.1.1, hk.1.1.2.1, hk.1.1.2.2, hk.1.2, hk.2⟩)), (Kd.R_mono HO568.out (fun _ hk => ⟨hk.1.1.1, hk.1.1.2.1, hk.1.1.2.2, hk.1.2, hk.2⟩)), (Kd.V_mono HO571.out (fun _ hk => ⟨hk.1.1.1.1, hk.1.1.1.2.1, hk.1.1.1.2.2.1, hk.1.1.1.2.2.2.1, hk.1.1.2, hk.1.2, hk.1.1.1.2.2.2.2, hk.2⟩)), (Kd.R_mono HO574.out (fun _ hk => ⟨hk.1.1.1, hk.1.1.2.1, hk.1.1.2.2, hk.1.2, hk.2⟩)), (Kd.V_mono HO577.out (fun _ hk => ⟨hk.1.1.1.1, hk.1.1.1.2.1, hk.1.1.1.2.2.1, hk.1.1.1.2.2.2.1, hk.1.1.2, hk.1.2, hk.1.1.1.2.2.2.2, hk.2⟩)), (Kd.V_mono HO580.out (fun _ hk => ⟨hk.1.1.1.1, hk.1.1.1.2.1, hk.1.1.1.2.2.1, hk.1.1.1.2.2.2.1, hk.1.1.2, hk.1.2, hk.1.1.1.2.2.2.2, hk.2⟩)), (Kd.R_mono HO587.out (fun _ hk => ⟨hk.1.1.1, hk.1.1.2.1, hk.1.1.2.2, hk.1.2, hk.2⟩)), (Kd.R_mono HO590.out (fun _ hk => ⟨hk.1.1, hk.1.2.1, hk.1.2.2.1, hk.1.2.2.2, hk.2⟩)), (Kd.R_mono HO593.out (fun _ hk => ⟨hk.1.1.1.1.2, hk.1.1.1.2, hk.1.1.2, hk.1.2, hk.2⟩)), (Kd.V_mono HO596.out (fun _ hk => ⟨hk.1.1, hk.1.2.1, hk.1.2.2.1, hk.1.2.2.2.1, hk.1.2.2.2.2.1, hk.1.2.2.2.2.2.1, hk.1.2.2.2.2.2.2, hk.2⟩)), (Kd.V_mono HO599.out (fun _ hk => ⟨hk.1.1, hk.1.2.1, hk.1.2.2.1, hk.1.2.2.2.1, hk.1.2.2.2.2.1, hk.1.2.2.2.2.2.1, hk.1.2.2.2.2.2.2, hk.2⟩)), BK581.out, BK601.out, GW601.out, GE601.out, NB581_601.out, NB601_581.out, (by repeat (first | (with_reducible first | exact HB.out | apply below_alloc | apply pw_below_drewN | apply below_drew1 | refine below_set ?_ GE581.out | refine below_set ?_ GE601.out) | exact HB.out))⟩)
       ·skip
        refine box_step ?hg (N := 7) ?hd (cs := #[.slice none 0 0]) (t := 25) ?hr ?_; (case hd => rfl); (case hg => rfl); (case hr => first | (go_simp; done) | (go_simp; rfl))
        intro gb601 hg w57 hbox hb
        have n0_ := Aside0.mk (rb HO565.out hb)
        have n1_ := Aside0.mk (rb HO568.out hb)
        have n2_ := Aside0.mk (Kd.V_below (Kd.V_elderB HO571.out gb601 (Nat.le_of_eq hg.symm)) hb)
        have n3_ := Aside0.mk (rb HO574.out hb)
        have n4_ := Aside0.mk (Kd.V_below (Kd.V_elderB HO577.out gb601 (Nat.le_of_eq hg.symm)) hb)
        have n5_ := Aside0.mk (Kd.V_below (Kd.V_elderB HO580.out gb601 (Nat.le_of_eq hg.symm)) hb)
        have n6_ := Aside0.mk (rb HO587.out hb)
        have n7_ := Aside0.mk (rb HO590.out hb)
        have n8_ := Aside0.mk (rb HO593.out hb)
        have n9_ := Aside0.mk (Kd.V_below (Kd.V_elderB HO596.out gb601 (Nat.le_of_eq hg.symm)) hb)
        have n10_ := Aside0.mk (bb BK581.out hb)
        have n11_ := Aside0.mk (bs HB.out hb)
        have n12_ := Aside0.mk (hbox)
        have n13_ := Aside0.mk ((by rw [hg]; exact (bz HB.out) : w.heap.size ≤ gb601))
        have n14_ := Aside0.mk ((by rw [hg]; exact (bz HB.out) : w.heap.size ≤ gb601))
        have n15_ := Aside0.mk ((by rw [hg]; exact Nat.ne_of_lt (blk_lt (g := gb581) (o := .cells #[.slice Ao44 t578.length co44] 25 (0, 0)) BK581.out) : gb581 ≠ gb601))
        have n16_ := Aside0.mk ((by rw [hg]; exact Nat.ne_of_gt (blk_lt (g := gb581) (o := .cells #[.slice Ao44 t578.length co44] 25 (0, 0)) BK581.out) : gb601 ≠ gb581))
        clear HO565
        clear HO568
        clear HO571
        clear HO574
        clear HO577
        clear HO580
        clear HO587
        clear HO590
        clear HO593
        clear HO596
        clear BK581
        clear HB
        have HO565 := n0_
        have HO568 := n1_
        have HO571 := n2_
        have HO574 := n3_
        have HO577 := n4_
        have HO580 := n5_
        have HO587 := n6_
        have HO590 := n7_
        have HO593 := n8_
        have HO596 := n9_
        have BK581 := n10_
        have HB := n11_
        have BK601 := n12_
        have GW601 := n13_
        have GE601 := n14_
        have NB581_601 := n15_
        have NB601_581 := n16_
        clear n0_ n1_ n2_ n3_ n4_ n5_ n6_ n7_ n8_ n9_ n10_ n11_ n12_ n13_ n14_ n15_ n16_
        clear hb hbox hg
        obtain ⟨Ao58, co58, eo58⟩ := Kd.V_slice HO596.out
        (first | subst eo58 | (injection eo58 with f1_ f2_ f3_; have f4_ := f1_.symm; have f5_ := f3_.symm; clear f1_ f2_ f3_; subst f4_; subst f5_))
        refine hK.out _ _ ((blk_cell BK581.out 0).trans rfl) (fun hHeld => ?_)
        clear hK K
        refine norm_ (a' := ?_) ?_ ?_
        rotate_left
        ·show Act.put _ (some 7) _ = _
         simp only [Act.put, List.setIfInBounds_toArray, List.set_cons_zero, List.set_cons_succ, i64_w, i32_w]
         rfl
        refine one_ (i := 3) (N := some 28) (fl 4 10 [7]) rfl rfl (one_of HT_.out (by kernel_rfl)) (by decide) (fun K hK => ?_)
        refine goes_ Try.func26 (by kernel_rfl) rfl #[.agg #[.slice Ao44 t578.length co44], .agg #[.slice Ao58 t594.length co58]] (by rfl) rfl rfl (by (try simp only [List.map_toArray, List.map_cons, List.map_nil]); first | done | rfl | (simp only [List.length_drop, List.length_take]; rfl)) ?_
        with_reducible refine (nat_Nat_Sub.calls k _ _ t578 _ _ t594 t597 true _ ?side1 ?side2 ?side3 ?side4 A11.out).mono ?_
        (case side1 => exact cv HO580.out)
        (case side2 => exact (Kd.V_reads' HO580.out).2.1)
        (case side3 => exact cv HO596.out)
        (case side4 => exact (Kd.V_reads' HO596.out).2.1)
        rintro e w59 ⟨v598, rfl, ho0, hb⟩
        refine ⟨_, rfl, ?_⟩
        have n0_ := Aside0.mk (rb HO565.out hb)
        have n1_ := Aside0.mk (rb HO568.out hb)
        have n2_ := Aside0.mk (vb HO571.out hb)
        have n3_ := Aside0.mk (rb HO574.out hb)
        have n4_ := Aside0.mk (vb HO577.out hb)
        have n5_ := Aside0.mk (vb HO580.out hb)
        have n6_ := Aside0.mk (rb HO587.out hb)
        have n7_ := Aside0.mk (rb HO590.out hb)
        have n8_ := Aside0.mk (rb HO593.out hb)
        have n9_ := Aside0.mk (vb HO596.out hb)
        have n10_ := Aside0.mk (Kd.V_lower (Kd.V_mono (ok' := fun k_ => OB Ao32 y563 co32 k_ ∧ OB Ao34 t566 co34 k_ ∧ OB Ao38 y572 co38 k_ ∧ OB Ao51 y585 co51 k_ ∧ some k_ ≠ (v589 : Value).ownBlock ∧ OB Ao55 y591 co55 k_ ∧ k_ ≠ gb581 ∧ k_ ≠ gb601) ho0 (fun k_ hk_ => ⟨(Kd.fresh' (Kd.R_lt HO565.out) k_ hk_), (Kd.fresh' (Kd.R_lt HO568.out) k_ hk_), (Kd.fresh' (Kd.R_lt HO574.out) k_ hk_), (Kd.fresh' (Kd.R_lt HO587.out) k_ hk_), (Kd.fresh' (Kd.R_lt HO590.out) k_ hk_), (Kd.fresh' (Kd.R_lt HO593.out) k_ hk_), (fb BK581.out k_ hk_), (fb BK601.out k_ hk_)⟩)) (bz HB.out))
        have n11_ := Aside0.mk (bb BK581.out hb)
        have n12_ := Aside0.mk (bb BK601.out hb)
        have n13_ := Aside0.mk (bs HB.out hb)
        clear HO565
        clear HO568
        clear HO571
        clear HO574
        clear HO577
        clear HO580
        clear HO587
        clear HO590
        clear HO593
        clear HO596
        clear BK581
        clear BK601
        clear HB
        have HO565 := n0_
        have HO568 := n1_
        have HO571 := n2_
        have HO574 := n3_
        have HO577 := n4_
        have HO580 := n5_
        have HO587 := n6_
        have HO590 := n7_
        have HO593 := n8_
        have HO596 := n9_
        have HO599 := n10_
        have BK581 := n11_
        have BK601 := n12_
        have HB := n13_
        clear n0_ n1_ n2_ n3_ n4_ n5_ n6_ n7_ n8_ n9_ n10_ n11_ n12_ n13_
        (try clear hb)
        (try clear hb2)
        (try clear hk)
        (try clear hi)
        (try clear ho0)
        refine hK.out _ _ ((blk_cell BK581.out 0).trans rfl) (fun hHeld => ?_)
        clear hK K
        refine norm_ (a' := ?_) ?_ ?_
        rotate_left
        ·show Act.put _ (some 28) _ = _
         simp only [Act.put, List.setIfInBounds_toArray, List.set_cons_zero, List.set_cons_succ, i64_w, i32_w]
         rfl
        refine pure_ (i := 4) (N := some 24) (v := ?_) (a' := ?_) (fl 5 10 [7]) rfl rfl (any_of HT_.out (by kernel_rfl)) (fun _ _ _ h => h) (Or.inl ⟨by rfl, ?_⟩) ?_ ?_
        rotate_left
        ·intro w'
         go_simp
         with_reducible rfl
        rotate_left
        ·simp only [Act.put, List.setIfInBounds_toArray, List.set_cons_zero, List.set_cons_succ, i64_w, i32_w]
         rfl
        refine pure_ (i := 5) (N := some 29) (v := ?_) (a' := ?_) (fl 6 10 [7]) rfl rfl (any_of HT_.out (by kernel_rfl)) (fun _ _ _ h => h) (Or.inl ⟨by rfl, ?_⟩) ?_ ?_
        rotate_left
        ·intro w'
         go_simp
         with_reducible rfl
        rotate_left
        ·simp only [Act.put, List.setIfInBounds_toArray, List.set_cons_zero, List.set_cons_succ, i64_w, i32_w]
         rfl
        refine pure_ (i := 6) (N := some 30) (v := ?_) (a' := ?_) (fl 8 10 []) rfl rfl (any_of HT_.out (by kernel_rfl)) (fun _ _ _ h => h) (Or.inl ⟨by rfl, ?_⟩) ?_ ?_
        rotate_left
        ·intro w'
         go_simp
         with_reducible rfl
        rotate_left
        ·simp only [Act.put, List.setIfInBounds_toArray, List.set_cons_zero, List.set_cons_succ, i64_w, i32_w]
         rfl
        exact norm_ (by simp only [putAll, Act.put, List.setIfInBounds_toArray, List.set_cons_zero, List.set_cons_succ]) (hCont (.slice Ao55 y591.length co55, .slice Ao58 t594.length co58, v598, gb601) _ ⟨hHeld, (Kd.R_mono HO565.out (fun _ hk => ⟨hk.1.1.1, hk.1.1.2.1, hk.1.1.2.2, hk.1.2, hk.2⟩)), (Kd.R_mono HO568.out (fun _ hk => ⟨hk.1.1.1, hk.1.1.2.1, hk.1.1.2.2, hk.1.2, hk.2⟩)), (Kd.V_mono HO571.out (fun _ hk => ⟨hk.1.1.1.1, hk.1.1.1.2.1, hk.1.1.1.2.2.1, hk.1.1.1.2.2.2.1, hk.1.1.2, hk.1.2, hk.1.1.1.2.2.2.2, hk.2⟩)), (Kd.R_mono HO574.out (fun _ hk => ⟨hk.1.1.1, hk.1.1.2.1, hk.1.1.2.2, hk.1.2, hk.2⟩)), (Kd.V_mono HO577.out (fun _ hk => ⟨hk.1.1.1.1, hk.1.1.1.2.1, hk.1.1.1.2.2.1, hk.1.1.1.2.2.2.1, hk.1.1.2, hk.1.2, hk.1.1.1.2.2.2.2, hk.2⟩)), (Kd.V_mono HO580.out (fun _ hk => ⟨hk.1.1.1.1, hk.1.1.1.2.1, hk.1.1.1.2.2.1, hk.1.1.1.2.2.2.1, hk.1.1.2, hk.1.2, hk.1.1.1.2.2.2.2, hk.2⟩)), (Kd.R_mono HO587.out (fun _ hk => ⟨hk.1.1.1, hk.1.1.2.1, hk.1.1.2.2, hk.1.2, hk.2⟩)), (Kd.R_mono HO590.out (fun _ hk => ⟨hk.1.1, hk.1.2.1, hk.1.2.2.1, hk.1.2.2.2, hk.2⟩)), (Kd.R_mono HO593.out (fun _ hk => ⟨hk.1.1.1.1.2, hk.1.1.1.2, hk.1.1.2, hk.1.2, hk.2⟩)), (Kd.V_mono HO596.out (fun _ hk => ⟨hk.1.1, hk.1.2.1, hk.1.2.2.1, hk.1.2.2.2.1, hk.1.2.2.2.2.1, hk.1.2.2.2.2.2.1, hk.1.2.2.2.2.2.2, hk.2⟩)), HO599.out, BK581.out, BK601.out, GW601.out, GE601.out, NB581_601.out, NB601_581.out, (by repeat (first | (with_reducible first | exact HB.out | apply below_alloc | apply pw_below_drewN | apply below_drew1 | refine below_set ?_ GE581.out | refine below_set ?_ GE601.out) | exact HB.out))⟩)
      ·skip
       refine box_step ?hg (N := 7) ?hd (cs := #[.slice none 0 0]) (t := 25) ?hr ?_; (case hd => rfl); (case hg => rfl); (case hr => first | (go_simp; done) | (go_simp; rfl))
       intro gb601 hg w55 hbox hb
       have n0_ := Aside0.mk (rb HO565.out hb)
       have n1_ := Aside0.mk (rb HO568.out hb)
       have n2_ := Aside0.mk (Kd.V_below (Kd.V_elderB HO571.out gb601 (Nat.le_of_eq hg.symm)) hb)
       have n3_ := Aside0.mk (rb HO574.out hb)
       have n4_ := Aside0.mk (Kd.V_below (Kd.V_elderB HO577.out gb601 (Nat.le_of_eq hg.symm)) hb)
       have n5_ := Aside0.mk (Kd.V_below (Kd.V_elderB HO580.out gb601 (Nat.le_of_eq hg.symm)) hb)
       have n6_ := Aside0.mk (rb HO587.out hb)
       have n7_ := Aside0.mk (rb HO590.out hb)
       have n8_ := Aside0.mk (rb HO593.out hb)
       have n9_ := Aside0.mk (bb BK581.out hb)
       have n10_ := Aside0.mk (bs HB.out hb)
       have n11_ := Aside0.mk (hbox)
       have n12_ := Aside0.mk ((by rw [hg]; exact (bz HB.out) : w.heap.size ≤ gb601))
       have n13_ := Aside0.mk ((by rw [hg]; exact (bz HB.out) : w.heap.size ≤ gb601))
       have n14_ := Aside0.mk ((by rw [hg]; exact Nat.ne_of_lt (blk_lt (g := gb581) (o := .cells #[.slice Ao44 t578.length co44] 25 (0, 0)) BK581.out) : gb581 ≠ gb601))
       have n15_ := Aside0.mk ((by rw [hg]; exact Nat.ne_of_gt (blk_lt (g := gb581) (o := .cells #[.slice Ao44 t578.length co44] 25 (0, 0)) BK581.out) : gb601 ≠ gb581))
       clear HO565
       clear HO568
       clear HO571
       clear HO574
       clear HO577
       clear HO580
       clear HO587
       clear HO590
       clear HO593
       clear BK581
       clear HB
       have HO565 := n0_
       have HO568 := n1_
       have HO571 := n2_
       have HO574 := n3_
       have HO577 := n4_
       have HO580 := n5_
       have HO587 := n6_
       have HO590 := n7_
       have HO593 := n8_
       have BK581 := n9_
       have HB := n10_
       have BK601 := n11_
       have GW601 := n12_
       have GE601 := n13_
       have NB581_601 := n14_
       have NB601_581 := n15_
       clear n0_ n1_ n2_ n3_ n4_ n5_ n6_ n7_ n8_ n9_ n10_ n11_ n12_ n13_ n14_ n15_
       clear hb hbox hg
       obtain ⟨Ao56, co56, eo56⟩ := Kd.R_slice HO593.out
       (first | subst eo56 | (injection eo56 with f1_ f2_ f3_; have f4_ := f1_.symm; have f5_ := f3_.symm; clear f1_ f2_ f3_; subst f4_; subst f5_))
       refine hK.out _ _ ((blk_cell BK581.out 0).trans rfl) (fun hHeld => ?_)
       clear hK K
       refine norm_ (a' := ?_) ?_ ?_
       rotate_left
       ·show Act.put _ (some 7) _ = _
        simp only [Act.put, List.setIfInBounds_toArray, List.set_cons_zero, List.set_cons_succ, i64_w, i32_w]
        rfl
       refine one_ (i := 2) (N := some 27) (fl 3 10 [7]) rfl rfl (one_of HT_.out (by kernel_rfl)) (by decide) (fun K hK => ?_)
       refine goes_ Try.func14 (by kernel_rfl) rfl #[.slice Ao56 y591.length co56] (by rfl) rfl rfl (by (try simp only [List.map_toArray, List.map_cons, List.map_nil]); first | done | rfl | (simp only [List.length_drop, List.length_take]; rfl)) ?_
       with_reducible refine (nat_Of.calls k _ _ y591 t594 _ ?side1 ?side2 A10.out).mono ?_
       (case side1 => exact cr HO593.out)
       (case side2 => exact (Kd.R_reads' HO593.out).2.1)
       rintro e w57 ⟨v595, rfl, ho0, hb⟩
       refine ⟨_, rfl, ?_⟩
       have n0_ := Aside0.mk (rb HO565.out hb)
       have n1_ := Aside0.mk (rb HO568.out hb)
       have n2_ := Aside0.mk (vb HO571.out hb)
       have n3_ := Aside0.mk (rb HO574.out hb)
       have n4_ := Aside0.mk (vb HO577.out hb)
       have n5_ := Aside0.mk (vb HO580.out hb)
       have n6_ := Aside0.mk (rb HO587.out hb)
       have n7_ := Aside0.mk (rb HO590.out hb)
       have n8_ := Aside0.mk (rb HO593.out hb)
       have n9_ := Aside0.mk (Kd.V_lower (Kd.V_mono (ok' := fun k_ => OB Ao32 y563 co32 k_ ∧ OB Ao34 t566 co34 k_ ∧ OB Ao38 y572 co38 k_ ∧ OB Ao51 y585 co51 k_ ∧ some k_ ≠ (v589 : Value).ownBlock ∧ OB Ao56 y591 co56 k_ ∧ k_ ≠ gb581 ∧ k_ ≠ gb601) ho0 (fun k_ hk_ => ⟨(Kd.fresh' (Kd.R_lt HO565.out) k_ hk_), (Kd.fresh' (Kd.R_lt HO568.out) k_ hk_), (Kd.fresh' (Kd.R_lt HO574.out) k_ hk_), (Kd.fresh' (Kd.R_lt HO587.out) k_ hk_), (Kd.fresh' (Kd.R_lt HO590.out) k_ hk_), (Kd.fresh' (Kd.R_lt HO593.out) k_ hk_), (fb BK581.out k_ hk_), (fb BK601.out k_ hk_)⟩)) (bz HB.out))
       have n10_ := Aside0.mk (bb BK581.out hb)
       have n11_ := Aside0.mk (bb BK601.out hb)
       have n12_ := Aside0.mk (bs HB.out hb)
       clear HO565
       clear HO568
       clear HO571
       clear HO574
       clear HO577
       clear HO580
       clear HO587
       clear HO590
       clear HO593
       clear BK581
       clear BK601
       clear HB
       have HO565 := n0_
       have HO568 := n1_
       have HO571 := n2_
       have HO574 := n3_
       have HO577 := n4_
       have HO580 := n5_
       have HO587 := n6_
       have HO590 := n7_
       have HO593 := n8_
       have HO596 := n9_
       have BK581 := n10_
       have BK601 := n11_
       have HB := n12_
       clear n0_ n1_ n2_ n3_ n4_ n5_ n6_ n7_ n8_ n9_ n10_ n11_ n12_
       (try clear hb)
       (try clear hb2)
       (try clear hk)
       (try clear hi)
       (try clear ho0)
       obtain ⟨Ao58, co58, eo58⟩ := Kd.V_slice HO596.out
       (first | subst eo58 | (injection eo58 with f1_ f2_ f3_; have f4_ := f1_.symm; have f5_ := f3_.symm; clear f1_ f2_ f3_; subst f4_; subst f5_))
       refine hK.out _ _ ((blk_cell BK581.out 0).trans rfl) (fun hHeld => ?_)
       clear hK K
       refine norm_ (a' := ?_) ?_ ?_
       rotate_left
       ·show Act.put _ (some 27) _ = _
        simp only [Act.put, List.setIfInBounds_toArray, List.set_cons_zero, List.set_cons_succ, i64_w, i32_w]
        rfl
       refine one_ (i := 3) (N := some 28) (fl 4 10 [7]) rfl rfl (one_of HT_.out (by kernel_rfl)) (by decide) (fun K hK => ?_)
       refine goes_ Try.func26 (by kernel_rfl) rfl #[.agg #[.slice Ao44 t578.length co44], .agg #[.slice Ao58 t594.length co58]] (by rfl) rfl rfl (by (try simp only [List.map_toArray, List.map_cons, List.map_nil]); first | done | rfl | (simp only [List.length_drop, List.length_take]; rfl)) ?_
       with_reducible refine (nat_Nat_Sub.calls k _ _ t578 _ _ t594 t597 true _ ?side1 ?side2 ?side3 ?side4 A11.out).mono ?_
       (case side1 => exact cv HO580.out)
       (case side2 => exact (Kd.V_reads' HO580.out).2.1)
       (case side3 => exact cv HO596.out)
       (case side4 => exact (Kd.V_reads' HO596.out).2.1)
       rintro e w59 ⟨v598, rfl, ho0, hb⟩
       refine ⟨_, rfl, ?_⟩
       have n0_ := Aside0.mk (rb HO565.out hb)
       have n1_ := Aside0.mk (rb HO568.out hb)
       have n2_ := Aside0.mk (vb HO571.out hb)
       have n3_ := Aside0.mk (rb HO574.out hb)
       have n4_ := Aside0.mk (vb HO577.out hb)
       have n5_ := Aside0.mk (vb HO580.out hb)
       have n6_ := Aside0.mk (rb HO587.out hb)
       have n7_ := Aside0.mk (rb HO590.out hb)
       have n8_ := Aside0.mk (rb HO593.out hb)
       have n9_ := Aside0.mk (vb HO596.out hb)
       have n10_ := Aside0.mk (Kd.V_lower (Kd.V_mono (ok' := fun k_ => OB Ao32 y563 co32 k_ ∧ OB Ao34 t566 co34 k_ ∧ OB Ao38 y572 co38 k_ ∧ OB Ao51 y585 co51 k_ ∧ some k_ ≠ (v589 : Value).ownBlock ∧ OB Ao56 y591 co56 k_ ∧ k_ ≠ gb581 ∧ k_ ≠ gb601) ho0 (fun k_ hk_ => ⟨(Kd.fresh' (Kd.R_lt HO565.out) k_ hk_), (Kd.fresh' (Kd.R_lt HO568.out) k_ hk_), (Kd.fresh' (Kd.R_lt HO574.out) k_ hk_), (Kd.fresh' (Kd.R_lt HO587.out) k_ hk_), (Kd.fresh' (Kd.R_lt HO590.out) k_ hk_), (Kd.fresh' (Kd.R_lt HO593.out) k_ hk_), (fb BK581.out k_ hk_), (fb BK601.out k_ hk_)⟩)) (bz HB.out))
       have n11_ := Aside0.mk (bb BK581.out hb)
       have n12_ := Aside0.mk (bb BK601.out hb)
       have n13_ := Aside0.mk (bs HB.out hb)
       clear HO565
       clear HO568
       clear HO571
       clear HO574
       clear HO577
       clear HO580
       clear HO587
       clear HO590
       clear HO593
       clear HO596
       clear BK581
       clear BK601
       clear HB
       have HO565 := n0_
       have HO568 := n1_
       have HO571 := n2_
       have HO574 := n3_
       have HO577 := n4_
       have HO580 := n5_
       have HO587 := n6_
       have HO590 := n7_
       have HO593 := n8_
       have HO596 := n9_
       have HO599 := n10_
       have BK581 := n11_
       have BK601 := n12_
       have HB := n13_
       clear n0_ n1_ n2_ n3_ n4_ n5_ n6_ n7_ n8_ n9_ n10_ n11_ n12_ n13_
       (try clear hb)
       (try clear hb2)
       (try clear hk)
       (try clear hi)
       (try clear ho0)
       refine hK.out _ _ ((blk_cell BK581.out 0).trans rfl) (fun hHeld => ?_)
       clear hK K
       refine norm_ (a' := ?_) ?_ ?_
       rotate_left
       ·show Act.put _ (some 28) _ = _
        simp only [Act.put, List.setIfInBounds_toArray, List.set_cons_zero, List.set_cons_succ, i64_w, i32_w]
        rfl
       refine pure_ (i := 4) (N := some 24) (v := ?_) (a' := ?_) (fl 5 10 [7]) rfl rfl (any_of HT_.out (by kernel_rfl)) (fun _ _ _ h => h) (Or.inl ⟨by rfl, ?_⟩) ?_ ?_
       rotate_left
       ·intro w'
        go_simp
        with_reducible rfl
       rotate_left
       ·simp only [Act.put, List.setIfInBounds_toArray, List.set_cons_zero, List.set_cons_succ, i64_w, i32_w]
        rfl
       refine pure_ (i := 5) (N := some 29) (v := ?_) (a' := ?_) (fl 6 10 [7]) rfl rfl (any_of HT_.out (by kernel_rfl)) (fun _ _ _ h => h) (Or.inl ⟨by rfl, ?_⟩) ?_ ?_
       rotate_left
       ·intro w'
        go_simp
        with_reducible rfl
       rotate_left
       ·simp only [Act.put, List.setIfInBounds_toArray, List.set_cons_zero, List.set_cons_succ, i64_w, i32_w]
        rfl
       refine pure_ (i := 6) (N := some 30) (v := ?_) (a' := ?_) (fl 8 10 []) rfl rfl (any_of HT_.out (by kernel_rfl)) (fun _ _ _ h => h) (Or.inl ⟨by rfl, ?_⟩) ?_ ?_
       rotate_left
       ·intro w'
        go_simp
        with_reducible rfl
       rotate_left
       ·simp only [Act.put, List.setIfInBounds_toArray, List.set_cons_zero, List.set_cons_succ, i64_w, i32_w]
        rfl
       exact norm_ (by simp only [putAll, Act.put, List.setIfInBounds_toArray, List.set_cons_zero, List.set_cons_succ]) (hCont (.slice Ao56 y591.length co56, .slice Ao58 t594.length co58, v598, gb601) _ ⟨hHeld, (Kd.R_mono HO565.out (fun _ hk => ⟨hk.1.1.1, hk.1.1.2.1, hk.1.1.2.2, hk.1.2, hk.2⟩)), (Kd.R_mono HO568.out (fun _ hk => ⟨hk.1.1.1, hk.1.1.2.1, hk.1.1.2.2, hk.1.2, hk.2⟩)), (Kd.V_mono HO571.out (fun _ hk => ⟨hk.1.1.1.1, hk.1.1.1.2.1, hk.1.1.1.2.2.1, hk.1.1.1.2.2.2.1, hk.1.1.2, hk.1.2, hk.1.1.1.2.2.2.2, hk.2⟩)), (Kd.R_mono HO574.out (fun _ hk => ⟨hk.1.1.1, hk.1.1.2.1, hk.1.1.2.2, hk.1.2, hk.2⟩)), (Kd.V_mono HO577.out (fun _ hk => ⟨hk.1.1.1.1, hk.1.1.1.2.1, hk.1.1.1.2.2.1, hk.1.1.1.2.2.2.1, hk.1.1.2, hk.1.2, hk.1.1.1.2.2.2.2, hk.2⟩)), (Kd.V_mono HO580.out (fun _ hk => ⟨hk.1.1.1.1, hk.1.1.1.2.1, hk.1.1.1.2.2.1, hk.1.1.1.2.2.2.1, hk.1.1.2, hk.1.2, hk.1.1.1.2.2.2.2, hk.2⟩)), (Kd.R_mono HO587.out (fun _ hk => ⟨hk.1.1.1, hk.1.1.2.1, hk.1.1.2.2, hk.1.2, hk.2⟩)), (Kd.R_mono HO590.out (fun _ hk => ⟨hk.1.1, hk.1.2.1, hk.1.2.2.1, hk.1.2.2.2, hk.2⟩)), (Kd.R_mono HO593.out (fun _ hk => ⟨hk.1.1.1.1.2, hk.1.1.1.2, hk.1.1.2, hk.1.2, hk.2⟩)), HO596.out, HO599.out, BK581.out, BK601.out, GW601.out, GE601.out, NB581_601.out, NB601_581.out, (by repeat (first | (with_reducible first | exact HB.out | apply below_alloc | apply pw_below_drewN | apply below_drew1 | refine below_set ?_ GE581.out | refine below_set ?_ GE601.out) | exact HB.out))⟩)
     ·skip
      refine box_step ?hg (N := 7) ?hd (cs := #[.slice none 0 0]) (t := 25) ?hr ?_; (case hd => rfl); (case hg => rfl); (case hr => first | (go_simp; done) | (go_simp; rfl))
      intro gb601 hg w53 hbox hb
      have n0_ := Aside0.mk (rb HO565.out hb)
      have n1_ := Aside0.mk (rb HO568.out hb)
      have n2_ := Aside0.mk (Kd.V_below (Kd.V_elderB HO571.out gb601 (Nat.le_of_eq hg.symm)) hb)
      have n3_ := Aside0.mk (rb HO574.out hb)
      have n4_ := Aside0.mk (Kd.V_below (Kd.V_elderB HO577.out gb601 (Nat.le_of_eq hg.symm)) hb)
      have n5_ := Aside0.mk (Kd.V_below (Kd.V_elderB HO580.out gb601 (Nat.le_of_eq hg.symm)) hb)
      have n6_ := Aside0.mk (rb HO587.out hb)
      have n7_ := Aside0.mk (rb HO590.out hb)
      have n8_ := Aside0.mk (bb BK581.out hb)
      have n9_ := Aside0.mk (bs HB.out hb)
      have n10_ := Aside0.mk (hbox)
      have n11_ := Aside0.mk ((by rw [hg]; exact (bz HB.out) : w.heap.size ≤ gb601))
      have n12_ := Aside0.mk ((by rw [hg]; exact (bz HB.out) : w.heap.size ≤ gb601))
      have n13_ := Aside0.mk ((by rw [hg]; exact Nat.ne_of_lt (blk_lt (g := gb581) (o := .cells #[.slice Ao44 t578.length co44] 25 (0, 0)) BK581.out) : gb581 ≠ gb601))
      have n14_ := Aside0.mk ((by rw [hg]; exact Nat.ne_of_gt (blk_lt (g := gb581) (o := .cells #[.slice Ao44 t578.length co44] 25 (0, 0)) BK581.out) : gb601 ≠ gb581))
      clear HO565
      clear HO568
      clear HO571
      clear HO574
      clear HO577
      clear HO580
      clear HO587
      clear HO590
      clear BK581
      clear HB
      have HO565 := n0_
      have HO568 := n1_
      have HO571 := n2_
      have HO574 := n3_
      have HO577 := n4_
      have HO580 := n5_
      have HO587 := n6_
      have HO590 := n7_
      have BK581 := n8_
      have HB := n9_
      have BK601 := n10_
      have GW601 := n11_
      have GE601 := n12_
      have NB581_601 := n13_
      have NB601_581 := n14_
      clear n0_ n1_ n2_ n3_ n4_ n5_ n6_ n7_ n8_ n9_ n10_ n11_ n12_ n13_ n14_
      clear hb hbox hg
      refine hK.out _ _ ((blk_cell BK581.out 0).trans rfl) (fun hHeld => ?_)
      clear hK K
      refine norm_ (a' := ?_) ?_ ?_
      rotate_left
      ·show Act.put _ (some 7) _ = _
       simp only [Act.put, List.setIfInBounds_toArray, List.set_cons_zero, List.set_cons_succ, i64_w, i32_w]
       rfl
      refine one_ (i := 1) (N := some 26) (fl 2 10 [7]) rfl rfl (one_of HT_.out (by kernel_rfl)) (by decide) (fun K hK => ?_)
      refine Kd.R_lit_step (Kd.int .u64) _ 27 ?hg (N := 26) ?hd (xs := ([1] : List Int)) (inner := [.int .u64 1]) (ok := fun _ => True) (okp := fun _ => True) ?hr ?hp (fun _ hk => hk) trivial (Below.refl _ _) (Nat.le_refl _) (by simp) ?_; (case hd => rfl); (case hg => rfl); (case hr => first | (go_simp; done) | (go_simp; rfl)); (case hp => exact (Reps.one (show Kd.M (Kd.int .u64) _ _ _ 1 [.int .u64 1] from rfl) (Reps.none _ _)))
      intro v592 w54 ho55 hb hg_ hnew_
      clear hg_ hnew_
      (first | rw [← Ny591.out] at ho55 | (simp only [Int.reduceToNat] at ho55; rw [← Ny591.out] at ho55))
      have n0_ := Aside0.mk (Kd.R_elder' HO565.out (Kd.R_base ho55) hb)
      have n1_ := Aside0.mk (Kd.R_elder' HO568.out (Kd.R_base ho55) hb)
      have n2_ := Aside0.mk (Kd.V_elder' HO571.out (Kd.R_base ho55) hb)
      have n3_ := Aside0.mk (Kd.R_elder' HO574.out (Kd.R_base ho55) hb)
      have n4_ := Aside0.mk (Kd.V_elder' HO577.out (Kd.R_base ho55) hb)
      have n5_ := Aside0.mk (Kd.V_elder' HO580.out (Kd.R_base ho55) hb)
      have n6_ := Aside0.mk (Kd.R_elder' HO587.out (Kd.R_base ho55) hb)
      have n7_ := Aside0.mk (Kd.R_elder' HO590.out (Kd.R_base ho55) hb)
      have n8_ := Aside0.mk (Kd.R_lower (Kd.R_new' (Kd.R_new' (Kd.R_new' (Kd.R_new' (Kd.R_new' ho55 (Kd.R_lt HO565.out)) (Kd.R_lt HO568.out)) (Kd.R_lt HO574.out)) (Kd.R_lt HO587.out)) (Kd.R_lt HO590.out)) (bz HB.out))
      have n9_ := Aside0.mk (bb BK581.out hb)
      have n10_ := Aside0.mk (bb BK601.out hb)
      have n11_ := Aside0.mk (bs HB.out hb)
      clear HO565
      clear HO568
      clear HO571
      clear HO574
      clear HO577
      clear HO580
      clear HO587
      clear HO590
      clear BK581
      clear BK601
      clear HB
      have HO565 := n0_
      have HO568 := n1_
      have HO571 := n2_
      have HO574 := n3_
      have HO577 := n4_
      have HO580 := n5_
      have HO587 := n6_
      have HO590 := n7_
      have HO593 := n8_
      have BK581 := n9_
      have BK601 := n10_
      have HB := n11_
      clear n0_ n1_ n2_ n3_ n4_ n5_ n6_ n7_ n8_ n9_ n10_ n11_
      clear hb ho55
      obtain ⟨Ao56, co56, eo56⟩ := Kd.R_slice HO593.out
      (first | subst eo56 | (injection eo56 with f1_ f2_ f3_; have f4_ := f1_.symm; have f5_ := f3_.symm; clear f1_ f2_ f3_; subst f4_; subst f5_))
      refine hK.out _ _ ((blk_cell BK581.out 0).trans rfl) (fun hHeld => ?_)
      clear hK K
      refine norm_ (a' := ?_) ?_ ?_
      rotate_left
      ·show Act.put _ (some 26) _ = _
       simp only [Act.put, List.setIfInBounds_toArray, List.set_cons_zero, List.set_cons_succ, i64_w, i32_w]
       rfl
      refine one_ (i := 2) (N := some 27) (fl 3 10 [7]) rfl rfl (one_of HT_.out (by kernel_rfl)) (by decide) (fun K hK => ?_)
      refine goes_ Try.func14 (by kernel_rfl) rfl #[.slice Ao56 y591.length co56] (by rfl) rfl rfl (by (try simp only [List.map_toArray, List.map_cons, List.map_nil]); first | done | rfl | (simp only [List.length_drop, List.length_take]; rfl)) ?_
      with_reducible refine (nat_Of.calls k _ _ y591 t594 _ ?side1 ?side2 A10.out).mono ?_
      (case side1 => exact cr HO593.out)
      (case side2 => exact (Kd.R_reads' HO593.out).2.1)
      rintro e w57 ⟨v595, rfl, ho0, hb⟩
      refine ⟨_, rfl, ?_⟩
      have n0_ := Aside0.mk (rb HO565.out hb)
      have n1_ := Aside0.mk (rb HO568.out hb)
      have n2_ := Aside0.mk (vb HO571.out hb)
      have n3_ := Aside0.mk (rb HO574.out hb)
      have n4_ := Aside0.mk (vb HO577.out hb)
      have n5_ := Aside0.mk (vb HO580.out hb)
      have n6_ := Aside0.mk (rb HO587.out hb)
      have n7_ := Aside0.mk (rb HO590.out hb)
      have n8_ := Aside0.mk (rb HO593.out hb)
      have n9_ := Aside0.mk (Kd.V_lower (Kd.V_mono (ok' := fun k_ => OB Ao32 y563 co32 k_ ∧ OB Ao34 t566 co34 k_ ∧ OB Ao38 y572 co38 k_ ∧ OB Ao51 y585 co51 k_ ∧ some k_ ≠ (v589 : Value).ownBlock ∧ OB Ao56 y591 co56 k_ ∧ k_ ≠ gb581 ∧ k_ ≠ gb601) ho0 (fun k_ hk_ => ⟨(Kd.fresh' (Kd.R_lt HO565.out) k_ hk_), (Kd.fresh' (Kd.R_lt HO568.out) k_ hk_), (Kd.fresh' (Kd.R_lt HO574.out) k_ hk_), (Kd.fresh' (Kd.R_lt HO587.out) k_ hk_), (Kd.fresh' (Kd.R_lt HO590.out) k_ hk_), (Kd.fresh' (Kd.R_lt HO593.out) k_ hk_), (fb BK581.out k_ hk_), (fb BK601.out k_ hk_)⟩)) (bz HB.out))
      have n10_ := Aside0.mk (bb BK581.out hb)
      have n11_ := Aside0.mk (bb BK601.out hb)
      have n12_ := Aside0.mk (bs HB.out hb)
      clear HO565
      clear HO568
      clear HO571
      clear HO574
      clear HO577
      clear HO580
      clear HO587
      clear HO590
      clear HO593
      clear BK581
      clear BK601
      clear HB
      have HO565 := n0_
      have HO568 := n1_
      have HO571 := n2_
      have HO574 := n3_
      have HO577 := n4_
      have HO580 := n5_
      have HO587 := n6_
      have HO590 := n7_
      have HO593 := n8_
      have HO596 := n9_
      have BK581 := n10_
      have BK601 := n11_
      have HB := n12_
      clear n0_ n1_ n2_ n3_ n4_ n5_ n6_ n7_ n8_ n9_ n10_ n11_ n12_
      (try clear hb)
      (try clear hb2)
      (try clear hk)
      (try clear hi)
      (try clear ho0)
      obtain ⟨Ao58, co58, eo58⟩ := Kd.V_slice HO596.out
      (first | subst eo58 | (injection eo58 with f1_ f2_ f3_; have f4_ := f1_.symm; have f5_ := f3_.symm; clear f1_ f2_ f3_; subst f4_; subst f5_))
      refine hK.out _ _ ((blk_cell BK581.out 0).trans rfl) (fun hHeld => ?_)
      clear hK K
      refine norm_ (a' := ?_) ?_ ?_
      rotate_left
      ·show Act.put _ (some 27) _ = _
       simp only [Act.put, List.setIfInBounds_toArray, List.set_cons_zero, List.set_cons_succ, i64_w, i32_w]
       rfl
      refine one_ (i := 3) (N := some 28) (fl 4 10 [7]) rfl rfl (one_of HT_.out (by kernel_rfl)) (by decide) (fun K hK => ?_)
      refine goes_ Try.func26 (by kernel_rfl) rfl #[.agg #[.slice Ao44 t578.length co44], .agg #[.slice Ao58 t594.length co58]] (by rfl) rfl rfl (by (try simp only [List.map_toArray, List.map_cons, List.map_nil]); first | done | rfl | (simp only [List.length_drop, List.length_take]; rfl)) ?_
      with_reducible refine (nat_Nat_Sub.calls k _ _ t578 _ _ t594 t597 true _ ?side1 ?side2 ?side3 ?side4 A11.out).mono ?_
      (case side1 => exact cv HO580.out)
      (case side2 => exact (Kd.V_reads' HO580.out).2.1)
      (case side3 => exact cv HO596.out)
      (case side4 => exact (Kd.V_reads' HO596.out).2.1)
      rintro e w59 ⟨v598, rfl, ho0, hb⟩
      refine ⟨_, rfl, ?_⟩
      have n0_ := Aside0.mk (rb HO565.out hb)
      have n1_ := Aside0.mk (rb HO568.out hb)
      have n2_ := Aside0.mk (vb HO571.out hb)
      have n3_ := Aside0.mk (rb HO574.out hb)
      have n4_ := Aside0.mk (vb HO577.out hb)
      have n5_ := Aside0.mk (vb HO580.out hb)
      have n6_ := Aside0.mk (rb HO587.out hb)
      have n7_ := Aside0.mk (rb HO590.out hb)
      have n8_ := Aside0.mk (rb HO593.out hb)
      have n9_ := Aside0.mk (vb HO596.out hb)
      have n10_ := Aside0.mk (Kd.V_lower (Kd.V_mono (ok' := fun k_ => OB Ao32 y563 co32 k_ ∧ OB Ao34 t566 co34 k_ ∧ OB Ao38 y572 co38 k_ ∧ OB Ao51 y585 co51 k_ ∧ some k_ ≠ (v589 : Value).ownBlock ∧ OB Ao56 y591 co56 k_ ∧ k_ ≠ gb581 ∧ k_ ≠ gb601) ho0 (fun k_ hk_ => ⟨(Kd.fresh' (Kd.R_lt HO565.out) k_ hk_), (Kd.fresh' (Kd.R_lt HO568.out) k_ hk_), (Kd.fresh' (Kd.R_lt HO574.out) k_ hk_), (Kd.fresh' (Kd.R_lt HO587.out) k_ hk_), (Kd.fresh' (Kd.R_lt HO590.out) k_ hk_), (Kd.fresh' (Kd.R_lt HO593.out) k_ hk_), (fb BK581.out k_ hk_), (fb BK601.out k_ hk_)⟩)) (bz HB.out))
      have n11_ := Aside0.mk (bb BK581.out hb)
      have n12_ := Aside0.mk (bb BK601.out hb)
      have n13_ := Aside0.mk (bs HB.out hb)
      clear HO565
      clear HO568
      clear HO571
      clear HO574
      clear HO577
      clear HO580
      clear HO587
      clear HO590
      clear HO593
      clear HO596
      clear BK581
      clear BK601
      clear HB
      have HO565 := n0_
      have HO568 := n1_
      have HO571 := n2_
      have HO574 := n3_
      have HO577 := n4_
      have HO580 := n5_
      have HO587 := n6_
      have HO590 := n7_
      have HO593 := n8_
      have HO596 := n9_
      have HO599 := n10_
      have BK581 := n11_
      have BK601 := n12_
      have HB := n13_
      clear n0_ n1_ n2_ n3_ n4_ n5_ n6_ n7_ n8_ n9_ n10_ n11_ n12_ n13_
      (try clear hb)
      (try clear hb2)
      (try clear hk)
      (try clear hi)
      (try clear ho0)
      refine hK.out _ _ ((blk_cell BK581.out 0).trans rfl) (fun hHeld => ?_)
      clear hK K
      refine norm_ (a' := ?_) ?_ ?_
      rotate_left
      ·show Act.put _ (some 28) _ = _
       simp only [Act.put, List.setIfInBounds_toArray, List.set_cons_zero, List.set_cons_succ, i64_w, i32_w]
       rfl
      refine pure_ (i := 4) (N := some 24) (v := ?_) (a' := ?_) (fl 5 10 [7]) rfl rfl (any_of HT_.out (by kernel_rfl)) (fun _ _ _ h => h) (Or.inl ⟨by rfl, ?_⟩) ?_ ?_
      rotate_left
      ·intro w'
       go_simp
       with_reducible rfl
      rotate_left
      ·simp only [Act.put, List.setIfInBounds_toArray, List.set_cons_zero, List.set_cons_succ, i64_w, i32_w]
       rfl
      refine pure_ (i := 5) (N := some 29) (v := ?_) (a' := ?_) (fl 6 10 [7]) rfl rfl (any_of HT_.out (by kernel_rfl)) (fun _ _ _ h => h) (Or.inl ⟨by rfl, ?_⟩) ?_ ?_
      rotate_left
      ·intro w'
       go_simp
       with_reducible rfl
      rotate_left
      ·simp only [Act.put, List.setIfInBounds_toArray, List.set_cons_zero, List.set_cons_succ, i64_w, i32_w]
       rfl
      refine pure_ (i := 6) (N := some 30) (v := ?_) (a' := ?_) (fl 8 10 []) rfl rfl (any_of HT_.out (by kernel_rfl)) (fun _ _ _ h => h) (Or.inl ⟨by rfl, ?_⟩) ?_ ?_
      rotate_left
      ·intro w'
       go_simp
       with_reducible rfl
      rotate_left
      ·simp only [Act.put, List.setIfInBounds_toArray, List.set_cons_zero, List.set_cons_succ, i64_w, i32_w]
       rfl
      exact norm_ (by simp only [putAll, Act.put, List.setIfInBounds_toArray, List.set_cons_zero, List.set_cons_succ]) (hCont (.slice Ao56 y591.length co56, .slice Ao58 t594.length co58, v598, gb601) _ ⟨hHeld, (Kd.R_mono HO565.out (fun _ hk => ⟨hk.1.1.1, hk.1.1.2.1, hk.1.1.2.2, hk.1.2, hk.2⟩)), (Kd.R_mono HO568.out (fun _ hk => ⟨hk.1.1.1, hk.1.1.2.1, hk.1.1.2.2, hk.1.2, hk.2⟩)), (Kd.V_mono HO571.out (fun _ hk => ⟨hk.1.1.1.1, hk.1.1.1.2.1, hk.1.1.1.2.2.1, hk.1.1.1.2.2.2.1, hk.1.1.2, hk.2, hk.1.1.1.2.2.2.2, hk.1.2⟩)), (Kd.R_mono HO574.out (fun _ hk => ⟨hk.1.1.1, hk.1.1.2.1, hk.1.1.2.2, hk.1.2, hk.2⟩)), (Kd.V_mono HO577.out (fun _ hk => ⟨hk.1.1.1.1, hk.1.1.1.2.1, hk.1.1.1.2.2.1, hk.1.1.1.2.2.2.1, hk.1.1.2, hk.2, hk.1.1.1.2.2.2.2, hk.1.2⟩)), (Kd.V_mono HO580.out (fun _ hk => ⟨hk.1.1.1.1, hk.1.1.1.2.1, hk.1.1.1.2.2.1, hk.1.1.1.2.2.2.1, hk.1.1.2, hk.2, hk.1.1.1.2.2.2.2, hk.1.2⟩)), (Kd.R_mono HO587.out (fun _ hk => ⟨hk.1.1.1, hk.1.1.2.1, hk.1.1.2.2, hk.1.2, hk.2⟩)), (Kd.R_mono HO590.out (fun _ hk => ⟨hk.1.1, hk.1.2.1, hk.1.2.2.1, hk.1.2.2.2, hk.2⟩)), (Kd.R_mono HO593.out (fun _ hk => ⟨hk.1.1.1.1.2, hk.1.1.1.2, hk.1.1.2, hk.1.2, hk.2⟩)), HO596.out, HO599.out, BK581.out, BK601.out, GW601.out, GE601.out, NB581_601.out, NB601_581.out, (by repeat (first | (with_reducible first | exact HB.out | apply below_alloc | apply pw_below_drewN | apply below_drew1 | refine below_set ?_ GE581.out | refine below_set ?_ GE601.out) | exact HB.out))⟩)
    rintro ⟨v592, v595, v598, gb601⟩ w60 ⟨hS_, h0_, h1_, h2_, h3_, h4_, h5_, h6_, h7_, h8_, h9_, h10_, h11_, h12_, h13_, h14_, h15_, h16_, h17_⟩
    have n0_ := Aside0.mk h0_
    have n1_ := Aside0.mk h1_
    have n2_ := Aside0.mk h2_
    have n3_ := Aside0.mk h3_
    have n4_ := Aside0.mk h4_
    have n5_ := Aside0.mk h5_
    have n6_ := Aside0.mk h6_
    have n7_ := Aside0.mk h7_
    have n8_ := Aside0.mk h8_
    have n9_ := Aside0.mk h9_
    have n10_ := Aside0.mk h10_
    have n11_ := Aside0.mk h11_
    have n12_ := Aside0.mk h12_
    have n13_ := Aside0.mk h13_
    have n14_ := Aside0.mk h14_
    have n15_ := Aside0.mk h15_
    have n16_ := Aside0.mk h16_
    have n17_ := Aside0.mk h17_
    clear HO565
    clear HO568
    clear HO571
    clear HO574
    clear HO577
    clear HO580
    clear HO587
    clear HO590
    clear BK581
    clear HB
    clear h0_ h1_ h2_ h3_ h4_ h5_ h6_ h7_ h8_ h9_ h10_ h11_ h12_ h13_ h14_ h15_ h16_ h17_
    have HO565 := n0_
    have HO568 := n1_
    have HO571 := n2_
    have HO574 := n3_
    have HO577 := n4_
    have HO580 := n5_
    have HO587 := n6_
    have HO590 := n7_
    have HO593 := n8_
    have HO596 := n9_
    have HO599 := n10_
    have BK581 := n11_
    have BK601 := n12_
    have GW601 := n13_
    have GE601 := n14_
    have NB581_601 := n15_
    have NB601_581 := n16_
    have HB := n17_
    clear n0_ n1_ n2_ n3_ n4_ n5_ n6_ n7_ n8_ n9_ n10_ n11_ n12_ n13_ n14_ n15_ n16_ n17_
    have hHeld : w60.cell? ⟨gb581, 0, none⟩ = some (.slice Ao44 t578.length co44) := hS_
    obtain ⟨Ao61, co61, eo61⟩ := Kd.V_slice HO599.out
    (first | subst eo61 | (injection eo61 with f1_ f2_ f3_; have f4_ := f1_.symm; have f5_ := f3_.symm; clear f1_ f2_ f3_; subst f4_; subst f5_))
    refine norm_ (a' := ?_) ?_ ?_
    rotate_left
    ·simp only [putAll, Act.put, List.setIfInBounds_toArray, List.set_cons_zero, List.set_cons_succ]
     rfl
    refine one_ (i := 8) (N := none) (fl 9 10 []) rfl rfl (one_of HT_.out (by kernel_rfl)) (by decide) (fun K hK => ?_)
    have hs62 : w60.cell? ⟨gb601, 0, none⟩ = some (.slice none 0 0) := (blk_cell BK601.out 0).trans rfl
    have hfs62 := blk_frozen BK601.out 0
    have hns62_0 := NB581_601.out
    have hms62_0 := NB601_581.out
    refine skip_ (w1 := ?_) (by rfl) rfl ?_ ?_
    rotate_left
    ·go_simp
     rfl
    refine hK.out _ _ (((cell_far (p := ⟨gb601, _, none⟩) NB581_601.out _).trans (hHeld))) (fun hHeld => ?_)
    clear hK K
    refine pure_ (i := 9) (N := some 8) (v := ?_) (a' := ?_) (fl 10 10 []) rfl rfl (any_of HT_.out (by kernel_rfl)) (fun _ _ _ h => h) (Or.inl ⟨by rfl, ?_⟩) ?_ ?_
    rotate_left
    ·intro w'
     go_simp
     with_reducible rfl
    rotate_left
    ·simp only [Act.put, List.setIfInBounds_toArray, List.set_cons_zero, List.set_cons_succ, i64_w, i32_w]
     rfl
    refine done_ (done_of HT_.out (by kernel_rfl)) ?_
    obtain ⟨Ao63, co63, eo63⟩ := Kd.R_slice HO590.out
    subst eo63
    try go_wp2
    have n0_ : Aside0 (Kd.R (Kd.int .u64) 27 (w60.setCell ⟨gb601, 0, none⟩ (.slice Ao61 t597.length co61)) w.heap.size (fun k_ => OB Ao34 t566 co34 k_ ∧ OB Ao38 y572 co38 k_ ∧ OB Ao51 y585 co51 k_ ∧ OB Ao63 y588 co63 k_ ∧ some k_ ≠ (v592 : Value).ownBlock) (.slice Ao32 y563.length co32) y563) := ⟨by (with_reducible repeat (first | apply Kd.R_alloc | apply Kd.R_drewN | apply Kd.R_drew)); exact Kd.R_mono (Kd.R_far (p := ⟨gb601, 0, none⟩) (Kd.R_types HO565.out BK601.out (by decide)) (fun _ hk => hk.2) (.slice Ao61 t597.length co61)) (fun _ hk => ⟨hk.1.1, hk.1.2.1, hk.1.2.2.1, hk.1.2.2.2.1, hk.1.2.2.2.2⟩)⟩
    have n1_ : Aside0 (Kd.R (Kd.int .u64) 27 (w60.setCell ⟨gb601, 0, none⟩ (.slice Ao61 t597.length co61)) w.heap.size (fun k_ => OB Ao32 y563 co32 k_ ∧ OB Ao38 y572 co38 k_ ∧ OB Ao51 y585 co51 k_ ∧ OB Ao63 y588 co63 k_ ∧ some k_ ≠ (v592 : Value).ownBlock) (.slice Ao34 t566.length co34) t566) := ⟨by (with_reducible repeat (first | apply Kd.R_alloc | apply Kd.R_drewN | apply Kd.R_drew)); exact Kd.R_mono (Kd.R_far (p := ⟨gb601, 0, none⟩) (Kd.R_types HO568.out BK601.out (by decide)) (fun _ hk => hk.2) (.slice Ao61 t597.length co61)) (fun _ hk => ⟨hk.1.1, hk.1.2.1, hk.1.2.2.1, hk.1.2.2.2.1, hk.1.2.2.2.2⟩)⟩
    have n2_ : Aside0 (Kd.V (Kd.int .u64) 27 (w60.setCell ⟨gb601, 0, none⟩ (.slice Ao61 t597.length co61)) w.heap.size (fun k_ => OB Ao32 y563 co32 k_ ∧ OB Ao34 t566 co34 k_ ∧ OB Ao38 y572 co38 k_ ∧ OB Ao51 y585 co51 k_ ∧ OB Ao63 y588 co63 k_ ∧ some k_ ≠ (v592 : Value).ownBlock ∧ k_ ≠ gb581 ∧ k_ ≠ gb601) (.slice Ao40 t569.length co40) t569) := ⟨by (with_reducible repeat (first | apply Kd.V_alloc | apply Kd.V_drewN | apply Kd.V_drew)); exact Kd.V_mono (Kd.V_far (p := ⟨gb601, 0, none⟩) (Kd.V_mono HO571.out (fun k_ hk => (⟨hk, hk.2.2.2.2.2.2.2⟩ : _ ∧ k_ ≠ gb601))) (fun _ hk => hk.2) (.slice Ao61 t597.length co61)) (fun _ hk => ⟨hk.1.1, hk.1.2.1, hk.1.2.2.1, hk.1.2.2.2.1, hk.1.2.2.2.2.1, hk.1.2.2.2.2.2.1, hk.1.2.2.2.2.2.2.1, hk.1.2.2.2.2.2.2.2⟩)⟩
    have n3_ : Aside0 (Kd.R (Kd.int .u64) 27 (w60.setCell ⟨gb601, 0, none⟩ (.slice Ao61 t597.length co61)) w.heap.size (fun k_ => OB Ao32 y563 co32 k_ ∧ OB Ao34 t566 co34 k_ ∧ OB Ao51 y585 co51 k_ ∧ OB Ao63 y588 co63 k_ ∧ some k_ ≠ (v592 : Value).ownBlock) (.slice Ao38 y572.length co38) y572) := ⟨by (with_reducible repeat (first | apply Kd.R_alloc | apply Kd.R_drewN | apply Kd.R_drew)); exact Kd.R_mono (Kd.R_far (p := ⟨gb601, 0, none⟩) (Kd.R_types HO574.out BK601.out (by decide)) (fun _ hk => hk.2) (.slice Ao61 t597.length co61)) (fun _ hk => ⟨hk.1.1, hk.1.2.1, hk.1.2.2.1, hk.1.2.2.2.1, hk.1.2.2.2.2⟩)⟩
    have n4_ : Aside0 (Kd.V (Kd.int .u64) 27 (w60.setCell ⟨gb601, 0, none⟩ (.slice Ao61 t597.length co61)) w.heap.size (fun k_ => OB Ao32 y563 co32 k_ ∧ OB Ao34 t566 co34 k_ ∧ OB Ao38 y572 co38 k_ ∧ OB Ao51 y585 co51 k_ ∧ OB Ao63 y588 co63 k_ ∧ some k_ ≠ (v592 : Value).ownBlock ∧ k_ ≠ gb581 ∧ k_ ≠ gb601) (.slice Ao41 t575.length co41) t575) := ⟨by (with_reducible repeat (first | apply Kd.V_alloc | apply Kd.V_drewN | apply Kd.V_drew)); exact Kd.V_mono (Kd.V_far (p := ⟨gb601, 0, none⟩) (Kd.V_mono HO577.out (fun k_ hk => (⟨hk, hk.2.2.2.2.2.2.2⟩ : _ ∧ k_ ≠ gb601))) (fun _ hk => hk.2) (.slice Ao61 t597.length co61)) (fun _ hk => ⟨hk.1.1, hk.1.2.1, hk.1.2.2.1, hk.1.2.2.2.1, hk.1.2.2.2.2.1, hk.1.2.2.2.2.2.1, hk.1.2.2.2.2.2.2.1, hk.1.2.2.2.2.2.2.2⟩)⟩
    have n5_ : Aside0 (Kd.V (Kd.int .u64) 27 (w60.setCell ⟨gb601, 0, none⟩ (.slice Ao61 t597.length co61)) w.heap.size (fun k_ => OB Ao32 y563 co32 k_ ∧ OB Ao34 t566 co34 k_ ∧ OB Ao38 y572 co38 k_ ∧ OB Ao51 y585 co51 k_ ∧ OB Ao63 y588 co63 k_ ∧ some k_ ≠ (v592 : Value).ownBlock ∧ k_ ≠ gb581 ∧ k_ ≠ gb601) (.slice Ao44 t578.length co44) t578) := ⟨by (with_reducible repeat (first | apply Kd.V_alloc | apply Kd.V_drewN | apply Kd.V_drew)); exact Kd.V_mono (Kd.V_far (p := ⟨gb601, 0, none⟩) (Kd.V_mono HO580.out (fun k_ hk => (⟨hk, hk.2.2.2.2.2.2.2⟩ : _ ∧ k_ ≠ gb601))) (fun _ hk => hk.2) (.slice Ao61 t597.length co61)) (fun _ hk => ⟨hk.1.1, hk.1.2.1, hk.1.2.2.1, hk.1.2.2.2.1, hk.1.2.2.2.2.1, hk.1.2.2.2.2.2.1, hk.1.2.2.2.2.2.2.1, hk.1.2.2.2.2.2.2.2⟩)⟩
    have n6_ : Aside0 (Kd.R (Kd.int .u64) 27 (w60.setCell ⟨gb601, 0, none⟩ (.slice Ao61 t597.length co61)) w.heap.size (fun k_ => OB Ao32 y563 co32 k_ ∧ OB Ao34 t566 co34 k_ ∧ OB Ao38 y572 co38 k_ ∧ OB Ao63 y588 co63 k_ ∧ some k_ ≠ (v592 : Value).ownBlock) (.slice Ao51 y585.length co51) y585) := ⟨by (with_reducible repeat (first | apply Kd.R_alloc | apply Kd.R_drewN | apply Kd.R_drew)); exact Kd.R_mono (Kd.R_far (p := ⟨gb601, 0, none⟩) (Kd.R_types HO587.out BK601.out (by decide)) (fun _ hk => hk.2) (.slice Ao61 t597.length co61)) (fun _ hk => ⟨hk.1.1, hk.1.2.1, hk.1.2.2.1, hk.1.2.2.2.1, hk.1.2.2.2.2⟩)⟩
    have n7_ : Aside0 (Kd.R (Kd.int .u64) 27 (w60.setCell ⟨gb601, 0, none⟩ (.slice Ao61 t597.length co61)) w.heap.size (fun k_ => OB Ao32 y563 co32 k_ ∧ OB Ao34 t566 co34 k_ ∧ OB Ao38 y572 co38 k_ ∧ OB Ao51 y585 co51 k_ ∧ some k_ ≠ (v592 : Value).ownBlock) (.slice Ao63 y588.length co63) y588) := ⟨by (with_reducible repeat (first | apply Kd.R_alloc | apply Kd.R_drewN | apply Kd.R_drew)); exact Kd.R_mono (Kd.R_far (p := ⟨gb601, 0, none⟩) (Kd.R_types HO590.out BK601.out (by decide)) (fun _ hk => hk.2) (.slice Ao61 t597.length co61)) (fun _ hk => ⟨hk.1.1, hk.1.2.1, hk.1.2.2.1, hk.1.2.2.2.1, hk.1.2.2.2.2⟩)⟩
    have n8_ : Aside0 (Kd.R (Kd.int .u64) 27 (w60.setCell ⟨gb601, 0, none⟩ (.slice Ao61 t597.length co61)) w.heap.size (fun k_ => OB Ao32 y563 co32 k_ ∧ OB Ao34 t566 co34 k_ ∧ OB Ao38 y572 co38 k_ ∧ OB Ao51 y585 co51 k_ ∧ OB Ao63 y588 co63 k_) v592 y591) := ⟨by (with_reducible repeat (first | apply Kd.R_alloc | apply Kd.R_drewN | apply Kd.R_drew)); exact Kd.R_mono (Kd.R_far (p := ⟨gb601, 0, none⟩) (Kd.R_types HO593.out BK601.out (by decide)) (fun _ hk => hk.2) (.slice Ao61 t597.length co61)) (fun _ hk => ⟨hk.1.1, hk.1.2.1, hk.1.2.2.1, hk.1.2.2.2.1, hk.1.2.2.2.2⟩)⟩
    have n9_ : Aside0 (Kd.V (Kd.int .u64) 27 (w60.setCell ⟨gb601, 0, none⟩ (.slice Ao61 t597.length co61)) w.heap.size (fun k_ => OB Ao32 y563 co32 k_ ∧ OB Ao34 t566 co34 k_ ∧ OB Ao38 y572 co38 k_ ∧ OB Ao51 y585 co51 k_ ∧ OB Ao63 y588 co63 k_ ∧ some k_ ≠ (v592 : Value).ownBlock ∧ k_ ≠ gb581 ∧ k_ ≠ gb601) v595 t594) := ⟨by (with_reducible repeat (first | apply Kd.V_alloc | apply Kd.V_drewN | apply Kd.V_drew)); exact Kd.V_mono (Kd.V_far (p := ⟨gb601, 0, none⟩) (Kd.V_mono HO596.out (fun k_ hk => (⟨hk, hk.2.2.2.2.2.2.2⟩ : _ ∧ k_ ≠ gb601))) (fun _ hk => hk.2) (.slice Ao61 t597.length co61)) (fun _ hk => ⟨hk.1.1, hk.1.2.1, hk.1.2.2.1, hk.1.2.2.2.1, hk.1.2.2.2.2.1, hk.1.2.2.2.2.2.1, hk.1.2.2.2.2.2.2.1, hk.1.2.2.2.2.2.2.2⟩)⟩
    have n10_ : Aside0 (Kd.V (Kd.int .u64) 27 (w60.setCell ⟨gb601, 0, none⟩ (.slice Ao61 t597.length co61)) w.heap.size (fun k_ => OB Ao32 y563 co32 k_ ∧ OB Ao34 t566 co34 k_ ∧ OB Ao38 y572 co38 k_ ∧ OB Ao51 y585 co51 k_ ∧ OB Ao63 y588 co63 k_ ∧ some k_ ≠ (v592 : Value).ownBlock ∧ k_ ≠ gb581 ∧ k_ ≠ gb601) (.slice Ao61 t597.length co61) t597) := ⟨by (with_reducible repeat (first | apply Kd.V_alloc | apply Kd.V_drewN | apply Kd.V_drew)); exact Kd.V_mono (Kd.V_far (p := ⟨gb601, 0, none⟩) (Kd.V_mono HO599.out (fun k_ hk => (⟨hk, hk.2.2.2.2.2.2.2⟩ : _ ∧ k_ ≠ gb601))) (fun _ hk => hk.2) (.slice Ao61 t597.length co61)) (fun _ hk => ⟨hk.1.1, hk.1.2.1, hk.1.2.2.1, hk.1.2.2.2.1, hk.1.2.2.2.2.1, hk.1.2.2.2.2.2.1, hk.1.2.2.2.2.2.2.1, hk.1.2.2.2.2.2.2.2⟩)⟩
    have n11_ : Aside0 ((w60.setCell ⟨gb601, 0, none⟩ (.slice Ao61 t597.length co61)).heap[gb581]? = some (.cells #[.slice Ao44 t578.length co44] 25 (0, 0))) := ⟨by (with_reducible repeat (first | refine blk_drewN ?_ _ | refine blk_drew ?_ | refine blk_alloc ?_ _)); refine blk_far ?_ NB581_601.out _; (with_reducible repeat (first | refine blk_drewN ?_ _ | refine blk_drew ?_ | refine blk_alloc ?_ _)); exact BK581.out⟩
    have n12_ : Aside0 ((w60.setCell ⟨gb601, 0, none⟩ (.slice Ao61 t597.length co61)).heap[gb601]? = some (.cells #[.slice Ao61 t597.length co61] 25 (0, 0))) := ⟨by (with_reducible repeat (first | refine blk_drewN ?_ _ | refine blk_drew ?_ | refine blk_alloc ?_ _)); refine blk_put (cs := #[.slice none 0 0]) ?_ 0 _ rfl; (with_reducible repeat (first | refine blk_drewN ?_ _ | refine blk_drew ?_ | refine blk_alloc ?_ _)); exact BK601.out⟩
    have n13_ : Aside0 (Below w.heap.size w (w60.setCell ⟨gb601, 0, none⟩ (.slice Ao61 t597.length co61))) := ⟨by repeat (first | (with_reducible first | exact HB.out | apply below_alloc | apply pw_below_drewN | apply below_drew1 | refine below_set ?_ GE581.out | refine below_set ?_ GE601.out) | exact HB.out)⟩
    (try clear HO565)
    (try clear HO568)
    (try clear HO571)
    (try clear HO574)
    (try clear HO577)
    (try clear HO580)
    (try clear HO587)
    (try clear HO590)
    (try clear HO593)
    (try clear HO596)
    (try clear HO599)
    (try clear BK581)
    (try clear BK601)
    (try clear HB)
    generalize (w60.setCell ⟨gb601, 0, none⟩ (.slice Ao61 t597.length co61)) = w64 at n0_ n1_ n2_ n3_ n4_ n5_ n6_ n7_ n8_ n9_ n10_ n11_ n12_ n13_ ⊢
    have HO565 := n0_
    have HO568 := n1_
    have HO571 := n2_
    have HO574 := n3_
    have HO577 := n4_
    have HO580 := n5_
    have HO587 := n6_
    have HO590 := n7_
    have HO593 := n8_
    have HO596 := n9_
    have HO599 := n10_
    have BK581 := n11_
    have BK601 := n12_
    have HB := n13_
    clear n0_ n1_ n2_ n3_ n4_ n5_ n6_ n7_ n8_ n9_ n10_ n11_ n12_ n13_
    replace HO565 := Aside0.mk (Kd.R_drew HO565.out)
    replace HO568 := Aside0.mk (Kd.R_drew HO568.out)
    replace HO571 := Aside0.mk (Kd.V_drew HO571.out)
    replace HO574 := Aside0.mk (Kd.R_drew HO574.out)
    replace HO577 := Aside0.mk (Kd.V_drew HO577.out)
    replace HO580 := Aside0.mk (Kd.V_drew HO580.out)
    replace HO587 := Aside0.mk (Kd.R_drew HO587.out)
    replace HO590 := Aside0.mk (Kd.R_drew HO590.out)
    replace HO593 := Aside0.mk (Kd.R_drew HO593.out)
    replace HO596 := Aside0.mk (Kd.V_drew HO596.out)
    replace HO599 := Aside0.mk (Kd.V_drew HO599.out)
    replace BK581 := Aside0.mk (blk_drew BK581.out)
    replace BK601 := Aside0.mk (blk_drew BK601.out)
    replace HB := Aside0.mk (below_drew1 HB.out)
    refine start_ (n := 38) (S := fun w' => w'.cell? ⟨gb581, 0, none⟩ = some (.slice Ao44 t578.length co44) ∧ w'.cell? ⟨gb601, 0, none⟩ = some (.slice Ao61 t597.length co61)) (ds := []) (fl 0 38 []) (by kernel_rfl) rfl rfl ⟨(blk_cell BK581.out 0).trans rfl, (blk_cell BK601.out 0).trans rfl⟩ (fun hHeld => ?_); refine with_tabW chattellaw01_NatCarries.tab6 chattellaw01_NatCarries.bits6 (fun HT_ HW_ => ?_)
    generalize w64.drew = w65 at HO565 HO568 HO571 HO574 HO577 HO580 HO587 HO590 HO593 HO596 HO599 BK581 BK601 HB hHeld ⊢
    refine one_ (i := 0) (N := some 31) (fl 1 38 []) rfl rfl (one_of HT_.out (by kernel_rfl)) (by decide) (fun K hK => ?_)
    refine goes_ Try.func20 (by kernel_rfl) rfl #[] (by rfl) rfl rfl (by (try simp only [List.map_toArray, List.map_cons, List.map_nil]); first | done | rfl | (simp only [List.length_drop, List.length_take]; rfl)) ?_
    with_reducible refine (chattellaw01_wakes.calls k  true _ A12.out).mono ?_
    rintro e w66 ⟨rfl, hb⟩
    refine ⟨_, rfl, ?_⟩
    replace HO565 := Aside0.mk (rb HO565.out hb)
    replace HO568 := Aside0.mk (rb HO568.out hb)
    replace HO571 := Aside0.mk (vb HO571.out hb)
    replace HO574 := Aside0.mk (rb HO574.out hb)
    replace HO577 := Aside0.mk (vb HO577.out hb)
    replace HO580 := Aside0.mk (vb HO580.out hb)
    replace HO587 := Aside0.mk (rb HO587.out hb)
    replace HO590 := Aside0.mk (rb HO590.out hb)
    replace HO593 := Aside0.mk (rb HO593.out hb)
    replace HO596 := Aside0.mk (vb HO596.out hb)
    replace HO599 := Aside0.mk (vb HO599.out hb)
    replace BK581 := Aside0.mk (bb BK581.out hb)
    replace BK601 := Aside0.mk (bb BK601.out hb)
    replace HB := Aside0.mk (bs HB.out hb)
    (try clear hb)
    (try clear hb2)
    (try clear hk)
    (try clear hi)
    refine hK.out _ _ ⟨(blk_cell BK581.out 0).trans rfl, (blk_cell BK601.out 0).trans rfl⟩ (fun hHeld => ?_)
    clear hK K
    refine norm_ (a' := ?_) ?_ ?_
    rotate_left
    ·show Act.put _ (some 31) _ = _
     simp only [Act.put, List.setIfInBounds_toArray, List.set_cons_zero, List.set_cons_succ, i64_w, i32_w]
     rfl
    refine pure_ (i := 1) (N := some 32) (v := ?_) (a' := ?_) (fl 2 38 []) rfl rfl (any_of HT_.out (by kernel_rfl)) (fun _ _ _ h => h) (Or.inl ⟨by rfl, ?_⟩) ?_ ?_
    rotate_left
    ·intro w'
     go_simp
     with_reducible rfl
    rotate_left
    ·simp only [Act.put, List.setIfInBounds_toArray, List.set_cons_zero, List.set_cons_succ, i64_w, i32_w]
     rfl
    refine pure_ (i := 4) (N := some 35) (v := ?_) (a' := ?_) (fl 2 38 [4]) rfl rfl (any_of HT_.out (by kernel_rfl)) (fun _ _ _ h => h) (Or.inl ⟨by rfl, ?_⟩) ?_ ?_
    rotate_left
    ·intro w'
     go_simp
     with_reducible rfl
    rotate_left
    ·simp only [Act.put, List.setIfInBounds_toArray, List.set_cons_zero, List.set_cons_succ, i64_w, i32_w]
     rfl
    refine take_ (i := 2) (N := some 33) (v := ?_) (a' := ?_) (fl 3 38 [4]) rfl rfl (take_ofW HT_.out HW_.out (by kernel_rfl)) (fun _ _ _ h => h) (Or.inl ⟨by rfl, ?_⟩) hHeld ?_ ?_
    rotate_left
    ·rintro w' ⟨s0, s1⟩
     go_simp
     with_reducible rfl
    rotate_left
    ·simp only [Act.put, List.setIfInBounds_toArray, List.set_cons_zero, List.set_cons_succ, i64_w, i32_w]
     rfl
    refine one_ (i := 3) (N := some 34) (fl 5 38 []) rfl rfl (one_of HT_.out (by kernel_rfl)) (by decide) (fun K hK => ?_)
    refine goes_ Try.func16 (by kernel_rfl) rfl #[.agg #[.slice Ao44 t578.length co44]] (by rfl) rfl rfl (by (try simp only [List.map_toArray, List.map_cons, List.map_nil]); first | done | rfl | (simp only [List.length_drop, List.length_take]; rfl)) ?_
    with_reducible refine (nat_Nat_Limbs.calls _ _ t578 t603 _ ?side1 ?side2 A14.out).mono ?_
    (case side1 => exact cv HO580.out)
    (case side2 => exact (Kd.V_reads' HO580.out).2.1)
    rintro e w67 ⟨v604, rfl, ho0, hb⟩
    refine ⟨_, rfl, ?_⟩
    have n0_ := Aside0.mk (Kd.R_elder' HO565.out (Kd.R_base ho0) hb)
    have n1_ := Aside0.mk (Kd.R_elder' HO568.out (Kd.R_base ho0) hb)
    have n2_ := Aside0.mk (Kd.V_elder' HO571.out (Kd.R_base ho0) hb)
    have n3_ := Aside0.mk (Kd.R_elder' HO574.out (Kd.R_base ho0) hb)
    have n4_ := Aside0.mk (Kd.V_elder' HO577.out (Kd.R_base ho0) hb)
    have n5_ := Aside0.mk (Kd.V_elder' HO580.out (Kd.R_base ho0) hb)
    have n6_ := Aside0.mk (Kd.R_elder' HO587.out (Kd.R_base ho0) hb)
    have n7_ := Aside0.mk (Kd.R_elder' HO590.out (Kd.R_base ho0) hb)
    have n8_ := Aside0.mk (Kd.R_elder' HO593.out (Kd.R_base ho0) hb)
    have n9_ := Aside0.mk (Kd.V_elder' HO596.out (Kd.R_base ho0) hb)
    have n10_ := Aside0.mk (Kd.V_elder' HO599.out (Kd.R_base ho0) hb)
    have n11_ := Aside0.mk (Kd.R_lower (Kd.R_new' (Kd.R_new' (Kd.R_new' (Kd.R_new' (Kd.R_new' (Kd.R_new' ho0 (Kd.R_lt HO565.out)) (Kd.R_lt HO568.out)) (Kd.R_lt HO574.out)) (Kd.R_lt HO587.out)) (Kd.R_lt HO590.out)) (Kd.R_lt HO593.out)) (bz HB.out))
    have n12_ := Aside0.mk (bb BK581.out hb)
    have n13_ := Aside0.mk (bb BK601.out hb)
    have n14_ := Aside0.mk (bs HB.out hb)
    clear HO565
    clear HO568
    clear HO571
    clear HO574
    clear HO577
    clear HO580
    clear HO587
    clear HO590
    clear HO593
    clear HO596
    clear HO599
    clear BK581
    clear BK601
    clear HB
    have HO565 := n0_
    have HO568 := n1_
    have HO571 := n2_
    have HO574 := n3_
    have HO577 := n4_
    have HO580 := n5_
    have HO587 := n6_
    have HO590 := n7_
    have HO593 := n8_
    have HO596 := n9_
    have HO599 := n10_
    have HO605 := n11_
    have BK581 := n12_
    have BK601 := n13_
    have HB := n14_
    clear n0_ n1_ n2_ n3_ n4_ n5_ n6_ n7_ n8_ n9_ n10_ n11_ n12_ n13_ n14_
    (try clear hb)
    (try clear hb2)
    (try clear hk)
    (try clear hi)
    (try clear ho0)
    obtain ⟨Ao68, co68, eo68⟩ := Kd.R_slice HO605.out
    (first | subst eo68 | (injection eo68 with f1_ f2_ f3_; have f4_ := f1_.symm; have f5_ := f3_.symm; clear f1_ f2_ f3_; subst f4_; subst f5_))
    refine hK.out _ _ ⟨(blk_cell BK581.out 0).trans rfl, (blk_cell BK601.out 0).trans rfl⟩ (fun hHeld => ?_)
    clear hK K
    refine norm_ (a' := ?_) ?_ ?_
    rotate_left
    ·show Act.put _ (some 34) _ = _
     simp only [Act.put, List.setIfInBounds_toArray, List.set_cons_zero, List.set_cons_succ, i64_w, i32_w]
     rfl
    refine one_ (i := 5) (N := some 36) (fl 6 38 []) rfl rfl (one_of HT_.out (by kernel_rfl)) (by decide) (fun K hK => ?_)
    refine goes_ Try.func17 (by kernel_rfl) rfl #[.slice Ao68 t603.length co68, .slice Ao63 y588.length co63] (by rfl) rfl rfl (by (try simp only [List.map_toArray, List.map_cons, List.map_nil]); first | done | rfl | (simp only [List.length_drop, List.length_take]; rfl)) ?_
    with_reducible refine (slices_Equal_uint64_uint64.calls k _ _ t603 _ _ y588 true _ ?side1 ?side2 ?side3 ?side4 A15.out).mono ?_
    (case side1 => exact cr HO605.out)
    (case side2 => exact (Kd.R_reads' HO605.out).2.1)
    (case side3 => exact cr HO590.out)
    (case side4 => exact (Kd.R_reads' HO590.out).2.1)
    rintro e w' ⟨rfl, ⟨nd, rfl⟩⟩
    refine ⟨_, rfl, ?_⟩
    refine hK.out _ _ ⟨(blk_cell BK581.out 0).trans rfl, (blk_cell BK601.out 0).trans rfl⟩ (fun hHeld => ?_)
    clear hK K
    refine norm_ (a' := ?_) ?_ ?_
    rotate_left
    ·show Act.put _ (some 36) _ = _
     simp only [Act.put, List.setIfInBounds_toArray, List.set_cons_zero, List.set_cons_succ, i64_w, i32_w]
     rfl
    refine pure_ (i := 6) (N := some 37) (v := ?_) (a' := ?_) (fl 7 38 []) rfl rfl (any_of HT_.out (by kernel_rfl)) (fun _ _ _ h => h) (Or.inl ⟨by rfl, ?_⟩) ?_ ?_
    rotate_left
    ·intro w'
     go_simp
     with_reducible rfl
    rotate_left
    ·simp only [Act.put, List.setIfInBounds_toArray, List.set_cons_zero, List.set_cons_succ, i64_w, i32_w]
     rfl
    refine pure_ (i := 7) (N := some 38) (v := ?_) (a' := ?_) (fl 8 38 []) rfl rfl (any_of HT_.out (by kernel_rfl)) (fun _ _ _ h => h) (Or.inl ⟨by rfl, ?_⟩) ?_ ?_
    rotate_left
    ·intro w'
     go_simp
     with_reducible rfl
    rotate_left
    ·simp only [Act.put, List.setIfInBounds_toArray, List.set_cons_zero, List.set_cons_succ, i64_w, i32_w]
     rfl
    refine pure_ (i := 10) (N := some 41) (v := ?_) (a' := ?_) (fl 8 38 [10]) rfl rfl (any_of HT_.out (by kernel_rfl)) (fun _ _ _ h => h) (Or.inl ⟨by rfl, ?_⟩) ?_ ?_
    rotate_left
    ·intro w'
     go_simp
     with_reducible rfl
    rotate_left
    ·simp only [Act.put, List.setIfInBounds_toArray, List.set_cons_zero, List.set_cons_succ, i64_w, i32_w]
     rfl
    refine pure_ (i := 11) (N := some 42) (v := ?_) (a' := ?_) (fl 8 38 [10, 11]) rfl rfl (any_of HT_.out (by kernel_rfl)) (fun _ _ _ h => h) (Or.inl ⟨by rfl, ?_⟩) ?_ ?_
    rotate_left
    ·intro w'
     go_simp
     with_reducible rfl
    rotate_left
    ·simp only [Act.put, List.setIfInBounds_toArray, List.set_cons_zero, List.set_cons_succ, i64_w, i32_w]
     rfl
    refine pure_ (i := 12) (N := some 43) (v := ?_) (a' := ?_) (fl 8 38 [10, 11, 12]) rfl rfl (any_of HT_.out (by kernel_rfl)) (fun _ _ _ h => h) (Or.inl ⟨by rfl, ?_⟩) ?_ ?_
    rotate_left
    ·intro w'
     go_simp
     with_reducible rfl
    rotate_left
    ·simp only [Act.put, List.setIfInBounds_toArray, List.set_cons_zero, List.set_cons_succ, i64_w, i32_w]
     rfl
    refine take_ (i := 8) (N := some 39) (v := ?_) (a' := ?_) (fl 9 38 [10, 11, 12]) rfl rfl (take_ofW HT_.out HW_.out (by kernel_rfl)) (fun _ _ _ h => h) (Or.inl ⟨by rfl, ?_⟩) hHeld ?_ ?_
    rotate_left
    ·rintro w' ⟨s0, s1⟩
     go_simp
     with_reducible rfl
    rotate_left
    ·simp only [Act.put, List.setIfInBounds_toArray, List.set_cons_zero, List.set_cons_succ, i64_w, i32_w]
     rfl
    refine one_ (i := 9) (N := some 40) (fl 13 38 []) rfl rfl (one_of HT_.out (by kernel_rfl)) (by decide) (fun K hK => ?_)
    refine goes_ Try.func19 (by kernel_rfl) rfl #[.agg #[.slice Ao44 t578.length co44]] (by rfl) rfl rfl (by (try simp only [List.map_toArray, List.map_cons, List.map_nil]); first | done | rfl | (simp only [List.length_drop, List.length_take]; rfl)) ?_
    with_reducible refine (nat_Nat_Bits.calls k _ _ t578 t607 _ ?side1 ?side2 A17.out).mono ?_
    (case side1 => exact cv HO580.out)
    (case side2 => exact (Kd.V_reads' HO580.out).2.1)
    rintro e w69 ⟨rfl, hb⟩
    refine ⟨_, rfl, ?_⟩
    replace HO565 := Aside0.mk (rb HO565.out hb)
    replace HO568 := Aside0.mk (rb HO568.out hb)
    replace HO571 := Aside0.mk (vb HO571.out hb)
    replace HO574 := Aside0.mk (rb HO574.out hb)
    replace HO577 := Aside0.mk (vb HO577.out hb)
    replace HO580 := Aside0.mk (vb HO580.out hb)
    replace HO587 := Aside0.mk (rb HO587.out hb)
    replace HO590 := Aside0.mk (rb HO590.out hb)
    replace HO593 := Aside0.mk (rb HO593.out hb)
    replace HO596 := Aside0.mk (vb HO596.out hb)
    replace HO599 := Aside0.mk (vb HO599.out hb)
    replace HO605 := Aside0.mk (rb HO605.out hb)
    replace BK581 := Aside0.mk (bb BK581.out hb)
    replace BK601 := Aside0.mk (bb BK601.out hb)
    replace HB := Aside0.mk (bs HB.out hb)
    (try clear hb)
    (try clear hb2)
    (try clear hk)
    (try clear hi)
    refine hK.out _ _ ⟨(blk_cell BK581.out 0).trans rfl, (blk_cell BK601.out 0).trans rfl⟩ (fun hHeld => ?_)
    clear hK K
    refine norm_ (a' := ?_) ?_ ?_
    rotate_left
    ·show Act.put _ (some 40) _ = _
     simp only [Act.put, List.setIfInBounds_toArray, List.set_cons_zero, List.set_cons_succ, i64_w, i32_w]
     rfl
    refine pure_ (i := 13) (N := some 44) (v := ?_) (a' := ?_) (fl 14 38 []) rfl rfl (any_of HT_.out (by kernel_rfl)) (fun _ _ _ h => h) (Or.inl ⟨by rfl, ?_⟩) ?_ ?_
    rotate_left
    ·intro w'
     go_simp
     with_reducible rfl
    rotate_left
    ·simp only [Act.put, List.setIfInBounds_toArray, List.set_cons_zero, List.set_cons_succ, i64_w, i32_w]
     rfl
    refine pure_ (i := 14) (N := some 45) (v := ?_) (a' := ?_) (fl 15 38 []) rfl rfl (any_of HT_.out (by kernel_rfl)) (fun _ _ _ h => h) (Or.inl ⟨by rfl, ?_⟩) ?_ ?_
    rotate_left
    ·intro w'
     go_simp
     with_reducible rfl
    rotate_left
    ·simp only [Act.put, List.setIfInBounds_toArray, List.set_cons_zero, List.set_cons_succ, i64_w, i32_w]
     rfl
    refine pure_ (i := 15) (N := some 46) (v := ?_) (a' := ?_) (fl 16 38 []) rfl rfl (any_of HT_.out (by kernel_rfl)) (fun _ _ _ h => h) (Or.inl ⟨by rfl, ?_⟩) ?_ ?_
    rotate_left
    ·intro w'
     go_simp
     with_reducible rfl
    rotate_left
    ·simp only [Act.put, List.setIfInBounds_toArray, List.set_cons_zero, List.set_cons_succ, i64_w, i32_w]
     rfl
    refine pure_ (i := 19) (N := some 50) (v := ?_) (a' := ?_) (fl 16 38 [19]) rfl rfl (any_of HT_.out (by kernel_rfl)) (fun _ _ _ h => h) (Or.inl ⟨by rfl, ?_⟩) ?_ ?_
    rotate_left
    ·intro w'
     go_simp
     with_reducible rfl
    rotate_left
    ·simp only [Act.put, List.setIfInBounds_toArray, List.set_cons_zero, List.set_cons_succ, i64_w, i32_w]
     rfl
    refine pure_ (i := 20) (N := some 51) (v := ?_) (a' := ?_) (fl 16 38 [19, 20]) rfl rfl (any_of HT_.out (by kernel_rfl)) (fun _ _ _ h => h) (Or.inl ⟨by rfl, ?_⟩) ?_ ?_
    rotate_left
    ·intro w'
     go_simp
     with_reducible rfl
    rotate_left
    ·simp only [Act.put, List.setIfInBounds_toArray, List.set_cons_zero, List.set_cons_succ, i64_w, i32_w]
     rfl
    refine take_ (i := 16) (N := some 47) (v := ?_) (a' := ?_) (fl 17 38 [19, 20]) rfl rfl (take_ofW HT_.out HW_.out (by kernel_rfl)) (fun _ _ _ h => h) (Or.inl ⟨by rfl, ?_⟩) hHeld ?_ ?_
    rotate_left
    ·rintro w' ⟨s0, s1⟩
     go_simp
     with_reducible rfl
    rotate_left
    ·simp only [Act.put, List.setIfInBounds_toArray, List.set_cons_zero, List.set_cons_succ, i64_w, i32_w]
     rfl
    refine take_ (i := 17) (N := some 48) (v := ?_) (a' := ?_) (fl 18 38 [19, 20]) rfl rfl (take_ofW HT_.out HW_.out (by kernel_rfl)) (fun _ _ _ h => h) (Or.inl ⟨by rfl, ?_⟩) hHeld ?_ ?_
    rotate_left
    ·rintro w' ⟨s0, s1⟩
     go_simp
     with_reducible rfl
    rotate_left
    ·simp only [Act.put, List.setIfInBounds_toArray, List.set_cons_zero, List.set_cons_succ, i64_w, i32_w]
     rfl
    refine join_ (σ := Value × Value × Value) 15 (fl 23 38 []) (fun s_ => [(49, .agg #[s_.1]), (52, s_.2.1), (53, s_.2.2)]) (fun s_ w' => (w'.cell? ⟨gb581, 0, none⟩ = some (.slice Ao44 t578.length co44) ∧ w'.cell? ⟨gb601, 0, none⟩ = some (.slice Ao61 t597.length co61)) ∧ (Kd.R (Kd.int .u64) 27 w' w.heap.size (fun k_ => OB Ao34 t566 co34 k_ ∧ OB Ao38 y572 co38 k_ ∧ OB Ao51 y585 co51 k_ ∧ OB Ao63 y588 co63 k_ ∧ some k_ ≠ (v592 : Value).ownBlock ∧ OB Ao68 t603 co68 k_ ∧ some k_ ≠ (s_.2.1 : Value).ownBlock ∧ some k_ ≠ (s_.2.2 : Value).ownBlock) (.slice Ao32 y563.length co32) y563) ∧ (Kd.R (Kd.int .u64) 27 w' w.heap.size (fun k_ => OB Ao32 y563 co32 k_ ∧ OB Ao38 y572 co38 k_ ∧ OB Ao51 y585 co51 k_ ∧ OB Ao63 y588 co63 k_ ∧ some k_ ≠ (v592 : Value).ownBlock ∧ OB Ao68 t603 co68 k_ ∧ some k_ ≠ (s_.2.1 : Value).ownBlock ∧ some k_ ≠ (s_.2.2 : Value).ownBlock) (.slice Ao34 t566.length co34) t566) ∧ (Kd.V (Kd.int .u64) 27 w' w.heap.size (fun k_ => OB Ao32 y563 co32 k_ ∧ OB Ao34 t566 co34 k_ ∧ OB Ao38 y572 co38 k_ ∧ OB Ao51 y585 co51 k_ ∧ OB Ao63 y588 co63 k_ ∧ some k_ ≠ (v592 : Value).ownBlock ∧ OB Ao68 t603 co68 k_ ∧ some k_ ≠ (s_.2.1 : Value).ownBlock ∧ some k_ ≠ (s_.2.2 : Value).ownBlock ∧ k_ ≠ gb581 ∧ k_ ≠ gb601) (.slice Ao40 t569.length co40) t569) ∧ (Kd.R (Kd.int .u64) 27 w' w.heap.size (fun k_ => OB Ao32 y563 co32 k_ ∧ OB Ao34 t566 co34 k_ ∧ OB Ao51 y585 co51 k_ ∧ OB Ao63 y588 co63 k_ ∧ some k_ ≠ (v592 : Value).ownBlock ∧ OB Ao68 t603 co68 k_ ∧ some k_ ≠ (s_.2.1 : Value).ownBlock ∧ some k_ ≠ (s_.2.2 : Value).ownBlock) (.slice Ao38 y572.length co38) y572) ∧ (Kd.V (Kd.int .u64) 27 w' w.heap.size (fun k_ => OB Ao32 y563 co32 k_ ∧ OB Ao34 t566 co34 k_ ∧ OB Ao38 y572 co38 k_ ∧ OB Ao51 y585 co51 k_ ∧ OB Ao63 y588 co63 k_ ∧ some k_ ≠ (v592 : Value).ownBlock ∧ OB Ao68 t603 co68 k_ ∧ some k_ ≠ (s_.2.1 : Value).ownBlock ∧ some k_ ≠ (s_.2.2 : Value).ownBlock ∧ k_ ≠ gb581 ∧ k_ ≠ gb601) (.slice Ao41 t575.length co41) t575) ∧ (Kd.V (Kd.int .u64) 27 w' w.heap.size (fun k_ => OB Ao32 y563 co32 k_ ∧ OB Ao34 t566 co34 k_ ∧ OB Ao38 y572 co38 k_ ∧ OB Ao51 y585 co51 k_ ∧ OB Ao63 y588 co63 k_ ∧ some k_ ≠ (v592 : Value).ownBlock ∧ OB Ao68 t603 co68 k_ ∧ some k_ ≠ (s_.2.1 : Value).ownBlock ∧ some k_ ≠ (s_.2.2 : Value).ownBlock ∧ k_ ≠ gb581 ∧ k_ ≠ gb601) (.slice Ao44 t578.length co44) t578) ∧ (Kd.R (Kd.int .u64) 27 w' w.heap.size (fun k_ => OB Ao32 y563 co32 k_ ∧ OB Ao34 t566 co34 k_ ∧ OB Ao38 y572 co38 k_ ∧ OB Ao63 y588 co63 k_ ∧ some k_ ≠ (v592 : Value).ownBlock ∧ OB Ao68 t603 co68 k_ ∧ some k_ ≠ (s_.2.1 : Value).ownBlock ∧ some k_ ≠ (s_.2.2 : Value).ownBlock) (.slice Ao51 y585.length co51) y585) ∧ (Kd.R (Kd.int .u64) 27 w' w.heap.size (fun k_ => OB Ao32 y563 co32 k_ ∧ OB Ao34 t566 co34 k_ ∧ OB Ao38 y572 co38 k_ ∧ OB Ao51 y585 co51 k_ ∧ some k_ ≠ (v592 : Value).ownBlock ∧ OB Ao68 t603 co68 k_ ∧ some k_ ≠ (s_.2.1 : Value).ownBlock ∧ some k_ ≠ (s_.2.2 : Value).ownBlock) (.slice Ao63 y588.length co63) y588) ∧ (Kd.R (Kd.int .u64) 27 w' w.heap.size (fun k_ => OB Ao32 y563 co32 k_ ∧ OB Ao34 t566 co34 k_ ∧ OB Ao38 y572 co38 k_ ∧ OB Ao51 y585 co51 k_ ∧ OB Ao63 y588 co63 k_ ∧ OB Ao68 t603 co68 k_ ∧ some k_ ≠ (s_.2.1 : Value).ownBlock ∧ some k_ ≠ (s_.2.2 : Value).ownBlock) v592 y591) ∧ (Kd.V (Kd.int .u64) 27 w' w.heap.size (fun k_ => OB Ao32 y563 co32 k_ ∧ OB Ao34 t566 co34 k_ ∧ OB Ao38 y572 co38 k_ ∧ OB Ao51 y585 co51 k_ ∧ OB Ao63 y588 co63 k_ ∧ some k_ ≠ (v592 : Value).ownBlock ∧ OB Ao68 t603 co68 k_ ∧ some k_ ≠ (s_.2.1 : Value).ownBlock ∧ some k_ ≠ (s_.2.2 : Value).ownBlock ∧ k_ ≠ gb581 ∧ k_ ≠ gb601) v595 t594) ∧ (Kd.V (Kd.int .u64) 27 w' w.heap.size (fun k_ => OB Ao32 y563 co32 k_ ∧ OB Ao34 t566 co34 k_ ∧ OB Ao38 y572 co38 k_ ∧ OB Ao51 y585 co51 k_ ∧ OB Ao63 y588 co63 k_ ∧ some k_ ≠ (v592 : Value).ownBlock ∧ OB Ao68 t603 co68 k_ ∧ some k_ ≠ (s_.2.1 : Value).ownBlock ∧ some k_ ≠ (s_.2.2 : Value).ownBlock ∧ k_ ≠ gb581 ∧ k_ ≠ gb601) (.slice Ao61 t597.length co61) t597) ∧ (Kd.R (Kd.int .u64) 27 w' w.heap.size (fun k_ => OB Ao32 y563 co32 k_ ∧ OB Ao34 t566 co34 k_ ∧ OB Ao38 y572 co38 k_ ∧ OB Ao51 y585 co51 k_ ∧ OB Ao63 y588 co63 k_ ∧ some k_ ≠ (v592 : Value).ownBlock ∧ some k_ ≠ (s_.2.1 : Value).ownBlock ∧ some k_ ≠ (s_.2.2 : Value).ownBlock) (.slice Ao68 t603.length co68) t603) ∧ (Kd.V (Kd.int .u64) 27 w' w.heap.size (fun k_ => OB Ao32 y563 co32 k_ ∧ OB Ao34 t566 co34 k_ ∧ OB Ao38 y572 co38 k_ ∧ OB Ao51 y585 co51 k_ ∧ OB Ao63 y588 co63 k_ ∧ some k_ ≠ (v592 : Value).ownBlock ∧ OB Ao68 t603 co68 k_ ∧ some k_ ≠ (s_.2.1 : Value).ownBlock ∧ some k_ ≠ (s_.2.2 : Value).ownBlock ∧ k_ ≠ gb581 ∧ k_ ≠ gb601) s_.1 t608) ∧ (Kd.R (Kd.int .u64) 27 w' w.heap.size (fun k_ => OB Ao32 y563 co32 k_ ∧ OB Ao34 t566 co34 k_ ∧ OB Ao38 y572 co38 k_ ∧ OB Ao51 y585 co51 k_ ∧ OB Ao63 y588 co63 k_ ∧ some k_ ≠ (v592 : Value).ownBlock ∧ OB Ao68 t603 co68 k_ ∧ some k_ ≠ (s_.2.2 : Value).ownBlock) s_.2.1 y611) ∧ (Kd.R (Kd.int .u64) 27 w' w.heap.size (fun k_ => OB Ao32 y563 co32 k_ ∧ OB Ao34 t566 co34 k_ ∧ OB Ao38 y572 co38 k_ ∧ OB Ao51 y585 co51 k_ ∧ OB Ao63 y588 co63 k_ ∧ some k_ ≠ (v592 : Value).ownBlock ∧ OB Ao68 t603 co68 k_ ∧ some k_ ≠ (s_.2.1 : Value).ownBlock) s_.2.2 y614) ∧ (w'.heap[gb581]? = some (.cells #[.slice Ao44 t578.length co44] 25 (0, 0))) ∧ (w'.heap[gb601]? = some (.cells #[.slice Ao61 t597.length co61] 25 (0, 0))) ∧ (Below w.heap.size w w')) ?_ ?_
    rotate_left
    ·intro hJ18_21_22
     refine join_ (σ := Value × Value) 16 (fl 22 38 []) (fun s_ => [(49, .agg #[s_.1]), (52, s_.2)]) (fun s_ w' => (w'.cell? ⟨gb581, 0, none⟩ = some (.slice Ao44 t578.length co44) ∧ w'.cell? ⟨gb601, 0, none⟩ = some (.slice Ao61 t597.length co61)) ∧ (Kd.R (Kd.int .u64) 27 w' w.heap.size (fun k_ => OB Ao34 t566 co34 k_ ∧ OB Ao38 y572 co38 k_ ∧ OB Ao51 y585 co51 k_ ∧ OB Ao63 y588 co63 k_ ∧ some k_ ≠ (v592 : Value).ownBlock ∧ OB Ao68 t603 co68 k_ ∧ some k_ ≠ (s_.2 : Value).ownBlock) (.slice Ao32 y563.length co32) y563) ∧ (Kd.R (Kd.int .u64) 27 w' w.heap.size (fun k_ => OB Ao32 y563 co32 k_ ∧ OB Ao38 y572 co38 k_ ∧ OB Ao51 y585 co51 k_ ∧ OB Ao63 y588 co63 k_ ∧ some k_ ≠ (v592 : Value).ownBlock ∧ OB Ao68 t603 co68 k_ ∧ some k_ ≠ (s_.2 : Value).ownBlock) (.slice Ao34 t566.length co34) t566) ∧ (Kd.V (Kd.int .u64) 27 w' w.heap.size (fun k_ => OB Ao32 y563 co32 k_ ∧ OB Ao34 t566 co34 k_ ∧ OB Ao38 y572 co38 k_ ∧ OB Ao51 y585 co51 k_ ∧ OB Ao63 y588 co63 k_ ∧ some k_ ≠ (v592 : Value).ownBlock ∧ OB Ao68 t603 co68 k_ ∧ some k_ ≠ (s_.2 : Value).ownBlock ∧ k_ ≠ gb581 ∧ k_ ≠ gb601) (.slice Ao40 t569.length co40) t569) ∧ (Kd.R (Kd.int .u64) 27 w' w.heap.size (fun k_ => OB Ao32 y563 co32 k_ ∧ OB Ao34 t566 co34 k_ ∧ OB Ao51 y585 co51 k_ ∧ OB Ao63 y588 co63 k_ ∧ some k_ ≠ (v592 : Value).ownBlock ∧ OB Ao68 t603 co68 k_ ∧ some k_ ≠ (s_.2 : Value).ownBlock) (.slice Ao38 y572.length co38) y572) ∧ (Kd.V (Kd.int .u64) 27 w' w.heap.size (fun k_ => OB Ao32 y563 co32 k_ ∧ OB Ao34 t566 co34 k_ ∧ OB Ao38 y572 co38 k_ ∧ OB Ao51 y585 co51 k_ ∧ OB Ao63 y588 co63 k_ ∧ some k_ ≠ (v592 : Value).ownBlock ∧ OB Ao68 t603 co68 k_ ∧ some k_ ≠ (s_.2 : Value).ownBlock ∧ k_ ≠ gb581 ∧ k_ ≠ gb601) (.slice Ao41 t575.length co41) t575) ∧ (Kd.V (Kd.int .u64) 27 w' w.heap.size (fun k_ => OB Ao32 y563 co32 k_ ∧ OB Ao34 t566 co34 k_ ∧ OB Ao38 y572 co38 k_ ∧ OB Ao51 y585 co51 k_ ∧ OB Ao63 y588 co63 k_ ∧ some k_ ≠ (v592 : Value).ownBlock ∧ OB Ao68 t603 co68 k_ ∧ some k_ ≠ (s_.2 : Value).ownBlock ∧ k_ ≠ gb581 ∧ k_ ≠ gb601) (.slice Ao44 t578.length co44) t578) ∧ (Kd.R (Kd.int .u64) 27 w' w.heap.size (fun k_ => OB Ao32 y563 co32 k_ ∧ OB Ao34 t566 co34 k_ ∧ OB Ao38 y572 co38 k_ ∧ OB Ao63 y588 co63 k_ ∧ some k_ ≠ (v592 : Value).ownBlock ∧ OB Ao68 t603 co68 k_ ∧ some k_ ≠ (s_.2 : Value).ownBlock) (.slice Ao51 y585.length co51) y585) ∧ (Kd.R (Kd.int .u64) 27 w' w.heap.size (fun k_ => OB Ao32 y563 co32 k_ ∧ OB Ao34 t566 co34 k_ ∧ OB Ao38 y572 co38 k_ ∧ OB Ao51 y585 co51 k_ ∧ some k_ ≠ (v592 : Value).ownBlock ∧ OB Ao68 t603 co68 k_ ∧ some k_ ≠ (s_.2 : Value).ownBlock) (.slice Ao63 y588.length co63) y588) ∧ (Kd.R (Kd.int .u64) 27 w' w.heap.size (fun k_ => OB Ao32 y563 co32 k_ ∧ OB Ao34 t566 co34 k_ ∧ OB Ao38 y572 co38 k_ ∧ OB Ao51 y585 co51 k_ ∧ OB Ao63 y588 co63 k_ ∧ OB Ao68 t603 co68 k_ ∧ some k_ ≠ (s_.2 : Value).ownBlock) v592 y591) ∧ (Kd.V (Kd.int .u64) 27 w' w.heap.size (fun k_ => OB Ao32 y563 co32 k_ ∧ OB Ao34 t566 co34 k_ ∧ OB Ao38 y572 co38 k_ ∧ OB Ao51 y585 co51 k_ ∧ OB Ao63 y588 co63 k_ ∧ some k_ ≠ (v592 : Value).ownBlock ∧ OB Ao68 t603 co68 k_ ∧ some k_ ≠ (s_.2 : Value).ownBlock ∧ k_ ≠ gb581 ∧ k_ ≠ gb601) v595 t594) ∧ (Kd.V (Kd.int .u64) 27 w' w.heap.size (fun k_ => OB Ao32 y563 co32 k_ ∧ OB Ao34 t566 co34 k_ ∧ OB Ao38 y572 co38 k_ ∧ OB Ao51 y585 co51 k_ ∧ OB Ao63 y588 co63 k_ ∧ some k_ ≠ (v592 : Value).ownBlock ∧ OB Ao68 t603 co68 k_ ∧ some k_ ≠ (s_.2 : Value).ownBlock ∧ k_ ≠ gb581 ∧ k_ ≠ gb601) (.slice Ao61 t597.length co61) t597) ∧ (Kd.R (Kd.int .u64) 27 w' w.heap.size (fun k_ => OB Ao32 y563 co32 k_ ∧ OB Ao34 t566 co34 k_ ∧ OB Ao38 y572 co38 k_ ∧ OB Ao51 y585 co51 k_ ∧ OB Ao63 y588 co63 k_ ∧ some k_ ≠ (v592 : Value).ownBlock ∧ some k_ ≠ (s_.2 : Value).ownBlock) (.slice Ao68 t603.length co68) t603) ∧ (Kd.V (Kd.int .u64) 27 w' w.heap.size (fun k_ => OB Ao32 y563 co32 k_ ∧ OB Ao34 t566 co34 k_ ∧ OB Ao38 y572 co38 k_ ∧ OB Ao51 y585 co51 k_ ∧ OB Ao63 y588 co63 k_ ∧ some k_ ≠ (v592 : Value).ownBlock ∧ OB Ao68 t603 co68 k_ ∧ some k_ ≠ (s_.2 : Value).ownBlock ∧ k_ ≠ gb581 ∧ k_ ≠ gb601) s_.1 t608) ∧ (Kd.R (Kd.int .u64) 27 w' w.heap.size (fun k_ => OB Ao32 y563 co32 k_ ∧ OB Ao34 t566 co34 k_ ∧ OB Ao38 y572 co38 k_ ∧ OB Ao51 y585 co51 k_ ∧ OB Ao63 y588 co63 k_ ∧ some k_ ≠ (v592 : Value).ownBlock ∧ OB Ao68 t603 co68 k_) s_.2 y611) ∧ (w'.heap[gb581]? = some (.cells #[.slice Ao44 t578.length co44] 25 (0, 0))) ∧ (w'.heap[gb601]? = some (.cells #[.slice Ao61 t597.length co61] 25 (0, 0))) ∧ (Below w.heap.size w w')) ?_ ?_
     rotate_left
     ·intro hJ18_21
      refine join_ (σ := Value × Value) 16 (fl 21 38 [22]) (fun s_ => [(49, .agg #[s_.1]), (53, s_.2)]) (fun s_ w' => (w'.cell? ⟨gb581, 0, none⟩ = some (.slice Ao44 t578.length co44) ∧ w'.cell? ⟨gb601, 0, none⟩ = some (.slice Ao61 t597.length co61)) ∧ (Kd.R (Kd.int .u64) 27 w' w.heap.size (fun k_ => OB Ao34 t566 co34 k_ ∧ OB Ao38 y572 co38 k_ ∧ OB Ao51 y585 co51 k_ ∧ OB Ao63 y588 co63 k_ ∧ some k_ ≠ (v592 : Value).ownBlock ∧ OB Ao68 t603 co68 k_ ∧ some k_ ≠ (s_.2 : Value).ownBlock) (.slice Ao32 y563.length co32) y563) ∧ (Kd.R (Kd.int .u64) 27 w' w.heap.size (fun k_ => OB Ao32 y563 co32 k_ ∧ OB Ao38 y572 co38 k_ ∧ OB Ao51 y585 co51 k_ ∧ OB Ao63 y588 co63 k_ ∧ some k_ ≠ (v592 : Value).ownBlock ∧ OB Ao68 t603 co68 k_ ∧ some k_ ≠ (s_.2 : Value).ownBlock) (.slice Ao34 t566.length co34) t566) ∧ (Kd.V (Kd.int .u64) 27 w' w.heap.size (fun k_ => OB Ao32 y563 co32 k_ ∧ OB Ao34 t566 co34 k_ ∧ OB Ao38 y572 co38 k_ ∧ OB Ao51 y585 co51 k_ ∧ OB Ao63 y588 co63 k_ ∧ some k_ ≠ (v592 : Value).ownBlock ∧ OB Ao68 t603 co68 k_ ∧ some k_ ≠ (s_.2 : Value).ownBlock ∧ k_ ≠ gb581 ∧ k_ ≠ gb601) (.slice Ao40 t569.length co40) t569) ∧ (Kd.R (Kd.int .u64) 27 w' w.heap.size (fun k_ => OB Ao32 y563 co32 k_ ∧ OB Ao34 t566 co34 k_ ∧ OB Ao51 y585 co51 k_ ∧ OB Ao63 y588 co63 k_ ∧ some k_ ≠ (v592 : Value).ownBlock ∧ OB Ao68 t603 co68 k_ ∧ some k_ ≠ (s_.2 : Value).ownBlock) (.slice Ao38 y572.length co38) y572) ∧ (Kd.V (Kd.int .u64) 27 w' w.heap.size (fun k_ => OB Ao32 y563 co32 k_ ∧ OB Ao34 t566 co34 k_ ∧ OB Ao38 y572 co38 k_ ∧ OB Ao51 y585 co51 k_ ∧ OB Ao63 y588 co63 k_ ∧ some k_ ≠ (v592 : Value).ownBlock ∧ OB Ao68 t603 co68 k_ ∧ some k_ ≠ (s_.2 : Value).ownBlock ∧ k_ ≠ gb581 ∧ k_ ≠ gb601) (.slice Ao41 t575.length co41) t575) ∧ (Kd.V (Kd.int .u64) 27 w' w.heap.size (fun k_ => OB Ao32 y563 co32 k_ ∧ OB Ao34 t566 co34 k_ ∧ OB Ao38 y572 co38 k_ ∧ OB Ao51 y585 co51 k_ ∧ OB Ao63 y588 co63 k_ ∧ some k_ ≠ (v592 : Value).ownBlock ∧ OB Ao68 t603 co68 k_ ∧ some k_ ≠ (s_.2 : Value).ownBlock ∧ k_ ≠ gb581 ∧ k_ ≠ gb601) (.slice Ao44 t578.length co44) t578) ∧ (Kd.R (Kd.int .u64) 27 w' w.heap.size (fun k_ => OB Ao32 y563 co32 k_ ∧ OB Ao34 t566 co34 k_ ∧ OB Ao38 y572 co38 k_ ∧ OB Ao63 y588 co63 k_ ∧ some k_ ≠ (v592 : Value).ownBlock ∧ OB Ao68 t603 co68 k_ ∧ some k_ ≠ (s_.2 : Value).ownBlock) (.slice Ao51 y585.length co51) y585) ∧ (Kd.R (Kd.int .u64) 27 w' w.heap.size (fun k_ => OB Ao32 y563 co32 k_ ∧ OB Ao34 t566 co34 k_ ∧ OB Ao38 y572 co38 k_ ∧ OB Ao51 y585 co51 k_ ∧ some k_ ≠ (v592 : Value).ownBlock ∧ OB Ao68 t603 co68 k_ ∧ some k_ ≠ (s_.2 : Value).ownBlock) (.slice Ao63 y588.length co63) y588) ∧ (Kd.R (Kd.int .u64) 27 w' w.heap.size (fun k_ => OB Ao32 y563 co32 k_ ∧ OB Ao34 t566 co34 k_ ∧ OB Ao38 y572 co38 k_ ∧ OB Ao51 y585 co51 k_ ∧ OB Ao63 y588 co63 k_ ∧ OB Ao68 t603 co68 k_ ∧ some k_ ≠ (s_.2 : Value).ownBlock) v592 y591) ∧ (Kd.V (Kd.int .u64) 27 w' w.heap.size (fun k_ => OB Ao32 y563 co32 k_ ∧ OB Ao34 t566 co34 k_ ∧ OB Ao38 y572 co38 k_ ∧ OB Ao51 y585 co51 k_ ∧ OB Ao63 y588 co63 k_ ∧ some k_ ≠ (v592 : Value).ownBlock ∧ OB Ao68 t603 co68 k_ ∧ some k_ ≠ (s_.2 : Value).ownBlock ∧ k_ ≠ gb581 ∧ k_ ≠ gb601) v595 t594) ∧ (Kd.V (Kd.int .u64) 27 w' w.heap.size (fun k_ => OB Ao32 y563 co32 k_ ∧ OB Ao34 t566 co34 k_ ∧ OB Ao38 y572 co38 k_ ∧ OB Ao51 y585 co51 k_ ∧ OB Ao63 y588 co63 k_ ∧ some k_ ≠ (v592 : Value).ownBlock ∧ OB Ao68 t603 co68 k_ ∧ some k_ ≠ (s_.2 : Value).ownBlock ∧ k_ ≠ gb581 ∧ k_ ≠ gb601) (.slice Ao61 t597.length co61) t597) ∧ (Kd.R (Kd.int .u64) 27 w' w.heap.size (fun k_ => OB Ao32 y563 co32 k_ ∧ OB Ao34 t566 co34 k_ ∧ OB Ao38 y572 co38 k_ ∧ OB Ao51 y585 co51 k_ ∧ OB Ao63 y588 co63 k_ ∧ some k_ ≠ (v592 : Value).ownBlock ∧ some k_ ≠ (s_.2 : Value).ownBlock) (.slice Ao68 t603.length co68) t603) ∧ (Kd.V (Kd.int .u64) 27 w' w.heap.size (fun k_ => OB Ao32 y563 co32 k_ ∧ OB Ao34 t566 co34 k_ ∧ OB Ao38 y572 co38 k_ ∧ OB Ao51 y585 co51 k_ ∧ OB Ao63 y588 co63 k_ ∧ some k_ ≠ (v592 : Value).ownBlock ∧ OB Ao68 t603 co68 k_ ∧ some k_ ≠ (s_.2 : Value).ownBlock ∧ k_ ≠ gb581 ∧ k_ ≠ gb601) s_.1 t608) ∧ (Kd.R (Kd.int .u64) 27 w' w.heap.size (fun k_ => OB Ao32 y563 co32 k_ ∧ OB Ao34 t566 co34 k_ ∧ OB Ao38 y572 co38 k_ ∧ OB Ao51 y585 co51 k_ ∧ OB Ao63 y588 co63 k_ ∧ some k_ ≠ (v592 : Value).ownBlock ∧ OB Ao68 t603 co68 k_) s_.2 y614) ∧ (w'.heap[gb581]? = some (.cells #[.slice Ao44 t578.length co44] 25 (0, 0))) ∧ (w'.heap[gb601]? = some (.cells #[.slice Ao61 t597.length co61] 25 (0, 0))) ∧ (Below w.heap.size w w')) ?_ ?_
      rotate_left
      ·intro hJ18_22
       refine join_ (σ := Value × Value) 16 (fl 18 38 [19, 20, 21, 22]) (fun s_ => [(52, s_.1), (53, s_.2)]) (fun s_ w' => (w'.cell? ⟨gb581, 0, none⟩ = some (.slice Ao44 t578.length co44) ∧ w'.cell? ⟨gb601, 0, none⟩ = some (.slice Ao61 t597.length co61)) ∧ (Kd.R (Kd.int .u64) 27 w' w.heap.size (fun k_ => OB Ao34 t566 co34 k_ ∧ OB Ao38 y572 co38 k_ ∧ OB Ao51 y585 co51 k_ ∧ OB Ao63 y588 co63 k_ ∧ some k_ ≠ (v592 : Value).ownBlock ∧ OB Ao68 t603 co68 k_ ∧ some k_ ≠ (s_.1 : Value).ownBlock ∧ some k_ ≠ (s_.2 : Value).ownBlock) (.slice Ao32 y563.length co32) y563) ∧ (Kd.R (Kd.int .u64) 27 w' w.heap.size (fun k_ => OB Ao32 y563 co32 k_ ∧ OB Ao38 y572 co38 k_ ∧ OB Ao51 y585 co51 k_ ∧ OB Ao63 y588 co63 k_ ∧ some k_ ≠ (v592 : Value).ownBlock ∧ OB Ao68 t603 co68 k_ ∧ some k_ ≠ (s_.1 : Value).ownBlock ∧ some k_ ≠ (s_.2 : Value).ownBlock) (.slice Ao34 t566.length co34) t566) ∧ (Kd.V (Kd.int .u64) 27 w' w.heap.size (fun k_ => OB Ao32 y563 co32 k_ ∧ OB Ao34 t566 co34 k_ ∧ OB Ao38 y572 co38 k_ ∧ OB Ao51 y585 co51 k_ ∧ OB Ao63 y588 co63 k_ ∧ some k_ ≠ (v592 : Value).ownBlock ∧ OB Ao68 t603 co68 k_ ∧ some k_ ≠ (s_.1 : Value).ownBlock ∧ some k_ ≠ (s_.2 : Value).ownBlock ∧ k_ ≠ gb581 ∧ k_ ≠ gb601) (.slice Ao40 t569.length co40) t569) ∧ (Kd.R (Kd.int .u64) 27 w' w.heap.size (fun k_ => OB Ao32 y563 co32 k_ ∧ OB Ao34 t566 co34 k_ ∧ OB Ao51 y585 co51 k_ ∧ OB Ao63 y588 co63 k_ ∧ some k_ ≠ (v592 : Value).ownBlock ∧ OB Ao68 t603 co68 k_ ∧ some k_ ≠ (s_.1 : Value).ownBlock ∧ some k_ ≠ (s_.2 : Value).ownBlock) (.slice Ao38 y572.length co38) y572) ∧ (Kd.V (Kd.int .u64) 27 w' w.heap.size (fun k_ => OB Ao32 y563 co32 k_ ∧ OB Ao34 t566 co34 k_ ∧ OB Ao38 y572 co38 k_ ∧ OB Ao51 y585 co51 k_ ∧ OB Ao63 y588 co63 k_ ∧ some k_ ≠ (v592 : Value).ownBlock ∧ OB Ao68 t603 co68 k_ ∧ some k_ ≠ (s_.1 : Value).ownBlock ∧ some k_ ≠ (s_.2 : Value).ownBlock ∧ k_ ≠ gb581 ∧ k_ ≠ gb601) (.slice Ao41 t575.length co41) t575) ∧ (Kd.V (Kd.int .u64) 27 w' w.heap.size (fun k_ => OB Ao32 y563 co32 k_ ∧ OB Ao34 t566 co34 k_ ∧ OB Ao38 y572 co38 k_ ∧ OB Ao51 y585 co51 k_ ∧ OB Ao63 y588 co63 k_ ∧ some k_ ≠ (v592 : Value).ownBlock ∧ OB Ao68 t603 co68 k_ ∧ some k_ ≠ (s_.1 : Value).ownBlock ∧ some k_ ≠ (s_.2 : Value).ownBlock ∧ k_ ≠ gb581 ∧ k_ ≠ gb601) (.slice Ao44 t578.length co44) t578) ∧ (Kd.R (Kd.int .u64) 27 w' w.heap.size (fun k_ => OB Ao32 y563 co32 k_ ∧ OB Ao34 t566 co34 k_ ∧ OB Ao38 y572 co38 k_ ∧ OB Ao63 y588 co63 k_ ∧ some k_ ≠ (v592 : Value).ownBlock ∧ OB Ao68 t603 co68 k_ ∧ some k_ ≠ (s_.1 : Value).ownBlock ∧ some k_ ≠ (s_.2 : Value).ownBlock) (.slice Ao51 y585.length co51) y585) ∧ (Kd.R (Kd.int .u64) 27 w' w.heap.size (fun k_ => OB Ao32 y563 co32 k_ ∧ OB Ao34 t566 co34 k_ ∧ OB Ao38 y572 co38 k_ ∧ OB Ao51 y585 co51 k_ ∧ some k_ ≠ (v592 : Value).ownBlock ∧ OB Ao68 t603 co68 k_ ∧ some k_ ≠ (s_.1 : Value).ownBlock ∧ some k_ ≠ (s_.2 : Value).ownBlock) (.slice Ao63 y588.length co63) y588) ∧ (Kd.R (Kd.int .u64) 27 w' w.heap.size (fun k_ => OB Ao32 y563 co32 k_ ∧ OB Ao34 t566 co34 k_ ∧ OB Ao38 y572 co38 k_ ∧ OB Ao51 y585 co51 k_ ∧ OB Ao63 y588 co63 k_ ∧ OB Ao68 t603 co68 k_ ∧ some k_ ≠ (s_.1 : Value).ownBlock ∧ some k_ ≠ (s_.2 : Value).ownBlock) v592 y591) ∧ (Kd.V (Kd.int .u64) 27 w' w.heap.size (fun k_ => OB Ao32 y563 co32 k_ ∧ OB Ao34 t566 co34 k_ ∧ OB Ao38 y572 co38 k_ ∧ OB Ao51 y585 co51 k_ ∧ OB Ao63 y588 co63 k_ ∧ some k_ ≠ (v592 : Value).ownBlock ∧ OB Ao68 t603 co68 k_ ∧ some k_ ≠ (s_.1 : Value).ownBlock ∧ some k_ ≠ (s_.2 : Value).ownBlock ∧ k_ ≠ gb581 ∧ k_ ≠ gb601) v595 t594) ∧ (Kd.V (Kd.int .u64) 27 w' w.heap.size (fun k_ => OB Ao32 y563 co32 k_ ∧ OB Ao34 t566 co34 k_ ∧ OB Ao38 y572 co38 k_ ∧ OB Ao51 y585 co51 k_ ∧ OB Ao63 y588 co63 k_ ∧ some k_ ≠ (v592 : Value).ownBlock ∧ OB Ao68 t603 co68 k_ ∧ some k_ ≠ (s_.1 : Value).ownBlock ∧ some k_ ≠ (s_.2 : Value).ownBlock ∧ k_ ≠ gb581 ∧ k_ ≠ gb601) (.slice Ao61 t597.length co61) t597) ∧ (Kd.R (Kd.int .u64) 27 w' w.heap.size (fun k_ => OB Ao32 y563 co32 k_ ∧ OB Ao34 t566 co34 k_ ∧ OB Ao38 y572 co38 k_ ∧ OB Ao51 y585 co51 k_ ∧ OB Ao63 y588 co63 k_ ∧ some k_ ≠ (v592 : Value).ownBlock ∧ some k_ ≠ (s_.1 : Value).ownBlock ∧ some k_ ≠ (s_.2 : Value).ownBlock) (.slice Ao68 t603.length co68) t603) ∧ (Kd.R (Kd.int .u64) 27 w' w.heap.size (fun k_ => OB Ao32 y563 co32 k_ ∧ OB Ao34 t566 co34 k_ ∧ OB Ao38 y572 co38 k_ ∧ OB Ao51 y585 co51 k_ ∧ OB Ao63 y588 co63 k_ ∧ some k_ ≠ (v592 : Value).ownBlock ∧ OB Ao68 t603 co68 k_ ∧ some k_ ≠ (s_.2 : Value).ownBlock) s_.1 y611) ∧ (Kd.R (Kd.int .u64) 27 w' w.heap.size (fun k_ => OB Ao32 y563 co32 k_ ∧ OB Ao34 t566 co34 k_ ∧ OB Ao38 y572 co38 k_ ∧ OB Ao51 y585 co51 k_ ∧ OB Ao63 y588 co63 k_ ∧ some k_ ≠ (v592 : Value).ownBlock ∧ OB Ao68 t603 co68 k_ ∧ some k_ ≠ (s_.1 : Value).ownBlock) s_.2 y614) ∧ (w'.heap[gb581]? = some (.cells #[.slice Ao44 t578.length co44] 25 (0, 0))) ∧ (w'.heap[gb601]? = some (.cells #[.slice Ao61 t597.length co61] 25 (0, 0))) ∧ (Below w.heap.size w w')) ?_ ?_
       rotate_left
       ·intro hJ21_22
        refine join_ (σ := Value) 17 (fl 21 38 []) (fun s_ => [(49, .agg #[s_])]) (fun s_ w' => (w'.cell? ⟨gb581, 0, none⟩ = some (.slice Ao44 t578.length co44) ∧ w'.cell? ⟨gb601, 0, none⟩ = some (.slice Ao61 t597.length co61)) ∧ (Kd.R (Kd.int .u64) 27 w' w.heap.size (fun k_ => OB Ao34 t566 co34 k_ ∧ OB Ao38 y572 co38 k_ ∧ OB Ao51 y585 co51 k_ ∧ OB Ao63 y588 co63 k_ ∧ some k_ ≠ (v592 : Value).ownBlock ∧ OB Ao68 t603 co68 k_) (.slice Ao32 y563.length co32) y563) ∧ (Kd.R (Kd.int .u64) 27 w' w.heap.size (fun k_ => OB Ao32 y563 co32 k_ ∧ OB Ao38 y572 co38 k_ ∧ OB Ao51 y585 co51 k_ ∧ OB Ao63 y588 co63 k_ ∧ some k_ ≠ (v592 : Value).ownBlock ∧ OB Ao68 t603 co68 k_) (.slice Ao34 t566.length co34) t566) ∧ (Kd.V (Kd.int .u64) 27 w' w.heap.size (fun k_ => OB Ao32 y563 co32 k_ ∧ OB Ao34 t566 co34 k_ ∧ OB Ao38 y572 co38 k_ ∧ OB Ao51 y585 co51 k_ ∧ OB Ao63 y588 co63 k_ ∧ some k_ ≠ (v592 : Value).ownBlock ∧ OB Ao68 t603 co68 k_ ∧ k_ ≠ gb581 ∧ k_ ≠ gb601) (.slice Ao40 t569.length co40) t569) ∧ (Kd.R (Kd.int .u64) 27 w' w.heap.size (fun k_ => OB Ao32 y563 co32 k_ ∧ OB Ao34 t566 co34 k_ ∧ OB Ao51 y585 co51 k_ ∧ OB Ao63 y588 co63 k_ ∧ some k_ ≠ (v592 : Value).ownBlock ∧ OB Ao68 t603 co68 k_) (.slice Ao38 y572.length co38) y572) ∧ (Kd.V (Kd.int .u64) 27 w' w.heap.size (fun k_ => OB Ao32 y563 co32 k_ ∧ OB Ao34 t566 co34 k_ ∧ OB Ao38 y572 co38 k_ ∧ OB Ao51 y585 co51 k_ ∧ OB Ao63 y588 co63 k_ ∧ some k_ ≠ (v592 : Value).ownBlock ∧ OB Ao68 t603 co68 k_ ∧ k_ ≠ gb581 ∧ k_ ≠ gb601) (.slice Ao41 t575.length co41) t575) ∧ (Kd.V (Kd.int .u64) 27 w' w.heap.size (fun k_ => OB Ao32 y563 co32 k_ ∧ OB Ao34 t566 co34 k_ ∧ OB Ao38 y572 co38 k_ ∧ OB Ao51 y585 co51 k_ ∧ OB Ao63 y588 co63 k_ ∧ some k_ ≠ (v592 : Value).ownBlock ∧ OB Ao68 t603 co68 k_ ∧ k_ ≠ gb581 ∧ k_ ≠ gb601) (.slice Ao44 t578.length co44) t578) ∧ (Kd.R (Kd.int .u64) 27 w' w.heap.size (fun k_ => OB Ao32 y563 co32 k_ ∧ OB Ao34 t566 co34 k_ ∧ OB Ao38 y572 co38 k_ ∧ OB Ao63 y588 co63 k_ ∧ some k_ ≠ (v592 : Value).ownBlock ∧ OB Ao68 t603 co68 k_) (.slice Ao51 y585.length co51) y585) ∧ (Kd.R (Kd.int .u64) 27 w' w.heap.size (fun k_ => OB Ao32 y563 co32 k_ ∧ OB Ao34 t566 co34 k_ ∧ OB Ao38 y572 co38 k_ ∧ OB Ao51 y585 co51 k_ ∧ some k_ ≠ (v592 : Value).ownBlock ∧ OB Ao68 t603 co68 k_) (.slice Ao63 y588.length co63) y588) ∧ (Kd.R (Kd.int .u64) 27 w' w.heap.size (fun k_ => OB Ao32 y563 co32 k_ ∧ OB Ao34 t566 co34 k_ ∧ OB Ao38 y572 co38 k_ ∧ OB Ao51 y585 co51 k_ ∧ OB Ao63 y588 co63 k_ ∧ OB Ao68 t603 co68 k_) v592 y591) ∧ (Kd.V (Kd.int .u64) 27 w' w.heap.size (fun k_ => OB Ao32 y563 co32 k_ ∧ OB Ao34 t566 co34 k_ ∧ OB Ao38 y572 co38 k_ ∧ OB Ao51 y585 co51 k_ ∧ OB Ao63 y588 co63 k_ ∧ some k_ ≠ (v592 : Value).ownBlock ∧ OB Ao68 t603 co68 k_ ∧ k_ ≠ gb581 ∧ k_ ≠ gb601) v595 t594) ∧ (Kd.V (Kd.int .u64) 27 w' w.heap.size (fun k_ => OB Ao32 y563 co32 k_ ∧ OB Ao34 t566 co34 k_ ∧ OB Ao38 y572 co38 k_ ∧ OB Ao51 y585 co51 k_ ∧ OB Ao63 y588 co63 k_ ∧ some k_ ≠ (v592 : Value).ownBlock ∧ OB Ao68 t603 co68 k_ ∧ k_ ≠ gb581 ∧ k_ ≠ gb601) (.slice Ao61 t597.length co61) t597) ∧ (Kd.R (Kd.int .u64) 27 w' w.heap.size (fun k_ => OB Ao32 y563 co32 k_ ∧ OB Ao34 t566 co34 k_ ∧ OB Ao38 y572 co38 k_ ∧ OB Ao51 y585 co51 k_ ∧ OB Ao63 y588 co63 k_ ∧ some k_ ≠ (v592 : Value).ownBlock) (.slice Ao68 t603.length co68) t603) ∧ (Kd.V (Kd.int .u64) 27 w' w.heap.size (fun k_ => OB Ao32 y563 co32 k_ ∧ OB Ao34 t566 co34 k_ ∧ OB Ao38 y572 co38 k_ ∧ OB Ao51 y585 co51 k_ ∧ OB Ao63 y588 co63 k_ ∧ some k_ ≠ (v592 : Value).ownBlock ∧ OB Ao68 t603 co68 k_ ∧ k_ ≠ gb581 ∧ k_ ≠ gb601) s_ t608) ∧ (w'.heap[gb581]? = some (.cells #[.slice Ao44 t578.length co44] 25 (0, 0))) ∧ (w'.heap[gb601]? = some (.cells #[.slice Ao61 t597.length co61] 25 (0, 0))) ∧ (Below w.heap.size w w')) ?_ ?_
        rotate_left
        ·intro hJ18
         refine join_ (σ := Value) 17 (fl 18 38 [19, 20, 21]) (fun s_ => [(52, s_)]) (fun s_ w' => (w'.cell? ⟨gb581, 0, none⟩ = some (.slice Ao44 t578.length co44) ∧ w'.cell? ⟨gb601, 0, none⟩ = some (.slice Ao61 t597.length co61)) ∧ (Kd.R (Kd.int .u64) 27 w' w.heap.size (fun k_ => OB Ao34 t566 co34 k_ ∧ OB Ao38 y572 co38 k_ ∧ OB Ao51 y585 co51 k_ ∧ OB Ao63 y588 co63 k_ ∧ some k_ ≠ (v592 : Value).ownBlock ∧ OB Ao68 t603 co68 k_ ∧ some k_ ≠ (s_ : Value).ownBlock) (.slice Ao32 y563.length co32) y563) ∧ (Kd.R (Kd.int .u64) 27 w' w.heap.size (fun k_ => OB Ao32 y563 co32 k_ ∧ OB Ao38 y572 co38 k_ ∧ OB Ao51 y585 co51 k_ ∧ OB Ao63 y588 co63 k_ ∧ some k_ ≠ (v592 : Value).ownBlock ∧ OB Ao68 t603 co68 k_ ∧ some k_ ≠ (s_ : Value).ownBlock) (.slice Ao34 t566.length co34) t566) ∧ (Kd.V (Kd.int .u64) 27 w' w.heap.size (fun k_ => OB Ao32 y563 co32 k_ ∧ OB Ao34 t566 co34 k_ ∧ OB Ao38 y572 co38 k_ ∧ OB Ao51 y585 co51 k_ ∧ OB Ao63 y588 co63 k_ ∧ some k_ ≠ (v592 : Value).ownBlock ∧ OB Ao68 t603 co68 k_ ∧ some k_ ≠ (s_ : Value).ownBlock ∧ k_ ≠ gb581 ∧ k_ ≠ gb601) (.slice Ao40 t569.length co40) t569) ∧ (Kd.R (Kd.int .u64) 27 w' w.heap.size (fun k_ => OB Ao32 y563 co32 k_ ∧ OB Ao34 t566 co34 k_ ∧ OB Ao51 y585 co51 k_ ∧ OB Ao63 y588 co63 k_ ∧ some k_ ≠ (v592 : Value).ownBlock ∧ OB Ao68 t603 co68 k_ ∧ some k_ ≠ (s_ : Value).ownBlock) (.slice Ao38 y572.length co38) y572) ∧ (Kd.V (Kd.int .u64) 27 w' w.heap.size (fun k_ => OB Ao32 y563 co32 k_ ∧ OB Ao34 t566 co34 k_ ∧ OB Ao38 y572 co38 k_ ∧ OB Ao51 y585 co51 k_ ∧ OB Ao63 y588 co63 k_ ∧ some k_ ≠ (v592 : Value).ownBlock ∧ OB Ao68 t603 co68 k_ ∧ some k_ ≠ (s_ : Value).ownBlock ∧ k_ ≠ gb581 ∧ k_ ≠ gb601) (.slice Ao41 t575.length co41) t575) ∧ (Kd.V (Kd.int .u64) 27 w' w.heap.size (fun k_ => OB Ao32 y563 co32 k_ ∧ OB Ao34 t566 co34 k_ ∧ OB Ao38 y572 co38 k_ ∧ OB Ao51 y585 co51 k_ ∧ OB Ao63 y588 co63 k_ ∧ some k_ ≠ (v592 : Value).ownBlock ∧ OB Ao68 t603 co68 k_ ∧ some k_ ≠ (s_ : Value).ownBlock ∧ k_ ≠ gb581 ∧ k_ ≠ gb601) (.slice Ao44 t578.length co44) t578) ∧ (Kd.R (Kd.int .u64) 27 w' w.heap.size (fun k_ => OB Ao32 y563 co32 k_ ∧ OB Ao34 t566 co34 k_ ∧ OB Ao38 y572 co38 k_ ∧ OB Ao63 y588 co63 k_ ∧ some k_ ≠ (v592 : Value).ownBlock ∧ OB Ao68 t603 co68 k_ ∧ some k_ ≠ (s_ : Value).ownBlock) (.slice Ao51 y585.length co51) y585) ∧ (Kd.R (Kd.int .u64) 27 w' w.heap.size (fun k_ => OB Ao32 y563 co32 k_ ∧ OB Ao34 t566 co34 k_ ∧ OB Ao38 y572 co38 k_ ∧ OB Ao51 y585 co51 k_ ∧ some k_ ≠ (v592 : Value).ownBlock ∧ OB Ao68 t603 co68 k_ ∧ some k_ ≠ (s_ : Value).ownBlock) (.slice Ao63 y588.length co63) y588) ∧ (Kd.R (Kd.int .u64) 27 w' w.heap.size (fun k_ => OB Ao32 y563 co32 k_ ∧ OB Ao34 t566 co34 k_ ∧ OB Ao38 y572 co38 k_ ∧ OB Ao51 y585 co51 k_ ∧ OB Ao63 y588 co63 k_ ∧ OB Ao68 t603 co68 k_ ∧ some k_ ≠ (s_ : Value).ownBlock) v592 y591) ∧ (Kd.V (Kd.int .u64) 27 w' w.heap.size (fun k_ => OB Ao32 y563 co32 k_ ∧ OB Ao34 t566 co34 k_ ∧ OB Ao38 y572 co38 k_ ∧ OB Ao51 y585 co51 k_ ∧ OB Ao63 y588 co63 k_ ∧ some k_ ≠ (v592 : Value).ownBlock ∧ OB Ao68 t603 co68 k_ ∧ some k_ ≠ (s_ : Value).ownBlock ∧ k_ ≠ gb581 ∧ k_ ≠ gb601) v595 t594) ∧ (Kd.V (Kd.int .u64) 27 w' w.heap.size (fun k_ => OB Ao32 y563 co32 k_ ∧ OB Ao34 t566 co34 k_ ∧ OB Ao38 y572 co38 k_ ∧ OB Ao51 y585 co51 k_ ∧ OB Ao63 y588 co63 k_ ∧ some k_ ≠ (v592 : Value).ownBlock ∧ OB Ao68 t603 co68 k_ ∧ some k_ ≠ (s_ : Value).ownBlock ∧ k_ ≠ gb581 ∧ k_ ≠ gb601) (.slice Ao61 t597.length co61) t597) ∧ (Kd.R (Kd.int .u64) 27 w' w.heap.size (fun k_ => OB Ao32 y563 co32 k_ ∧ OB Ao34 t566 co34 k_ ∧ OB Ao38 y572 co38 k_ ∧ OB Ao51 y585 co51 k_ ∧ OB Ao63 y588 co63 k_ ∧ some k_ ≠ (v592 : Value).ownBlock ∧ some k_ ≠ (s_ : Value).ownBlock) (.slice Ao68 t603.length co68) t603) ∧ (Kd.R (Kd.int .u64) 27 w' w.heap.size (fun k_ => OB Ao32 y563 co32 k_ ∧ OB Ao34 t566 co34 k_ ∧ OB Ao38 y572 co38 k_ ∧ OB Ao51 y585 co51 k_ ∧ OB Ao63 y588 co63 k_ ∧ some k_ ≠ (v592 : Value).ownBlock ∧ OB Ao68 t603 co68 k_) s_ y611) ∧ (w'.heap[gb581]? = some (.cells #[.slice Ao44 t578.length co44] 25 (0, 0))) ∧ (w'.heap[gb601]? = some (.cells #[.slice Ao61 t597.length co61] 25 (0, 0))) ∧ (Below w.heap.size w w')) ?_ ?_
         rotate_left
         ·intro hJ21
          refine join_ (σ := Value) 17 (fl 18 38 [19, 20, 22]) (fun s_ => [(53, s_)]) (fun s_ w' => (w'.cell? ⟨gb581, 0, none⟩ = some (.slice Ao44 t578.length co44) ∧ w'.cell? ⟨gb601, 0, none⟩ = some (.slice Ao61 t597.length co61)) ∧ (Kd.R (Kd.int .u64) 27 w' w.heap.size (fun k_ => OB Ao34 t566 co34 k_ ∧ OB Ao38 y572 co38 k_ ∧ OB Ao51 y585 co51 k_ ∧ OB Ao63 y588 co63 k_ ∧ some k_ ≠ (v592 : Value).ownBlock ∧ OB Ao68 t603 co68 k_ ∧ some k_ ≠ (s_ : Value).ownBlock) (.slice Ao32 y563.length co32) y563) ∧ (Kd.R (Kd.int .u64) 27 w' w.heap.size (fun k_ => OB Ao32 y563 co32 k_ ∧ OB Ao38 y572 co38 k_ ∧ OB Ao51 y585 co51 k_ ∧ OB Ao63 y588 co63 k_ ∧ some k_ ≠ (v592 : Value).ownBlock ∧ OB Ao68 t603 co68 k_ ∧ some k_ ≠ (s_ : Value).ownBlock) (.slice Ao34 t566.length co34) t566) ∧ (Kd.V (Kd.int .u64) 27 w' w.heap.size (fun k_ => OB Ao32 y563 co32 k_ ∧ OB Ao34 t566 co34 k_ ∧ OB Ao38 y572 co38 k_ ∧ OB Ao51 y585 co51 k_ ∧ OB Ao63 y588 co63 k_ ∧ some k_ ≠ (v592 : Value).ownBlock ∧ OB Ao68 t603 co68 k_ ∧ some k_ ≠ (s_ : Value).ownBlock ∧ k_ ≠ gb581 ∧ k_ ≠ gb601) (.slice Ao40 t569.length co40) t569) ∧ (Kd.R (Kd.int .u64) 27 w' w.heap.size (fun k_ => OB Ao32 y563 co32 k_ ∧ OB Ao34 t566 co34 k_ ∧ OB Ao51 y585 co51 k_ ∧ OB Ao63 y588 co63 k_ ∧ some k_ ≠ (v592 : Value).ownBlock ∧ OB Ao68 t603 co68 k_ ∧ some k_ ≠ (s_ : Value).ownBlock) (.slice Ao38 y572.length co38) y572) ∧ (Kd.V (Kd.int .u64) 27 w' w.heap.size (fun k_ => OB Ao32 y563 co32 k_ ∧ OB Ao34 t566 co34 k_ ∧ OB Ao38 y572 co38 k_ ∧ OB Ao51 y585 co51 k_ ∧ OB Ao63 y588 co63 k_ ∧ some k_ ≠ (v592 : Value).ownBlock ∧ OB Ao68 t603 co68 k_ ∧ some k_ ≠ (s_ : Value).ownBlock ∧ k_ ≠ gb581 ∧ k_ ≠ gb601) (.slice Ao41 t575.length co41) t575) ∧ (Kd.V (Kd.int .u64) 27 w' w.heap.size (fun k_ => OB Ao32 y563 co32 k_ ∧ OB Ao34 t566 co34 k_ ∧ OB Ao38 y572 co38 k_ ∧ OB Ao51 y585 co51 k_ ∧ OB Ao63 y588 co63 k_ ∧ some k_ ≠ (v592 : Value).ownBlock ∧ OB Ao68 t603 co68 k_ ∧ some k_ ≠ (s_ : Value).ownBlock ∧ k_ ≠ gb581 ∧ k_ ≠ gb601) (.slice Ao44 t578.length co44) t578) ∧ (Kd.R (Kd.int .u64) 27 w' w.heap.size (fun k_ => OB Ao32 y563 co32 k_ ∧ OB Ao34 t566 co34 k_ ∧ OB Ao38 y572 co38 k_ ∧ OB Ao63 y588 co63 k_ ∧ some k_ ≠ (v592 : Value).ownBlock ∧ OB Ao68 t603 co68 k_ ∧ some k_ ≠ (s_ : Value).ownBlock) (.slice Ao51 y585.length co51) y585) ∧ (Kd.R (Kd.int .u64) 27 w' w.heap.size (fun k_ => OB Ao32 y563 co32 k_ ∧ OB Ao34 t566 co34 k_ ∧ OB Ao38 y572 co38 k_ ∧ OB Ao51 y585 co51 k_ ∧ some k_ ≠ (v592 : Value).ownBlock ∧ OB Ao68 t603 co68 k_ ∧ some k_ ≠ (s_ : Value).ownBlock) (.slice Ao63 y588.length co63) y588) ∧ (Kd.R (Kd.int .u64) 27 w' w.heap.size (fun k_ => OB Ao32 y563 co32 k_ ∧ OB Ao34 t566 co34 k_ ∧ OB Ao38 y572 co38 k_ ∧ OB Ao51 y585 co51 k_ ∧ OB Ao63 y588 co63 k_ ∧ OB Ao68 t603 co68 k_ ∧ some k_ ≠ (s_ : Value).ownBlock) v592 y591) ∧ (Kd.V (Kd.int .u64) 27 w' w.heap.size (fun k_ => OB Ao32 y563 co32 k_ ∧ OB Ao34 t566 co34 k_ ∧ OB Ao38 y572 co38 k_ ∧ OB Ao51 y585 co51 k_ ∧ OB Ao63 y588 co63 k_ ∧ some k_ ≠ (v592 : Value).ownBlock ∧ OB Ao68 t603 co68 k_ ∧ some k_ ≠ (s_ : Value).ownBlock ∧ k_ ≠ gb581 ∧ k_ ≠ gb601) v595 t594) ∧ (Kd.V (Kd.int .u64) 27 w' w.heap.size (fun k_ => OB Ao32 y563 co32 k_ ∧ OB Ao34 t566 co34 k_ ∧ OB Ao38 y572 co38 k_ ∧ OB Ao51 y585 co51 k_ ∧ OB Ao63 y588 co63 k_ ∧ some k_ ≠ (v592 : Value).ownBlock ∧ OB Ao68 t603 co68 k_ ∧ some k_ ≠ (s_ : Value).ownBlock ∧ k_ ≠ gb581 ∧ k_ ≠ gb601) (.slice Ao61 t597.length co61) t597) ∧ (Kd.R (Kd.int .u64) 27 w' w.heap.size (fun k_ => OB Ao32 y563 co32 k_ ∧ OB Ao34 t566 co34 k_ ∧ OB Ao38 y572 co38 k_ ∧ OB Ao51 y585 co51 k_ ∧ OB Ao63 y588 co63 k_ ∧ some k_ ≠ (v592 : Value).ownBlock ∧ some k_ ≠ (s_ : Value).ownBlock) (.slice Ao68 t603.length co68) t603) ∧ (Kd.R (Kd.int .u64) 27 w' w.heap.size (fun k_ => OB Ao32 y563 co32 k_ ∧ OB Ao34 t566 co34 k_ ∧ OB Ao38 y572 co38 k_ ∧ OB Ao51 y585 co51 k_ ∧ OB Ao63 y588 co63 k_ ∧ some k_ ≠ (v592 : Value).ownBlock ∧ OB Ao68 t603 co68 k_) s_ y614) ∧ (w'.heap[gb581]? = some (.cells #[.slice Ao44 t578.length co44] 25 (0, 0))) ∧ (w'.heap[gb601]? = some (.cells #[.slice Ao61 t597.length co61] 25 (0, 0))) ∧ (Below w.heap.size w w')) ?_ ?_
          rotate_left
          ·intro hJ22
           refine three_ (i := 18) (j := 21) (k := 22) (Ni := some 49) (Nj := some 52) (Nk := some 53) (fl 21 38 []) (fl 18 38 [19, 20, 21]) (fl 18 38 [19, 20, 22]) rfl rfl rfl rfl rfl rfl (three_of HT_.out (by kernel_rfl)) (by decide) (by decide) (by decide) (fun K hK => ?_) (fun K hK => ?_) (fun K hK => ?_)
           ·skip
            refine goes_ Try.func24 (by kernel_rfl) rfl #[.agg #[.slice Ao44 t578.length co44], .agg #[.slice Ao44 t578.length co44]] (by rfl) rfl rfl (by (try simp only [List.map_toArray, List.map_cons, List.map_nil]); first | done | rfl | (simp only [List.length_drop, List.length_take]; rfl)) ?_
            with_reducible refine (nat_Nat_Mul.calls k _ _ t578 _ _ t578 t608 _ ?side1 ?side2 ?side3 ?side4 A19.out).mono ?_
            (case side1 => exact cv HO580.out)
            (case side2 => exact (Kd.V_reads' HO580.out).2.1)
            (case side3 => exact cv HO580.out)
            (case side4 => exact (Kd.V_reads' HO580.out).2.1)
            rintro e w70 ⟨v609, rfl, ho0, hb⟩
            refine ⟨_, rfl, ?_⟩
            have n0_ := Aside0.mk (rb HO565.out hb)
            have n1_ := Aside0.mk (rb HO568.out hb)
            have n2_ := Aside0.mk (vb HO571.out hb)
            have n3_ := Aside0.mk (rb HO574.out hb)
            have n4_ := Aside0.mk (vb HO577.out hb)
            have n5_ := Aside0.mk (vb HO580.out hb)
            have n6_ := Aside0.mk (rb HO587.out hb)
            have n7_ := Aside0.mk (rb HO590.out hb)
            have n8_ := Aside0.mk (rb HO593.out hb)
            have n9_ := Aside0.mk (vb HO596.out hb)
            have n10_ := Aside0.mk (vb HO599.out hb)
            have n11_ := Aside0.mk (rb HO605.out hb)
            have n12_ := Aside0.mk (Kd.V_lower (Kd.V_mono (ok' := fun k_ => OB Ao32 y563 co32 k_ ∧ OB Ao34 t566 co34 k_ ∧ OB Ao38 y572 co38 k_ ∧ OB Ao51 y585 co51 k_ ∧ OB Ao63 y588 co63 k_ ∧ some k_ ≠ (v592 : Value).ownBlock ∧ OB Ao68 t603 co68 k_ ∧ k_ ≠ gb581 ∧ k_ ≠ gb601) ho0 (fun k_ hk_ => ⟨(Kd.fresh' (Kd.R_lt HO565.out) k_ hk_), (Kd.fresh' (Kd.R_lt HO568.out) k_ hk_), (Kd.fresh' (Kd.R_lt HO574.out) k_ hk_), (Kd.fresh' (Kd.R_lt HO587.out) k_ hk_), (Kd.fresh' (Kd.R_lt HO590.out) k_ hk_), (Kd.fresh' (Kd.R_lt HO593.out) k_ hk_), (Kd.fresh' (Kd.R_lt HO605.out) k_ hk_), (fb BK581.out k_ hk_), (fb BK601.out k_ hk_)⟩)) (bz HB.out))
            have n13_ := Aside0.mk (bb BK581.out hb)
            have n14_ := Aside0.mk (bb BK601.out hb)
            have n15_ := Aside0.mk (bs HB.out hb)
            clear HO565
            clear HO568
            clear HO571
            clear HO574
            clear HO577
            clear HO580
            clear HO587
            clear HO590
            clear HO593
            clear HO596
            clear HO599
            clear HO605
            clear BK581
            clear BK601
            clear HB
            have HO565 := n0_
            have HO568 := n1_
            have HO571 := n2_
            have HO574 := n3_
            have HO577 := n4_
            have HO580 := n5_
            have HO587 := n6_
            have HO590 := n7_
            have HO593 := n8_
            have HO596 := n9_
            have HO599 := n10_
            have HO605 := n11_
            have HO610 := n12_
            have BK581 := n13_
            have BK601 := n14_
            have HB := n15_
            clear n0_ n1_ n2_ n3_ n4_ n5_ n6_ n7_ n8_ n9_ n10_ n11_ n12_ n13_ n14_ n15_
            (try clear hb)
            (try clear hb2)
            (try clear hk)
            (try clear hi)
            (try clear ho0)
            refine hK.out _ _ ⟨(blk_cell BK581.out 0).trans rfl, (blk_cell BK601.out 0).trans rfl⟩ (fun hHeld => ?_)
            clear hK K
            refine norm_ (a' := ?_) ?_ ?_
            rotate_left
            ·show Act.put _ (some 49) _ = _
             simp only [Act.put, List.setIfInBounds_toArray, List.set_cons_zero, List.set_cons_succ, i64_w, i32_w]
             rfl
            exact norm_ (by simp only [putAll, Act.put, List.setIfInBounds_toArray, List.set_cons_zero, List.set_cons_succ]; first | done | rfl) (hJ18 (v609) _ ⟨hHeld, (Kd.R_mono HO565.out (fun _ hk => ⟨hk.1.1, hk.1.2.1, hk.1.2.2.1, hk.1.2.2.2.1, hk.1.2.2.2.2, hk.2⟩)), (Kd.R_mono HO568.out (fun _ hk => ⟨hk.1.1, hk.1.2.1, hk.1.2.2.1, hk.1.2.2.2.1, hk.1.2.2.2.2, hk.2⟩)), (Kd.V_mono HO571.out (fun _ hk => ⟨hk.1.1, hk.1.2.1, hk.1.2.2.1, hk.1.2.2.2.1, hk.1.2.2.2.2.1, hk.1.2.2.2.2.2.1, hk.2, hk.1.2.2.2.2.2.2.1, hk.1.2.2.2.2.2.2.2⟩)), (Kd.R_mono HO574.out (fun _ hk => ⟨hk.1.1, hk.1.2.1, hk.1.2.2.1, hk.1.2.2.2.1, hk.1.2.2.2.2, hk.2⟩)), (Kd.V_mono HO577.out (fun _ hk => ⟨hk.1.1, hk.1.2.1, hk.1.2.2.1, hk.1.2.2.2.1, hk.1.2.2.2.2.1, hk.1.2.2.2.2.2.1, hk.2, hk.1.2.2.2.2.2.2.1, hk.1.2.2.2.2.2.2.2⟩)), (Kd.V_mono HO580.out (fun _ hk => ⟨hk.1.1, hk.1.2.1, hk.1.2.2.1, hk.1.2.2.2.1, hk.1.2.2.2.2.1, hk.1.2.2.2.2.2.1, hk.2, hk.1.2.2.2.2.2.2.1, hk.1.2.2.2.2.2.2.2⟩)), (Kd.R_mono HO587.out (fun _ hk => ⟨hk.1.1, hk.1.2.1, hk.1.2.2.1, hk.1.2.2.2.1, hk.1.2.2.2.2, hk.2⟩)), (Kd.R_mono HO590.out (fun _ hk => ⟨hk.1.1, hk.1.2.1, hk.1.2.2.1, hk.1.2.2.2.1, hk.1.2.2.2.2, hk.2⟩)), (Kd.R_mono HO593.out (fun _ hk => ⟨hk.1.1, hk.1.2.1, hk.1.2.2.1, hk.1.2.2.2.1, hk.1.2.2.2.2, hk.2⟩)), (Kd.V_mono HO596.out (fun _ hk => ⟨hk.1.1, hk.1.2.1, hk.1.2.2.1, hk.1.2.2.2.1, hk.1.2.2.2.2.1, hk.1.2.2.2.2.2.1, hk.2, hk.1.2.2.2.2.2.2.1, hk.1.2.2.2.2.2.2.2⟩)), (Kd.V_mono HO599.out (fun _ hk => ⟨hk.1.1, hk.1.2.1, hk.1.2.2.1, hk.1.2.2.2.1, hk.1.2.2.2.2.1, hk.1.2.2.2.2.2.1, hk.2, hk.1.2.2.2.2.2.2.1, hk.1.2.2.2.2.2.2.2⟩)), (Kd.R_mono HO605.out (fun _ hk => ⟨hk.1.1.1.1.1.2, hk.1.1.1.1.2, hk.1.1.1.2, hk.1.1.2, hk.1.2, hk.2⟩)), HO610.out, BK581.out, BK601.out, (by repeat (first | (with_reducible first | exact HB.out | apply below_alloc | apply pw_below_drewN | apply below_drew1 | refine below_set ?_ GE581.out | refine below_set ?_ GE601.out) | exact HB.out))⟩)
           ·skip
            refine Kd.R_make_step (Kd.int .u64) _ 27 (by rfl) (N := 52) rfl 22 _ _ rfl ji20 rfl rfl Try.underlying22 (.int .u64 0) 8 info27 rfl (by decide) (by omega) 0 (ok := fun _ => True) (okp := fun _ => True) rfl (fun _ hk => hk) trivial (of_decide_eq_true (by first | (with_reducible assumption) | assumption)) (Nat.le_trans (Nat.mul_le_mul_right _ (of_decide_eq_true (by first | (with_reducible assumption) | assumption) : ji20.toNat ≤ 35184372088832)) (by omega)) (Below.refl _ _) (Nat.le_refl _) ?_
            intro v612 w70 ho71 hb hg_ hnew_
            clear hg_ hnew_
            (first | rw [← Ny611.out] at ho71 | (simp only [Int.reduceToNat] at ho71; rw [← Ny611.out] at ho71))
            have n0_ := Aside0.mk (Kd.R_elder' HO565.out (Kd.R_base ho71) hb)
            have n1_ := Aside0.mk (Kd.R_elder' HO568.out (Kd.R_base ho71) hb)
            have n2_ := Aside0.mk (Kd.V_elder' HO571.out (Kd.R_base ho71) hb)
            have n3_ := Aside0.mk (Kd.R_elder' HO574.out (Kd.R_base ho71) hb)
            have n4_ := Aside0.mk (Kd.V_elder' HO577.out (Kd.R_base ho71) hb)
            have n5_ := Aside0.mk (Kd.V_elder' HO580.out (Kd.R_base ho71) hb)
            have n6_ := Aside0.mk (Kd.R_elder' HO587.out (Kd.R_base ho71) hb)
            have n7_ := Aside0.mk (Kd.R_elder' HO590.out (Kd.R_base ho71) hb)
            have n8_ := Aside0.mk (Kd.R_elder' HO593.out (Kd.R_base ho71) hb)
            have n9_ := Aside0.mk (Kd.V_elder' HO596.out (Kd.R_base ho71) hb)
            have n10_ := Aside0.mk (Kd.V_elder' HO599.out (Kd.R_base ho71) hb)
            have n11_ := Aside0.mk (Kd.R_elder' HO605.out (Kd.R_base ho71) hb)
            have n12_ := Aside0.mk (Kd.R_lower (Kd.R_new' (Kd.R_new' (Kd.R_new' (Kd.R_new' (Kd.R_new' (Kd.R_new' (Kd.R_new' ho71 (Kd.R_lt HO565.out)) (Kd.R_lt HO568.out)) (Kd.R_lt HO574.out)) (Kd.R_lt HO587.out)) (Kd.R_lt HO590.out)) (Kd.R_lt HO593.out)) (Kd.R_lt HO605.out)) (bz HB.out))
            have n13_ := Aside0.mk (bb BK581.out hb)
            have n14_ := Aside0.mk (bb BK601.out hb)
            have n15_ := Aside0.mk (bs HB.out hb)
            clear HO565
            clear HO568
            clear HO571
            clear HO574
            clear HO577
            clear HO580
            clear HO587
            clear HO590
            clear HO593
            clear HO596
            clear HO599
            clear HO605
            clear BK581
            clear BK601
            clear HB
            have HO565 := n0_
            have HO568 := n1_
            have HO571 := n2_
            have HO574 := n3_
            have HO577 := n4_
            have HO580 := n5_
            have HO587 := n6_
            have HO590 := n7_
            have HO593 := n8_
            have HO596 := n9_
            have HO599 := n10_
            have HO605 := n11_
            have HO613 := n12_
            have BK581 := n13_
            have BK601 := n14_
            have HB := n15_
            clear n0_ n1_ n2_ n3_ n4_ n5_ n6_ n7_ n8_ n9_ n10_ n11_ n12_ n13_ n14_ n15_
            clear hb ho71
            refine hK.out _ _ ⟨(blk_cell BK581.out 0).trans rfl, (blk_cell BK601.out 0).trans rfl⟩ (fun hHeld => ?_)
            clear hK K
            refine norm_ (a' := ?_) ?_ ?_
            rotate_left
            ·show Act.put _ (some 52) _ = _
             simp only [Act.put, List.setIfInBounds_toArray, List.set_cons_zero, List.set_cons_succ, i64_w, i32_w]
             rfl
            exact norm_ (by simp only [putAll, Act.put, List.setIfInBounds_toArray, List.set_cons_zero, List.set_cons_succ]; first | done | rfl) (hJ21 (v612) _ ⟨hHeld, (Kd.R_mono HO565.out (fun _ hk => ⟨hk.1.1.1, hk.1.1.2.1, hk.1.1.2.2.1, hk.1.1.2.2.2.1, hk.1.1.2.2.2.2, hk.1.2, hk.2⟩)), (Kd.R_mono HO568.out (fun _ hk => ⟨hk.1.1.1, hk.1.1.2.1, hk.1.1.2.2.1, hk.1.1.2.2.2.1, hk.1.1.2.2.2.2, hk.1.2, hk.2⟩)), (Kd.V_mono HO571.out (fun _ hk => ⟨hk.1.1.1, hk.1.1.2.1, hk.1.1.2.2.1, hk.1.1.2.2.2.1, hk.1.1.2.2.2.2.1, hk.1.1.2.2.2.2.2.1, hk.1.2, hk.2, hk.1.1.2.2.2.2.2.2.1, hk.1.1.2.2.2.2.2.2.2⟩)), (Kd.R_mono HO574.out (fun _ hk => ⟨hk.1.1.1, hk.1.1.2.1, hk.1.1.2.2.1, hk.1.1.2.2.2.1, hk.1.1.2.2.2.2, hk.1.2, hk.2⟩)), (Kd.V_mono HO577.out (fun _ hk => ⟨hk.1.1.1, hk.1.1.2.1, hk.1.1.2.2.1, hk.1.1.2.2.2.1, hk.1.1.2.2.2.2.1, hk.1.1.2.2.2.2.2.1, hk.1.2, hk.2, hk.1.1.2.2.2.2.2.2.1, hk.1.1.2.2.2.2.2.2.2⟩)), (Kd.V_mono HO580.out (fun _ hk => ⟨hk.1.1.1, hk.1.1.2.1, hk.1.1.2.2.1, hk.1.1.2.2.2.1, hk.1.1.2.2.2.2.1, hk.1.1.2.2.2.2.2.1, hk.1.2, hk.2, hk.1.1.2.2.2.2.2.2.1, hk.1.1.2.2.2.2.2.2.2⟩)), (Kd.R_mono HO587.out (fun _ hk => ⟨hk.1.1.1, hk.1.1.2.1, hk.1.1.2.2.1, hk.1.1.2.2.2.1, hk.1.1.2.2.2.2, hk.1.2, hk.2⟩)), (Kd.R_mono HO590.out (fun _ hk => ⟨hk.1.1.1, hk.1.1.2.1, hk.1.1.2.2.1, hk.1.1.2.2.2.1, hk.1.1.2.2.2.2, hk.1.2, hk.2⟩)), (Kd.R_mono HO593.out (fun _ hk => ⟨hk.1.1.1, hk.1.1.2.1, hk.1.1.2.2.1, hk.1.1.2.2.2.1, hk.1.1.2.2.2.2, hk.1.2, hk.2⟩)), (Kd.V_mono HO596.out (fun _ hk => ⟨hk.1.1.1, hk.1.1.2.1, hk.1.1.2.2.1, hk.1.1.2.2.2.1, hk.1.1.2.2.2.2.1, hk.1.1.2.2.2.2.2.1, hk.1.2, hk.2, hk.1.1.2.2.2.2.2.2.1, hk.1.1.2.2.2.2.2.2.2⟩)), (Kd.V_mono HO599.out (fun _ hk => ⟨hk.1.1.1, hk.1.1.2.1, hk.1.1.2.2.1, hk.1.1.2.2.2.1, hk.1.1.2.2.2.2.1, hk.1.1.2.2.2.2.2.1, hk.1.2, hk.2, hk.1.1.2.2.2.2.2.2.1, hk.1.1.2.2.2.2.2.2.2⟩)), (Kd.R_mono HO605.out (fun _ hk => ⟨hk.1.1.1.1.1.1.2, hk.1.1.1.1.1.2, hk.1.1.1.1.2, hk.1.1.1.2, hk.1.1.2, hk.1.2, hk.2⟩)), (Kd.R_mono HO613.out (fun _ hk => ⟨hk.1.1.1.1.1.1.2, hk.1.1.1.1.1.2, hk.1.1.1.1.2, hk.1.1.1.2, hk.1.1.2, hk.1.2, hk.2⟩)), BK581.out, BK601.out, (by repeat (first | (with_reducible first | exact HB.out | apply below_alloc | apply pw_below_drewN | apply below_drew1 | refine below_set ?_ GE581.out | refine below_set ?_ GE601.out) | exact HB.out))⟩)
           ·skip
            refine Kd.R_lit_step (Kd.int .u64) _ 27 ?hg (N := 53) ?hd (xs := ([1] : List Int)) (inner := [.int .u64 1]) (ok := fun _ => True) (okp := fun _ => True) ?hr ?hp (fun _ hk => hk) trivial (Below.refl _ _) (Nat.le_refl _) (by simp) ?_; (case hd => rfl); (case hg => rfl); (case hr => first | (go_simp; done) | (go_simp; rfl)); (case hp => exact (Reps.one (show Kd.M (Kd.int .u64) _ _ _ 1 [.int .u64 1] from rfl) (Reps.none _ _)))
            intro v615 w70 ho71 hb hg_ hnew_
            clear hg_ hnew_
            (first | rw [← Ny614.out] at ho71 | (simp only [Int.reduceToNat] at ho71; rw [← Ny614.out] at ho71))
            have n0_ := Aside0.mk (Kd.R_elder' HO565.out (Kd.R_base ho71) hb)
            have n1_ := Aside0.mk (Kd.R_elder' HO568.out (Kd.R_base ho71) hb)
            have n2_ := Aside0.mk (Kd.V_elder' HO571.out (Kd.R_base ho71) hb)
            have n3_ := Aside0.mk (Kd.R_elder' HO574.out (Kd.R_base ho71) hb)
            have n4_ := Aside0.mk (Kd.V_elder' HO577.out (Kd.R_base ho71) hb)
            have n5_ := Aside0.mk (Kd.V_elder' HO580.out (Kd.R_base ho71) hb)
            have n6_ := Aside0.mk (Kd.R_elder' HO587.out (Kd.R_base ho71) hb)
            have n7_ := Aside0.mk (Kd.R_elder' HO590.out (Kd.R_base ho71) hb)
            have n8_ := Aside0.mk (Kd.R_elder' HO593.out (Kd.R_base ho71) hb)
            have n9_ := Aside0.mk (Kd.V_elder' HO596.out (Kd.R_base ho71) hb)
            have n10_ := Aside0.mk (Kd.V_elder' HO599.out (Kd.R_base ho71) hb)
            have n11_ := Aside0.mk (Kd.R_elder' HO605.out (Kd.R_base ho71) hb)
            have n12_ := Aside0.mk (Kd.R_lower (Kd.R_new' (Kd.R_new' (Kd.R_new' (Kd.R_new' (Kd.R_new' (Kd.R_new' (Kd.R_new' ho71 (Kd.R_lt HO565.out)) (Kd.R_lt HO568.out)) (Kd.R_lt HO574.out)) (Kd.R_lt HO587.out)) (Kd.R_lt HO590.out)) (Kd.R_lt HO593.out)) (Kd.R_lt HO605.out)) (bz HB.out))
            have n13_ := Aside0.mk (bb BK581.out hb)
            have n14_ := Aside0.mk (bb BK601.out hb)
            have n15_ := Aside0.mk (bs HB.out hb)
            clear HO565
            clear HO568
            clear HO571
            clear HO574
            clear HO577
            clear HO580
            clear HO587
            clear HO590
            clear HO593
            clear HO596
            clear HO599
            clear HO605
            clear BK581
            clear BK601
            clear HB
            have HO565 := n0_
            have HO568 := n1_
            have HO571 := n2_
            have HO574 := n3_
            have HO577 := n4_
            have HO580 := n5_
            have HO587 := n6_
            have HO590 := n7_
            have HO593 := n8_
            have HO596 := n9_
            have HO599 := n10_
            have HO605 := n11_
            have HO616 := n12_
            have BK581 := n13_
            have BK601 := n14_
            have HB := n15_
            clear n0_ n1_ n2_ n3_ n4_ n5_ n6_ n7_ n8_ n9_ n10_ n11_ n12_ n13_ n14_ n15_
            clear hb ho71
            refine hK.out _ _ ⟨(blk_cell BK581.out 0).trans rfl, (blk_cell BK601.out 0).trans rfl⟩ (fun hHeld => ?_)
            clear hK K
            refine norm_ (a' := ?_) ?_ ?_
            rotate_left
            ·show Act.put _ (some 53) _ = _
             simp only [Act.put, List.setIfInBounds_toArray, List.set_cons_zero, List.set_cons_succ, i64_w, i32_w]
             rfl
            exact norm_ (by simp only [putAll, Act.put, List.setIfInBounds_toArray, List.set_cons_zero, List.set_cons_succ]; first | done | rfl) (hJ22 (v615) _ ⟨hHeld, (Kd.R_mono HO565.out (fun _ hk => ⟨hk.1.1.1, hk.1.1.2.1, hk.1.1.2.2.1, hk.1.1.2.2.2.1, hk.1.1.2.2.2.2, hk.1.2, hk.2⟩)), (Kd.R_mono HO568.out (fun _ hk => ⟨hk.1.1.1, hk.1.1.2.1, hk.1.1.2.2.1, hk.1.1.2.2.2.1, hk.1.1.2.2.2.2, hk.1.2, hk.2⟩)), (Kd.V_mono HO571.out (fun _ hk => ⟨hk.1.1.1, hk.1.1.2.1, hk.1.1.2.2.1, hk.1.1.2.2.2.1, hk.1.1.2.2.2.2.1, hk.1.1.2.2.2.2.2.1, hk.1.2, hk.2, hk.1.1.2.2.2.2.2.2.1, hk.1.1.2.2.2.2.2.2.2⟩)), (Kd.R_mono HO574.out (fun _ hk => ⟨hk.1.1.1, hk.1.1.2.1, hk.1.1.2.2.1, hk.1.1.2.2.2.1, hk.1.1.2.2.2.2, hk.1.2, hk.2⟩)), (Kd.V_mono HO577.out (fun _ hk => ⟨hk.1.1.1, hk.1.1.2.1, hk.1.1.2.2.1, hk.1.1.2.2.2.1, hk.1.1.2.2.2.2.1, hk.1.1.2.2.2.2.2.1, hk.1.2, hk.2, hk.1.1.2.2.2.2.2.2.1, hk.1.1.2.2.2.2.2.2.2⟩)), (Kd.V_mono HO580.out (fun _ hk => ⟨hk.1.1.1, hk.1.1.2.1, hk.1.1.2.2.1, hk.1.1.2.2.2.1, hk.1.1.2.2.2.2.1, hk.1.1.2.2.2.2.2.1, hk.1.2, hk.2, hk.1.1.2.2.2.2.2.2.1, hk.1.1.2.2.2.2.2.2.2⟩)), (Kd.R_mono HO587.out (fun _ hk => ⟨hk.1.1.1, hk.1.1.2.1, hk.1.1.2.2.1, hk.1.1.2.2.2.1, hk.1.1.2.2.2.2, hk.1.2, hk.2⟩)), (Kd.R_mono HO590.out (fun _ hk => ⟨hk.1.1.1, hk.1.1.2.1, hk.1.1.2.2.1, hk.1.1.2.2.2.1, hk.1.1.2.2.2.2, hk.1.2, hk.2⟩)), (Kd.R_mono HO593.out (fun _ hk => ⟨hk.1.1.1, hk.1.1.2.1, hk.1.1.2.2.1, hk.1.1.2.2.2.1, hk.1.1.2.2.2.2, hk.1.2, hk.2⟩)), (Kd.V_mono HO596.out (fun _ hk => ⟨hk.1.1.1, hk.1.1.2.1, hk.1.1.2.2.1, hk.1.1.2.2.2.1, hk.1.1.2.2.2.2.1, hk.1.1.2.2.2.2.2.1, hk.1.2, hk.2, hk.1.1.2.2.2.2.2.2.1, hk.1.1.2.2.2.2.2.2.2⟩)), (Kd.V_mono HO599.out (fun _ hk => ⟨hk.1.1.1, hk.1.1.2.1, hk.1.1.2.2.1, hk.1.1.2.2.2.1, hk.1.1.2.2.2.2.1, hk.1.1.2.2.2.2.2.1, hk.1.2, hk.2, hk.1.1.2.2.2.2.2.2.1, hk.1.1.2.2.2.2.2.2.2⟩)), (Kd.R_mono HO605.out (fun _ hk => ⟨hk.1.1.1.1.1.1.2, hk.1.1.1.1.1.2, hk.1.1.1.1.2, hk.1.1.1.2, hk.1.1.2, hk.1.2, hk.2⟩)), (Kd.R_mono HO616.out (fun _ hk => ⟨hk.1.1.1.1.1.1.2, hk.1.1.1.1.1.2, hk.1.1.1.1.2, hk.1.1.1.2, hk.1.1.2, hk.1.2, hk.2⟩)), BK581.out, BK601.out, (by repeat (first | (with_reducible first | exact HB.out | apply below_alloc | apply pw_below_drewN | apply below_drew1 | refine below_set ?_ GE581.out | refine below_set ?_ GE601.out) | exact HB.out))⟩)
          ·skip
           rintro v615 w72 ⟨hS_, h0_, h1_, h2_, h3_, h4_, h5_, h6_, h7_, h8_, h9_, h10_, h11_, h12_, h13_, h14_, h15_⟩
           have n0_ := Aside0.mk h0_
           have n1_ := Aside0.mk h1_
           have n2_ := Aside0.mk h2_
           have n3_ := Aside0.mk h3_
           have n4_ := Aside0.mk h4_
           have n5_ := Aside0.mk h5_
           have n6_ := Aside0.mk h6_
           have n7_ := Aside0.mk h7_
           have n8_ := Aside0.mk h8_
           have n9_ := Aside0.mk h9_
           have n10_ := Aside0.mk h10_
           have n11_ := Aside0.mk h11_
           have n12_ := Aside0.mk h12_
           have n13_ := Aside0.mk h13_
           have n14_ := Aside0.mk h14_
           have n15_ := Aside0.mk h15_
           clear HO565
           clear HO568
           clear HO571
           clear HO574
           clear HO577
           clear HO580
           clear HO587
           clear HO590
           clear HO593
           clear HO596
           clear HO599
           clear BK581
           clear BK601
           clear HB
           clear h0_ h1_ h2_ h3_ h4_ h5_ h6_ h7_ h8_ h9_ h10_ h11_ h12_ h13_ h14_ h15_
           have HO565 := n0_
           have HO568 := n1_
           have HO571 := n2_
           have HO574 := n3_
           have HO577 := n4_
           have HO580 := n5_
           have HO587 := n6_
           have HO590 := n7_
           have HO593 := n8_
           have HO596 := n9_
           have HO599 := n10_
           have HO605 := n11_
           have HO616 := n12_
           have BK581 := n13_
           have BK601 := n14_
           have HB := n15_
           clear n0_ n1_ n2_ n3_ n4_ n5_ n6_ n7_ n8_ n9_ n10_ n11_ n12_ n13_ n14_ n15_
           have hHeld : w72.cell? ⟨gb581, 0, none⟩ = some (.slice Ao44 t578.length co44) ∧ w72.cell? ⟨gb601, 0, none⟩ = some (.slice Ao61 t597.length co61) := hS_
           refine norm_ (a' := ?_) ?_ ?_
           rotate_left
           ·simp only [putAll, Act.put, List.setIfInBounds_toArray, List.set_cons_zero, List.set_cons_succ]
            rfl
           refine two_ (i := 18) (j := 21) (Ni := some 49) (Nj := some 52) (fl 21 38 [22]) (fl 18 38 [19, 20, 21, 22]) rfl rfl rfl rfl (two_of HT_.out (by kernel_rfl)) (by decide) (by decide) (fun K hK => ?_) (fun K hK => ?_)
           ·skip
            refine goes_ Try.func24 (by kernel_rfl) rfl #[.agg #[.slice Ao44 t578.length co44], .agg #[.slice Ao44 t578.length co44]] (by rfl) rfl rfl (by (try simp only [List.map_toArray, List.map_cons, List.map_nil]); first | done | rfl | (simp only [List.length_drop, List.length_take]; rfl)) ?_
            with_reducible refine (nat_Nat_Mul.calls k _ _ t578 _ _ t578 t608 _ ?side1 ?side2 ?side3 ?side4 A19.out).mono ?_
            (case side1 => exact cv HO580.out)
            (case side2 => exact (Kd.V_reads' HO580.out).2.1)
            (case side3 => exact cv HO580.out)
            (case side4 => exact (Kd.V_reads' HO580.out).2.1)
            rintro e w73 ⟨v609, rfl, ho0, hb⟩
            refine ⟨_, rfl, ?_⟩
            have n0_ := Aside0.mk (rb HO565.out hb)
            have n1_ := Aside0.mk (rb HO568.out hb)
            have n2_ := Aside0.mk (vb HO571.out hb)
            have n3_ := Aside0.mk (rb HO574.out hb)
            have n4_ := Aside0.mk (vb HO577.out hb)
            have n5_ := Aside0.mk (vb HO580.out hb)
            have n6_ := Aside0.mk (rb HO587.out hb)
            have n7_ := Aside0.mk (rb HO590.out hb)
            have n8_ := Aside0.mk (rb HO593.out hb)
            have n9_ := Aside0.mk (vb HO596.out hb)
            have n10_ := Aside0.mk (vb HO599.out hb)
            have n11_ := Aside0.mk (rb HO605.out hb)
            have n12_ := Aside0.mk (rb HO616.out hb)
            have n13_ := Aside0.mk (Kd.V_lower (Kd.V_mono (ok' := fun k_ => OB Ao32 y563 co32 k_ ∧ OB Ao34 t566 co34 k_ ∧ OB Ao38 y572 co38 k_ ∧ OB Ao51 y585 co51 k_ ∧ OB Ao63 y588 co63 k_ ∧ some k_ ≠ (v592 : Value).ownBlock ∧ OB Ao68 t603 co68 k_ ∧ some k_ ≠ (v615 : Value).ownBlock ∧ k_ ≠ gb581 ∧ k_ ≠ gb601) ho0 (fun k_ hk_ => ⟨(Kd.fresh' (Kd.R_lt HO565.out) k_ hk_), (Kd.fresh' (Kd.R_lt HO568.out) k_ hk_), (Kd.fresh' (Kd.R_lt HO574.out) k_ hk_), (Kd.fresh' (Kd.R_lt HO587.out) k_ hk_), (Kd.fresh' (Kd.R_lt HO590.out) k_ hk_), (Kd.fresh' (Kd.R_lt HO593.out) k_ hk_), (Kd.fresh' (Kd.R_lt HO605.out) k_ hk_), (Kd.fresh' (Kd.R_lt HO616.out) k_ hk_), (fb BK581.out k_ hk_), (fb BK601.out k_ hk_)⟩)) (bz HB.out))
            have n14_ := Aside0.mk (bb BK581.out hb)
            have n15_ := Aside0.mk (bb BK601.out hb)
            have n16_ := Aside0.mk (bs HB.out hb)
            clear HO565
            clear HO568
            clear HO571
            clear HO574
            clear HO577
            clear HO580
            clear HO587
            clear HO590
            clear HO593
            clear HO596
            clear HO599
            clear HO605
            clear HO616
            clear BK581
            clear BK601
            clear HB
            have HO565 := n0_
            have HO568 := n1_
            have HO571 := n2_
            have HO574 := n3_
            have HO577 := n4_
            have HO580 := n5_
            have HO587 := n6_
            have HO590 := n7_
            have HO593 := n8_
            have HO596 := n9_
            have HO599 := n10_
            have HO605 := n11_
            have HO616 := n12_
            have HO610 := n13_
            have BK581 := n14_
            have BK601 := n15_
            have HB := n16_
            clear n0_ n1_ n2_ n3_ n4_ n5_ n6_ n7_ n8_ n9_ n10_ n11_ n12_ n13_ n14_ n15_ n16_
            (try clear hb)
            (try clear hb2)
            (try clear hk)
            (try clear hi)
            (try clear ho0)
            refine hK.out _ _ ⟨(blk_cell BK581.out 0).trans rfl, (blk_cell BK601.out 0).trans rfl⟩ (fun hHeld => ?_)
            clear hK K
            refine norm_ (a' := ?_) ?_ ?_
            rotate_left
            ·show Act.put _ (some 49) _ = _
             simp only [Act.put, List.setIfInBounds_toArray, List.set_cons_zero, List.set_cons_succ, i64_w, i32_w]
             rfl
            exact norm_ (by simp only [putAll, Act.put, List.setIfInBounds_toArray, List.set_cons_zero, List.set_cons_succ]; first | done | rfl) (hJ18_22 (v609, v615) _ ⟨hHeld, HO565.out, HO568.out, HO571.out, HO574.out, HO577.out, HO580.out, HO587.out, HO590.out, HO593.out, HO596.out, HO599.out, HO605.out, HO610.out, HO616.out, BK581.out, BK601.out, (by repeat (first | (with_reducible first | exact HB.out | apply below_alloc | apply pw_below_drewN | apply below_drew1 | refine below_set ?_ GE581.out | refine below_set ?_ GE601.out) | exact HB.out))⟩)
           ·skip
            refine Kd.R_make_step (Kd.int .u64) _ 27 (by rfl) (N := 52) rfl 22 _ _ rfl ji20 rfl rfl Try.underlying22 (.int .u64 0) 8 info27 rfl (by decide) (by omega) 0 (ok := fun _ => True) (okp := fun _ => True) rfl (fun _ hk => hk) trivial (of_decide_eq_true (by first | (with_reducible assumption) | assumption)) (Nat.le_trans (Nat.mul_le_mul_right _ (of_decide_eq_true (by first | (with_reducible assumption) | assumption) : ji20.toNat ≤ 35184372088832)) (by omega)) (Below.refl _ _) (Nat.le_refl _) ?_
            intro v612 w73 ho74 hb hg_ hnew_
            clear hg_ hnew_
            (first | rw [← Ny611.out] at ho74 | (simp only [Int.reduceToNat] at ho74; rw [← Ny611.out] at ho74))
            have n0_ := Aside0.mk (Kd.R_elder' HO565.out (Kd.R_base ho74) hb)
            have n1_ := Aside0.mk (Kd.R_elder' HO568.out (Kd.R_base ho74) hb)
            have n2_ := Aside0.mk (Kd.V_elder' HO571.out (Kd.R_base ho74) hb)
            have n3_ := Aside0.mk (Kd.R_elder' HO574.out (Kd.R_base ho74) hb)
            have n4_ := Aside0.mk (Kd.V_elder' HO577.out (Kd.R_base ho74) hb)
            have n5_ := Aside0.mk (Kd.V_elder' HO580.out (Kd.R_base ho74) hb)
            have n6_ := Aside0.mk (Kd.R_elder' HO587.out (Kd.R_base ho74) hb)
            have n7_ := Aside0.mk (Kd.R_elder' HO590.out (Kd.R_base ho74) hb)
            have n8_ := Aside0.mk (Kd.R_elder' HO593.out (Kd.R_base ho74) hb)
            have n9_ := Aside0.mk (Kd.V_elder' HO596.out (Kd.R_base ho74) hb)
            have n10_ := Aside0.mk (Kd.V_elder' HO599.out (Kd.R_base ho74) hb)
            have n11_ := Aside0.mk (Kd.R_elder' HO605.out (Kd.R_base ho74) hb)
            have n12_ := Aside0.mk (Kd.R_elder' HO616.out (Kd.R_base ho74) hb)
            have n13_ := Aside0.mk (Kd.R_lower (Kd.R_new' (Kd.R_new' (Kd.R_new' (Kd.R_new' (Kd.R_new' (Kd.R_new' (Kd.R_new' (Kd.R_new' ho74 (Kd.R_lt HO565.out)) (Kd.R_lt HO568.out)) (Kd.R_lt HO574.out)) (Kd.R_lt HO587.out)) (Kd.R_lt HO590.out)) (Kd.R_lt HO593.out)) (Kd.R_lt HO605.out)) (Kd.R_lt HO616.out)) (bz HB.out))
            have n14_ := Aside0.mk (bb BK581.out hb)
            have n15_ := Aside0.mk (bb BK601.out hb)
            have n16_ := Aside0.mk (bs HB.out hb)
            clear HO565
            clear HO568
            clear HO571
            clear HO574
            clear HO577
            clear HO580
            clear HO587
            clear HO590
            clear HO593
            clear HO596
            clear HO599
            clear HO605
            clear HO616
            clear BK581
            clear BK601
            clear HB
            have HO565 := n0_
            have HO568 := n1_
            have HO571 := n2_
            have HO574 := n3_
            have HO577 := n4_
            have HO580 := n5_
            have HO587 := n6_
            have HO590 := n7_
            have HO593 := n8_
            have HO596 := n9_
            have HO599 := n10_
            have HO605 := n11_
            have HO616 := n12_
            have HO613 := n13_
            have BK581 := n14_
            have BK601 := n15_
            have HB := n16_
            clear n0_ n1_ n2_ n3_ n4_ n5_ n6_ n7_ n8_ n9_ n10_ n11_ n12_ n13_ n14_ n15_ n16_
            clear hb ho74
            refine hK.out _ _ ⟨(blk_cell BK581.out 0).trans rfl, (blk_cell BK601.out 0).trans rfl⟩ (fun hHeld => ?_)
            clear hK K
            refine norm_ (a' := ?_) ?_ ?_
            rotate_left
            ·show Act.put _ (some 52) _ = _
             simp only [Act.put, List.setIfInBounds_toArray, List.set_cons_zero, List.set_cons_succ, i64_w, i32_w]
             rfl
            exact norm_ (by simp only [putAll, Act.put, List.setIfInBounds_toArray, List.set_cons_zero, List.set_cons_succ]; first | done | rfl) (hJ21_22 (v612, v615) _ ⟨hHeld, (Kd.R_mono HO565.out (fun _ hk => ⟨hk.1.1, hk.1.2.1, hk.1.2.2.1, hk.1.2.2.2.1, hk.1.2.2.2.2.1, hk.1.2.2.2.2.2.1, hk.2, hk.1.2.2.2.2.2.2⟩)), (Kd.R_mono HO568.out (fun _ hk => ⟨hk.1.1, hk.1.2.1, hk.1.2.2.1, hk.1.2.2.2.1, hk.1.2.2.2.2.1, hk.1.2.2.2.2.2.1, hk.2, hk.1.2.2.2.2.2.2⟩)), (Kd.V_mono HO571.out (fun _ hk => ⟨hk.1.1, hk.1.2.1, hk.1.2.2.1, hk.1.2.2.2.1, hk.1.2.2.2.2.1, hk.1.2.2.2.2.2.1, hk.1.2.2.2.2.2.2.1, hk.2, hk.1.2.2.2.2.2.2.2.1, hk.1.2.2.2.2.2.2.2.2.1, hk.1.2.2.2.2.2.2.2.2.2⟩)), (Kd.R_mono HO574.out (fun _ hk => ⟨hk.1.1, hk.1.2.1, hk.1.2.2.1, hk.1.2.2.2.1, hk.1.2.2.2.2.1, hk.1.2.2.2.2.2.1, hk.2, hk.1.2.2.2.2.2.2⟩)), (Kd.V_mono HO577.out (fun _ hk => ⟨hk.1.1, hk.1.2.1, hk.1.2.2.1, hk.1.2.2.2.1, hk.1.2.2.2.2.1, hk.1.2.2.2.2.2.1, hk.1.2.2.2.2.2.2.1, hk.2, hk.1.2.2.2.2.2.2.2.1, hk.1.2.2.2.2.2.2.2.2.1, hk.1.2.2.2.2.2.2.2.2.2⟩)), (Kd.V_mono HO580.out (fun _ hk => ⟨hk.1.1, hk.1.2.1, hk.1.2.2.1, hk.1.2.2.2.1, hk.1.2.2.2.2.1, hk.1.2.2.2.2.2.1, hk.1.2.2.2.2.2.2.1, hk.2, hk.1.2.2.2.2.2.2.2.1, hk.1.2.2.2.2.2.2.2.2.1, hk.1.2.2.2.2.2.2.2.2.2⟩)), (Kd.R_mono HO587.out (fun _ hk => ⟨hk.1.1, hk.1.2.1, hk.1.2.2.1, hk.1.2.2.2.1, hk.1.2.2.2.2.1, hk.1.2.2.2.2.2.1, hk.2, hk.1.2.2.2.2.2.2⟩)), (Kd.R_mono HO590.out (fun _ hk => ⟨hk.1.1, hk.1.2.1, hk.1.2.2.1, hk.1.2.2.2.1, hk.1.2.2.2.2.1, hk.1.2.2.2.2.2.1, hk.2, hk.1.2.2.2.2.2.2⟩)), (Kd.R_mono HO593.out (fun _ hk => ⟨hk.1.1, hk.1.2.1, hk.1.2.2.1, hk.1.2.2.2.1, hk.1.2.2.2.2.1, hk.1.2.2.2.2.2.1, hk.2, hk.1.2.2.2.2.2.2⟩)), (Kd.V_mono HO596.out (fun _ hk => ⟨hk.1.1, hk.1.2.1, hk.1.2.2.1, hk.1.2.2.2.1, hk.1.2.2.2.2.1, hk.1.2.2.2.2.2.1, hk.1.2.2.2.2.2.2.1, hk.2, hk.1.2.2.2.2.2.2.2.1, hk.1.2.2.2.2.2.2.2.2.1, hk.1.2.2.2.2.2.2.2.2.2⟩)), (Kd.V_mono HO599.out (fun _ hk => ⟨hk.1.1, hk.1.2.1, hk.1.2.2.1, hk.1.2.2.2.1, hk.1.2.2.2.2.1, hk.1.2.2.2.2.2.1, hk.1.2.2.2.2.2.2.1, hk.2, hk.1.2.2.2.2.2.2.2.1, hk.1.2.2.2.2.2.2.2.2.1, hk.1.2.2.2.2.2.2.2.2.2⟩)), (Kd.R_mono HO605.out (fun _ hk => ⟨hk.1.1, hk.1.2.1, hk.1.2.2.1, hk.1.2.2.2.1, hk.1.2.2.2.2.1, hk.1.2.2.2.2.2.1, hk.2, hk.1.2.2.2.2.2.2⟩)), (Kd.R_mono HO613.out (fun _ hk => ⟨hk.1.1.1.1.1.1.1.2, hk.1.1.1.1.1.1.2, hk.1.1.1.1.1.2, hk.1.1.1.1.2, hk.1.1.1.2, hk.1.1.2, hk.1.2, hk.2⟩)), (Kd.R_mono HO616.out (fun _ hk => ⟨hk.1.1, hk.1.2.1, hk.1.2.2.1, hk.1.2.2.2.1, hk.1.2.2.2.2.1, hk.1.2.2.2.2.2.1, hk.1.2.2.2.2.2.2, hk.2⟩)), BK581.out, BK601.out, (by repeat (first | (with_reducible first | exact HB.out | apply below_alloc | apply pw_below_drewN | apply below_drew1 | refine below_set ?_ GE581.out | refine below_set ?_ GE601.out) | exact HB.out))⟩)
         ·skip
          rintro v612 w72 ⟨hS_, h0_, h1_, h2_, h3_, h4_, h5_, h6_, h7_, h8_, h9_, h10_, h11_, h12_, h13_, h14_, h15_⟩
          have n0_ := Aside0.mk h0_
          have n1_ := Aside0.mk h1_
          have n2_ := Aside0.mk h2_
          have n3_ := Aside0.mk h3_
          have n4_ := Aside0.mk h4_
          have n5_ := Aside0.mk h5_
          have n6_ := Aside0.mk h6_
          have n7_ := Aside0.mk h7_
          have n8_ := Aside0.mk h8_
          have n9_ := Aside0.mk h9_
          have n10_ := Aside0.mk h10_
          have n11_ := Aside0.mk h11_
          have n12_ := Aside0.mk h12_
          have n13_ := Aside0.mk h13_
          have n14_ := Aside0.mk h14_
          have n15_ := Aside0.mk h15_
          clear HO565
          clear HO568
          clear HO571
          clear HO574
          clear HO577
          clear HO580
          clear HO587
          clear HO590
          clear HO593
          clear HO596
          clear HO599
          clear BK581
          clear BK601
          clear HB
          clear h0_ h1_ h2_ h3_ h4_ h5_ h6_ h7_ h8_ h9_ h10_ h11_ h12_ h13_ h14_ h15_
          have HO565 := n0_
          have HO568 := n1_
          have HO571 := n2_
          have HO574 := n3_
          have HO577 := n4_
          have HO580 := n5_
          have HO587 := n6_
          have HO590 := n7_
          have HO593 := n8_
          have HO596 := n9_
          have HO599 := n10_
          have HO605 := n11_
          have HO613 := n12_
          have BK581 := n13_
          have BK601 := n14_
          have HB := n15_
          clear n0_ n1_ n2_ n3_ n4_ n5_ n6_ n7_ n8_ n9_ n10_ n11_ n12_ n13_ n14_ n15_
          have hHeld : w72.cell? ⟨gb581, 0, none⟩ = some (.slice Ao44 t578.length co44) ∧ w72.cell? ⟨gb601, 0, none⟩ = some (.slice Ao61 t597.length co61) := hS_
          refine norm_ (a' := ?_) ?_ ?_
          rotate_left
          ·simp only [putAll, Act.put, List.setIfInBounds_toArray, List.set_cons_zero, List.set_cons_succ]
           rfl
          refine two_ (i := 18) (j := 22) (Ni := some 49) (Nj := some 53) (fl 22 38 []) (fl 18 38 [19, 20, 21, 22]) rfl rfl rfl rfl (two_of HT_.out (by kernel_rfl)) (by decide) (by decide) (fun K hK => ?_) (fun K hK => ?_)
          ·skip
           refine goes_ Try.func24 (by kernel_rfl) rfl #[.agg #[.slice Ao44 t578.length co44], .agg #[.slice Ao44 t578.length co44]] (by rfl) rfl rfl (by (try simp only [List.map_toArray, List.map_cons, List.map_nil]); first | done | rfl | (simp only [List.length_drop, List.length_take]; rfl)) ?_
           with_reducible refine (nat_Nat_Mul.calls k _ _ t578 _ _ t578 t608 _ ?side1 ?side2 ?side3 ?side4 A19.out).mono ?_
           (case side1 => exact cv HO580.out)
           (case side2 => exact (Kd.V_reads' HO580.out).2.1)
           (case side3 => exact cv HO580.out)
           (case side4 => exact (Kd.V_reads' HO580.out).2.1)
           rintro e w73 ⟨v609, rfl, ho0, hb⟩
           refine ⟨_, rfl, ?_⟩
           have n0_ := Aside0.mk (rb HO565.out hb)
           have n1_ := Aside0.mk (rb HO568.out hb)
           have n2_ := Aside0.mk (vb HO571.out hb)
           have n3_ := Aside0.mk (rb HO574.out hb)
           have n4_ := Aside0.mk (vb HO577.out hb)
           have n5_ := Aside0.mk (vb HO580.out hb)
           have n6_ := Aside0.mk (rb HO587.out hb)
           have n7_ := Aside0.mk (rb HO590.out hb)
           have n8_ := Aside0.mk (rb HO593.out hb)
           have n9_ := Aside0.mk (vb HO596.out hb)
           have n10_ := Aside0.mk (vb HO599.out hb)
           have n11_ := Aside0.mk (rb HO605.out hb)
           have n12_ := Aside0.mk (rb HO613.out hb)
           have n13_ := Aside0.mk (Kd.V_lower (Kd.V_mono (ok' := fun k_ => OB Ao32 y563 co32 k_ ∧ OB Ao34 t566 co34 k_ ∧ OB Ao38 y572 co38 k_ ∧ OB Ao51 y585 co51 k_ ∧ OB Ao63 y588 co63 k_ ∧ some k_ ≠ (v592 : Value).ownBlock ∧ OB Ao68 t603 co68 k_ ∧ some k_ ≠ (v612 : Value).ownBlock ∧ k_ ≠ gb581 ∧ k_ ≠ gb601) ho0 (fun k_ hk_ => ⟨(Kd.fresh' (Kd.R_lt HO565.out) k_ hk_), (Kd.fresh' (Kd.R_lt HO568.out) k_ hk_), (Kd.fresh' (Kd.R_lt HO574.out) k_ hk_), (Kd.fresh' (Kd.R_lt HO587.out) k_ hk_), (Kd.fresh' (Kd.R_lt HO590.out) k_ hk_), (Kd.fresh' (Kd.R_lt HO593.out) k_ hk_), (Kd.fresh' (Kd.R_lt HO605.out) k_ hk_), (Kd.fresh' (Kd.R_lt HO613.out) k_ hk_), (fb BK581.out k_ hk_), (fb BK601.out k_ hk_)⟩)) (bz HB.out))
           have n14_ := Aside0.mk (bb BK581.out hb)
           have n15_ := Aside0.mk (bb BK601.out hb)
           have n16_ := Aside0.mk (bs HB.out hb)
           clear HO565
           clear HO568
           clear HO571
           clear HO574
           clear HO577
           clear HO580
           clear HO587
           clear HO590
           clear HO593
           clear HO596
           clear HO599
           clear HO605
           clear HO613
           clear BK581
           clear BK601
           clear HB
           have HO565 := n0_
           have HO568 := n1_
           have HO571 := n2_
           have HO574 := n3_
           have HO577 := n4_
           have HO580 := n5_
           have HO587 := n6_
           have HO590 := n7_
           have HO593 := n8_
           have HO596 := n9_
           have HO599 := n10_
           have HO605 := n11_
           have HO613 := n12_
           have HO610 := n13_
           have BK581 := n14_
           have BK601 := n15_
           have HB := n16_
           clear n0_ n1_ n2_ n3_ n4_ n5_ n6_ n7_ n8_ n9_ n10_ n11_ n12_ n13_ n14_ n15_ n16_
           (try clear hb)
           (try clear hb2)
           (try clear hk)
           (try clear hi)
           (try clear ho0)
           refine hK.out _ _ ⟨(blk_cell BK581.out 0).trans rfl, (blk_cell BK601.out 0).trans rfl⟩ (fun hHeld => ?_)
           clear hK K
           refine norm_ (a' := ?_) ?_ ?_
           rotate_left
           ·show Act.put _ (some 49) _ = _
            simp only [Act.put, List.setIfInBounds_toArray, List.set_cons_zero, List.set_cons_succ, i64_w, i32_w]
            rfl
           exact norm_ (by simp only [putAll, Act.put, List.setIfInBounds_toArray, List.set_cons_zero, List.set_cons_succ]; first | done | rfl) (hJ18_21 (v609, v612) _ ⟨hHeld, HO565.out, HO568.out, HO571.out, HO574.out, HO577.out, HO580.out, HO587.out, HO590.out, HO593.out, HO596.out, HO599.out, HO605.out, HO610.out, HO613.out, BK581.out, BK601.out, (by repeat (first | (with_reducible first | exact HB.out | apply below_alloc | apply pw_below_drewN | apply below_drew1 | refine below_set ?_ GE581.out | refine below_set ?_ GE601.out) | exact HB.out))⟩)
          ·skip
           refine Kd.R_lit_step (Kd.int .u64) _ 27 ?hg (N := 53) ?hd (xs := ([1] : List Int)) (inner := [.int .u64 1]) (ok := fun _ => True) (okp := fun _ => True) ?hr ?hp (fun _ hk => hk) trivial (Below.refl _ _) (Nat.le_refl _) (by simp) ?_; (case hd => rfl); (case hg => rfl); (case hr => first | (go_simp; done) | (go_simp; rfl)); (case hp => exact (Reps.one (show Kd.M (Kd.int .u64) _ _ _ 1 [.int .u64 1] from rfl) (Reps.none _ _)))
           intro v615 w73 ho74 hb hg_ hnew_
           clear hg_ hnew_
           (first | rw [← Ny614.out] at ho74 | (simp only [Int.reduceToNat] at ho74; rw [← Ny614.out] at ho74))
           have n0_ := Aside0.mk (Kd.R_elder' HO565.out (Kd.R_base ho74) hb)
           have n1_ := Aside0.mk (Kd.R_elder' HO568.out (Kd.R_base ho74) hb)
           have n2_ := Aside0.mk (Kd.V_elder' HO571.out (Kd.R_base ho74) hb)
           have n3_ := Aside0.mk (Kd.R_elder' HO574.out (Kd.R_base ho74) hb)
           have n4_ := Aside0.mk (Kd.V_elder' HO577.out (Kd.R_base ho74) hb)
           have n5_ := Aside0.mk (Kd.V_elder' HO580.out (Kd.R_base ho74) hb)
           have n6_ := Aside0.mk (Kd.R_elder' HO587.out (Kd.R_base ho74) hb)
           have n7_ := Aside0.mk (Kd.R_elder' HO590.out (Kd.R_base ho74) hb)
           have n8_ := Aside0.mk (Kd.R_elder' HO593.out (Kd.R_base ho74) hb)
           have n9_ := Aside0.mk (Kd.V_elder' HO596.out (Kd.R_base ho74) hb)
           have n10_ := Aside0.mk (Kd.V_elder' HO599.out (Kd.R_base ho74) hb)
           have n11_ := Aside0.mk (Kd.R_elder' HO605.out (Kd.R_base ho74) hb)
           have n12_ := Aside0.mk (Kd.R_elder' HO613.out (Kd.R_base ho74) hb)
           have n13_ := Aside0.mk (Kd.R_lower (Kd.R_new' (Kd.R_new' (Kd.R_new' (Kd.R_new' (Kd.R_new' (Kd.R_new' (Kd.R_new' (Kd.R_new' ho74 (Kd.R_lt HO565.out)) (Kd.R_lt HO568.out)) (Kd.R_lt HO574.out)) (Kd.R_lt HO587.out)) (Kd.R_lt HO590.out)) (Kd.R_lt HO593.out)) (Kd.R_lt HO605.out)) (Kd.R_lt HO613.out)) (bz HB.out))
           have n14_ := Aside0.mk (bb BK581.out hb)
           have n15_ := Aside0.mk (bb BK601.out hb)
           have n16_ := Aside0.mk (bs HB.out hb)
           clear HO565
           clear HO568
           clear HO571
           clear HO574
           clear HO577
           clear HO580
           clear HO587
           clear HO590
           clear HO593
           clear HO596
           clear HO599
           clear HO605
           clear HO613
           clear BK581
           clear BK601
           clear HB
           have HO565 := n0_
           have HO568 := n1_
           have HO571 := n2_
           have HO574 := n3_
           have HO577 := n4_
           have HO580 := n5_
           have HO587 := n6_
           have HO590 := n7_
           have HO593 := n8_
           have HO596 := n9_
           have HO599 := n10_
           have HO605 := n11_
           have HO613 := n12_
           have HO616 := n13_
           have BK581 := n14_
           have BK601 := n15_
           have HB := n16_
           clear n0_ n1_ n2_ n3_ n4_ n5_ n6_ n7_ n8_ n9_ n10_ n11_ n12_ n13_ n14_ n15_ n16_
           clear hb ho74
           refine hK.out _ _ ⟨(blk_cell BK581.out 0).trans rfl, (blk_cell BK601.out 0).trans rfl⟩ (fun hHeld => ?_)
           clear hK K
           refine norm_ (a' := ?_) ?_ ?_
           rotate_left
           ·show Act.put _ (some 53) _ = _
            simp only [Act.put, List.setIfInBounds_toArray, List.set_cons_zero, List.set_cons_succ, i64_w, i32_w]
            rfl
           exact norm_ (by simp only [putAll, Act.put, List.setIfInBounds_toArray, List.set_cons_zero, List.set_cons_succ]; first | done | rfl) (hJ21_22 (v612, v615) _ ⟨hHeld, (Kd.R_mono HO565.out (fun _ hk => ⟨hk.1.1, hk.1.2.1, hk.1.2.2.1, hk.1.2.2.2.1, hk.1.2.2.2.2.1, hk.1.2.2.2.2.2.1, hk.1.2.2.2.2.2.2, hk.2⟩)), (Kd.R_mono HO568.out (fun _ hk => ⟨hk.1.1, hk.1.2.1, hk.1.2.2.1, hk.1.2.2.2.1, hk.1.2.2.2.2.1, hk.1.2.2.2.2.2.1, hk.1.2.2.2.2.2.2, hk.2⟩)), (Kd.V_mono HO571.out (fun _ hk => ⟨hk.1.1, hk.1.2.1, hk.1.2.2.1, hk.1.2.2.2.1, hk.1.2.2.2.2.1, hk.1.2.2.2.2.2.1, hk.1.2.2.2.2.2.2.1, hk.1.2.2.2.2.2.2.2.1, hk.2, hk.1.2.2.2.2.2.2.2.2.1, hk.1.2.2.2.2.2.2.2.2.2⟩)), (Kd.R_mono HO574.out (fun _ hk => ⟨hk.1.1, hk.1.2.1, hk.1.2.2.1, hk.1.2.2.2.1, hk.1.2.2.2.2.1, hk.1.2.2.2.2.2.1, hk.1.2.2.2.2.2.2, hk.2⟩)), (Kd.V_mono HO577.out (fun _ hk => ⟨hk.1.1, hk.1.2.1, hk.1.2.2.1, hk.1.2.2.2.1, hk.1.2.2.2.2.1, hk.1.2.2.2.2.2.1, hk.1.2.2.2.2.2.2.1, hk.1.2.2.2.2.2.2.2.1, hk.2, hk.1.2.2.2.2.2.2.2.2.1, hk.1.2.2.2.2.2.2.2.2.2⟩)), (Kd.V_mono HO580.out (fun _ hk => ⟨hk.1.1, hk.1.2.1, hk.1.2.2.1, hk.1.2.2.2.1, hk.1.2.2.2.2.1, hk.1.2.2.2.2.2.1, hk.1.2.2.2.2.2.2.1, hk.1.2.2.2.2.2.2.2.1, hk.2, hk.1.2.2.2.2.2.2.2.2.1, hk.1.2.2.2.2.2.2.2.2.2⟩)), (Kd.R_mono HO587.out (fun _ hk => ⟨hk.1.1, hk.1.2.1, hk.1.2.2.1, hk.1.2.2.2.1, hk.1.2.2.2.2.1, hk.1.2.2.2.2.2.1, hk.1.2.2.2.2.2.2, hk.2⟩)), (Kd.R_mono HO590.out (fun _ hk => ⟨hk.1.1, hk.1.2.1, hk.1.2.2.1, hk.1.2.2.2.1, hk.1.2.2.2.2.1, hk.1.2.2.2.2.2.1, hk.1.2.2.2.2.2.2, hk.2⟩)), (Kd.R_mono HO593.out (fun _ hk => ⟨hk.1.1, hk.1.2.1, hk.1.2.2.1, hk.1.2.2.2.1, hk.1.2.2.2.2.1, hk.1.2.2.2.2.2.1, hk.1.2.2.2.2.2.2, hk.2⟩)), (Kd.V_mono HO596.out (fun _ hk => ⟨hk.1.1, hk.1.2.1, hk.1.2.2.1, hk.1.2.2.2.1, hk.1.2.2.2.2.1, hk.1.2.2.2.2.2.1, hk.1.2.2.2.2.2.2.1, hk.1.2.2.2.2.2.2.2.1, hk.2, hk.1.2.2.2.2.2.2.2.2.1, hk.1.2.2.2.2.2.2.2.2.2⟩)), (Kd.V_mono HO599.out (fun _ hk => ⟨hk.1.1, hk.1.2.1, hk.1.2.2.1, hk.1.2.2.2.1, hk.1.2.2.2.2.1, hk.1.2.2.2.2.2.1, hk.1.2.2.2.2.2.2.1, hk.1.2.2.2.2.2.2.2.1, hk.2, hk.1.2.2.2.2.2.2.2.2.1, hk.1.2.2.2.2.2.2.2.2.2⟩)), (Kd.R_mono HO605.out (fun _ hk => ⟨hk.1.1, hk.1.2.1, hk.1.2.2.1, hk.1.2.2.2.1, hk.1.2.2.2.2.1, hk.1.2.2.2.2.2.1, hk.1.2.2.2.2.2.2, hk.2⟩)), (Kd.R_mono HO613.out (fun _ hk => ⟨hk.1.1, hk.1.2.1, hk.1.2.2.1, hk.1.2.2.2.1, hk.1.2.2.2.2.1, hk.1.2.2.2.2.2.1, hk.1.2.2.2.2.2.2, hk.2⟩)), (Kd.R_mono HO616.out (fun _ hk => ⟨hk.1.1.1.1.1.1.1.2, hk.1.1.1.1.1.1.2, hk.1.1.1.1.1.2, hk.1.1.1.1.2, hk.1.1.1.2, hk.1.1.2, hk.1.2, hk.2⟩)), BK581.out, BK601.out, (by repeat (first | (with_reducible first | exact HB.out | apply below_alloc | apply pw_below_drewN | apply below_drew1 | refine below_set ?_ GE581.out | refine below_set ?_ GE601.out) | exact HB.out))⟩)
        ·skip
         rintro v609 w71 ⟨hS_, h0_, h1_, h2_, h3_, h4_, h5_, h6_, h7_, h8_, h9_, h10_, h11_, h12_, h13_, h14_, h15_⟩
         have n0_ := Aside0.mk h0_
         have n1_ := Aside0.mk h1_
         have n2_ := Aside0.mk h2_
         have n3_ := Aside0.mk h3_
         have n4_ := Aside0.mk h4_
         have n5_ := Aside0.mk h5_
         have n6_ := Aside0.mk h6_
         have n7_ := Aside0.mk h7_
         have n8_ := Aside0.mk h8_
         have n9_ := Aside0.mk h9_
         have n10_ := Aside0.mk h10_
         have n11_ := Aside0.mk h11_
         have n12_ := Aside0.mk h12_
         have n13_ := Aside0.mk h13_
         have n14_ := Aside0.mk h14_
         have n15_ := Aside0.mk h15_
         clear HO565
         clear HO568
         clear HO571
         clear HO574
         clear HO577
         clear HO580
         clear HO587
         clear HO590
         clear HO593
         clear HO596
         clear HO599
         clear BK581
         clear BK601
         clear HB
         clear h0_ h1_ h2_ h3_ h4_ h5_ h6_ h7_ h8_ h9_ h10_ h11_ h12_ h13_ h14_ h15_
         have HO565 := n0_
         have HO568 := n1_
         have HO571 := n2_
         have HO574 := n3_
         have HO577 := n4_
         have HO580 := n5_
         have HO587 := n6_
         have HO590 := n7_
         have HO593 := n8_
         have HO596 := n9_
         have HO599 := n10_
         have HO605 := n11_
         have HO610 := n12_
         have BK581 := n13_
         have BK601 := n14_
         have HB := n15_
         clear n0_ n1_ n2_ n3_ n4_ n5_ n6_ n7_ n8_ n9_ n10_ n11_ n12_ n13_ n14_ n15_
         have hHeld : w71.cell? ⟨gb581, 0, none⟩ = some (.slice Ao44 t578.length co44) ∧ w71.cell? ⟨gb601, 0, none⟩ = some (.slice Ao61 t597.length co61) := hS_
         refine norm_ (a' := ?_) ?_ ?_
         rotate_left
         ·simp only [putAll, Act.put, List.setIfInBounds_toArray, List.set_cons_zero, List.set_cons_succ]
          rfl
         refine two_ (i := 21) (j := 22) (Ni := some 52) (Nj := some 53) (fl 22 38 []) (fl 21 38 [22]) rfl rfl rfl rfl (two_of HT_.out (by kernel_rfl)) (by decide) (by decide) (fun K hK => ?_) (fun K hK => ?_)
         ·skip
          refine Kd.R_make_step (Kd.int .u64) _ 27 (by rfl) (N := 52) rfl 22 _ _ rfl ji20 rfl rfl Try.underlying22 (.int .u64 0) 8 info27 rfl (by decide) (by omega) 0 (ok := fun _ => True) (okp := fun _ => True) rfl (fun _ hk => hk) trivial (of_decide_eq_true (by first | (with_reducible assumption) | assumption)) (Nat.le_trans (Nat.mul_le_mul_right _ (of_decide_eq_true (by first | (with_reducible assumption) | assumption) : ji20.toNat ≤ 35184372088832)) (by omega)) (Below.refl _ _) (Nat.le_refl _) ?_
          intro v612 w72 ho73 hb hg_ hnew_
          clear hg_ hnew_
          (first | rw [← Ny611.out] at ho73 | (simp only [Int.reduceToNat] at ho73; rw [← Ny611.out] at ho73))
          have n0_ := Aside0.mk (Kd.R_elder' HO565.out (Kd.R_base ho73) hb)
          have n1_ := Aside0.mk (Kd.R_elder' HO568.out (Kd.R_base ho73) hb)
          have n2_ := Aside0.mk (Kd.V_elder' HO571.out (Kd.R_base ho73) hb)
          have n3_ := Aside0.mk (Kd.R_elder' HO574.out (Kd.R_base ho73) hb)
          have n4_ := Aside0.mk (Kd.V_elder' HO577.out (Kd.R_base ho73) hb)
          have n5_ := Aside0.mk (Kd.V_elder' HO580.out (Kd.R_base ho73) hb)
          have n6_ := Aside0.mk (Kd.R_elder' HO587.out (Kd.R_base ho73) hb)
          have n7_ := Aside0.mk (Kd.R_elder' HO590.out (Kd.R_base ho73) hb)
          have n8_ := Aside0.mk (Kd.R_elder' HO593.out (Kd.R_base ho73) hb)
          have n9_ := Aside0.mk (Kd.V_elder' HO596.out (Kd.R_base ho73) hb)
          have n10_ := Aside0.mk (Kd.V_elder' HO599.out (Kd.R_base ho73) hb)
          have n11_ := Aside0.mk (Kd.R_elder' HO605.out (Kd.R_base ho73) hb)
          have n12_ := Aside0.mk (Kd.V_elder' HO610.out (Kd.R_base ho73) hb)
          have n13_ := Aside0.mk (Kd.R_lower (Kd.R_new' (Kd.R_new' (Kd.R_new' (Kd.R_new' (Kd.R_new' (Kd.R_new' (Kd.R_new' ho73 (Kd.R_lt HO565.out)) (Kd.R_lt HO568.out)) (Kd.R_lt HO574.out)) (Kd.R_lt HO587.out)) (Kd.R_lt HO590.out)) (Kd.R_lt HO593.out)) (Kd.R_lt HO605.out)) (bz HB.out))
          have n14_ := Aside0.mk (bb BK581.out hb)
          have n15_ := Aside0.mk (bb BK601.out hb)
          have n16_ := Aside0.mk (bs HB.out hb)
          clear HO565
          clear HO568
          clear HO571
          clear HO574
          clear HO577
          clear HO580
          clear HO587
          clear HO590
          clear HO593
          clear HO596
          clear HO599
          clear HO605
          clear HO610
          clear BK581
          clear BK601
          clear HB
          have HO565 := n0_
          have HO568 := n1_
          have HO571 := n2_
          have HO574 := n3_
          have HO577 := n4_
          have HO580 := n5_
          have HO587 := n6_
          have HO590 := n7_
          have HO593 := n8_
          have HO596 := n9_
          have HO599 := n10_
          have HO605 := n11_
          have HO610 := n12_
          have HO613 := n13_
          have BK581 := n14_
          have BK601 := n15_
          have HB := n16_
          clear n0_ n1_ n2_ n3_ n4_ n5_ n6_ n7_ n8_ n9_ n10_ n11_ n12_ n13_ n14_ n15_ n16_
          clear hb ho73
          refine hK.out _ _ ⟨(blk_cell BK581.out 0).trans rfl, (blk_cell BK601.out 0).trans rfl⟩ (fun hHeld => ?_)
          clear hK K
          refine norm_ (a' := ?_) ?_ ?_
          rotate_left
          ·show Act.put _ (some 52) _ = _
           simp only [Act.put, List.setIfInBounds_toArray, List.set_cons_zero, List.set_cons_succ, i64_w, i32_w]
           rfl
          exact norm_ (by simp only [putAll, Act.put, List.setIfInBounds_toArray, List.set_cons_zero, List.set_cons_succ]; first | done | rfl) (hJ18_21 (v609, v612) _ ⟨hHeld, (Kd.R_mono HO565.out (fun _ hk => ⟨hk.1.1, hk.1.2.1, hk.1.2.2.1, hk.1.2.2.2.1, hk.1.2.2.2.2.1, hk.1.2.2.2.2.2, hk.2⟩)), (Kd.R_mono HO568.out (fun _ hk => ⟨hk.1.1, hk.1.2.1, hk.1.2.2.1, hk.1.2.2.2.1, hk.1.2.2.2.2.1, hk.1.2.2.2.2.2, hk.2⟩)), (Kd.V_mono HO571.out (fun _ hk => ⟨hk.1.1, hk.1.2.1, hk.1.2.2.1, hk.1.2.2.2.1, hk.1.2.2.2.2.1, hk.1.2.2.2.2.2.1, hk.1.2.2.2.2.2.2.1, hk.2, hk.1.2.2.2.2.2.2.2.1, hk.1.2.2.2.2.2.2.2.2⟩)), (Kd.R_mono HO574.out (fun _ hk => ⟨hk.1.1, hk.1.2.1, hk.1.2.2.1, hk.1.2.2.2.1, hk.1.2.2.2.2.1, hk.1.2.2.2.2.2, hk.2⟩)), (Kd.V_mono HO577.out (fun _ hk => ⟨hk.1.1, hk.1.2.1, hk.1.2.2.1, hk.1.2.2.2.1, hk.1.2.2.2.2.1, hk.1.2.2.2.2.2.1, hk.1.2.2.2.2.2.2.1, hk.2, hk.1.2.2.2.2.2.2.2.1, hk.1.2.2.2.2.2.2.2.2⟩)), (Kd.V_mono HO580.out (fun _ hk => ⟨hk.1.1, hk.1.2.1, hk.1.2.2.1, hk.1.2.2.2.1, hk.1.2.2.2.2.1, hk.1.2.2.2.2.2.1, hk.1.2.2.2.2.2.2.1, hk.2, hk.1.2.2.2.2.2.2.2.1, hk.1.2.2.2.2.2.2.2.2⟩)), (Kd.R_mono HO587.out (fun _ hk => ⟨hk.1.1, hk.1.2.1, hk.1.2.2.1, hk.1.2.2.2.1, hk.1.2.2.2.2.1, hk.1.2.2.2.2.2, hk.2⟩)), (Kd.R_mono HO590.out (fun _ hk => ⟨hk.1.1, hk.1.2.1, hk.1.2.2.1, hk.1.2.2.2.1, hk.1.2.2.2.2.1, hk.1.2.2.2.2.2, hk.2⟩)), (Kd.R_mono HO593.out (fun _ hk => ⟨hk.1.1, hk.1.2.1, hk.1.2.2.1, hk.1.2.2.2.1, hk.1.2.2.2.2.1, hk.1.2.2.2.2.2, hk.2⟩)), (Kd.V_mono HO596.out (fun _ hk => ⟨hk.1.1, hk.1.2.1, hk.1.2.2.1, hk.1.2.2.2.1, hk.1.2.2.2.2.1, hk.1.2.2.2.2.2.1, hk.1.2.2.2.2.2.2.1, hk.2, hk.1.2.2.2.2.2.2.2.1, hk.1.2.2.2.2.2.2.2.2⟩)), (Kd.V_mono HO599.out (fun _ hk => ⟨hk.1.1, hk.1.2.1, hk.1.2.2.1, hk.1.2.2.2.1, hk.1.2.2.2.2.1, hk.1.2.2.2.2.2.1, hk.1.2.2.2.2.2.2.1, hk.2, hk.1.2.2.2.2.2.2.2.1, hk.1.2.2.2.2.2.2.2.2⟩)), (Kd.R_mono HO605.out (fun _ hk => ⟨hk.1.1, hk.1.2.1, hk.1.2.2.1, hk.1.2.2.2.1, hk.1.2.2.2.2.1, hk.1.2.2.2.2.2, hk.2⟩)), (Kd.V_mono HO610.out (fun _ hk => ⟨hk.1.1, hk.1.2.1, hk.1.2.2.1, hk.1.2.2.2.1, hk.1.2.2.2.2.1, hk.1.2.2.2.2.2.1, hk.1.2.2.2.2.2.2.1, hk.2, hk.1.2.2.2.2.2.2.2.1, hk.1.2.2.2.2.2.2.2.2⟩)), (Kd.R_mono HO613.out (fun _ hk => ⟨hk.1.1.1.1.1.1.2, hk.1.1.1.1.1.2, hk.1.1.1.1.2, hk.1.1.1.2, hk.1.1.2, hk.1.2, hk.2⟩)), BK581.out, BK601.out, (by repeat (first | (with_reducible first | exact HB.out | apply below_alloc | apply pw_below_drewN | apply below_drew1 | refine below_set ?_ GE581.out | refine below_set ?_ GE601.out) | exact HB.out))⟩)
         ·skip
          refine Kd.R_lit_step (Kd.int .u64) _ 27 ?hg (N := 53) ?hd (xs := ([1] : List Int)) (inner := [.int .u64 1]) (ok := fun _ => True) (okp := fun _ => True) ?hr ?hp (fun _ hk => hk) trivial (Below.refl _ _) (Nat.le_refl _) (by simp) ?_; (case hd => rfl); (case hg => rfl); (case hr => first | (go_simp; done) | (go_simp; rfl)); (case hp => exact (Reps.one (show Kd.M (Kd.int .u64) _ _ _ 1 [.int .u64 1] from rfl) (Reps.none _ _)))
          intro v615 w72 ho73 hb hg_ hnew_
          clear hg_ hnew_
          (first | rw [← Ny614.out] at ho73 | (simp only [Int.reduceToNat] at ho73; rw [← Ny614.out] at ho73))
          have n0_ := Aside0.mk (Kd.R_elder' HO565.out (Kd.R_base ho73) hb)
          have n1_ := Aside0.mk (Kd.R_elder' HO568.out (Kd.R_base ho73) hb)
          have n2_ := Aside0.mk (Kd.V_elder' HO571.out (Kd.R_base ho73) hb)
          have n3_ := Aside0.mk (Kd.R_elder' HO574.out (Kd.R_base ho73) hb)
          have n4_ := Aside0.mk (Kd.V_elder' HO577.out (Kd.R_base ho73) hb)
          have n5_ := Aside0.mk (Kd.V_elder' HO580.out (Kd.R_base ho73) hb)
          have n6_ := Aside0.mk (Kd.R_elder' HO587.out (Kd.R_base ho73) hb)
          have n7_ := Aside0.mk (Kd.R_elder' HO590.out (Kd.R_base ho73) hb)
          have n8_ := Aside0.mk (Kd.R_elder' HO593.out (Kd.R_base ho73) hb)
          have n9_ := Aside0.mk (Kd.V_elder' HO596.out (Kd.R_base ho73) hb)
          have n10_ := Aside0.mk (Kd.V_elder' HO599.out (Kd.R_base ho73) hb)
          have n11_ := Aside0.mk (Kd.R_elder' HO605.out (Kd.R_base ho73) hb)
          have n12_ := Aside0.mk (Kd.V_elder' HO610.out (Kd.R_base ho73) hb)
          have n13_ := Aside0.mk (Kd.R_lower (Kd.R_new' (Kd.R_new' (Kd.R_new' (Kd.R_new' (Kd.R_new' (Kd.R_new' (Kd.R_new' ho73 (Kd.R_lt HO565.out)) (Kd.R_lt HO568.out)) (Kd.R_lt HO574.out)) (Kd.R_lt HO587.out)) (Kd.R_lt HO590.out)) (Kd.R_lt HO593.out)) (Kd.R_lt HO605.out)) (bz HB.out))
          have n14_ := Aside0.mk (bb BK581.out hb)
          have n15_ := Aside0.mk (bb BK601.out hb)
          have n16_ := Aside0.mk (bs HB.out hb)
          clear HO565
          clear HO568
          clear HO571
          clear HO574
          clear HO577
          clear HO580
          clear HO587
          clear HO590
          clear HO593
          clear HO596
          clear HO599
          clear HO605
          clear HO610
          clear BK581
          clear BK601
          clear HB
          have HO565 := n0_
          have HO568 := n1_
          have HO571 := n2_
          have HO574 := n3_
          have HO577 := n4_
          have HO580 := n5_
          have HO587 := n6_
          have HO590 := n7_
          have HO593 := n8_
          have HO596 := n9_
          have HO599 := n10_
          have HO605 := n11_
          have HO610 := n12_
          have HO616 := n13_
          have BK581 := n14_
          have BK601 := n15_
          have HB := n16_
          clear n0_ n1_ n2_ n3_ n4_ n5_ n6_ n7_ n8_ n9_ n10_ n11_ n12_ n13_ n14_ n15_ n16_
          clear hb ho73
          refine hK.out _ _ ⟨(blk_cell BK581.out 0).trans rfl, (blk_cell BK601.out 0).trans rfl⟩ (fun hHeld => ?_)
          clear hK K
          refine norm_ (a' := ?_) ?_ ?_
          rotate_left
          ·show Act.put _ (some 53) _ = _
           simp only [Act.put, List.setIfInBounds_toArray, List.set_cons_zero, List.set_cons_succ, i64_w, i32_w]
           rfl
          exact norm_ (by simp only [putAll, Act.put, List.setIfInBounds_toArray, List.set_cons_zero, List.set_cons_succ]; first | done | rfl) (hJ18_22 (v609, v615) _ ⟨hHeld, (Kd.R_mono HO565.out (fun _ hk => ⟨hk.1.1, hk.1.2.1, hk.1.2.2.1, hk.1.2.2.2.1, hk.1.2.2.2.2.1, hk.1.2.2.2.2.2, hk.2⟩)), (Kd.R_mono HO568.out (fun _ hk => ⟨hk.1.1, hk.1.2.1, hk.1.2.2.1, hk.1.2.2.2.1, hk.1.2.2.2.2.1, hk.1.2.2.2.2.2, hk.2⟩)), (Kd.V_mono HO571.out (fun _ hk => ⟨hk.1.1, hk.1.2.1, hk.1.2.2.1, hk.1.2.2.2.1, hk.1.2.2.2.2.1, hk.1.2.2.2.2.2.1, hk.1.2.2.2.2.2.2.1, hk.2, hk.1.2.2.2.2.2.2.2.1, hk.1.2.2.2.2.2.2.2.2⟩)), (Kd.R_mono HO574.out (fun _ hk => ⟨hk.1.1, hk.1.2.1, hk.1.2.2.1, hk.1.2.2.2.1, hk.1.2.2.2.2.1, hk.1.2.2.2.2.2, hk.2⟩)), (Kd.V_mono HO577.out (fun _ hk => ⟨hk.1.1, hk.1.2.1, hk.1.2.2.1, hk.1.2.2.2.1, hk.1.2.2.2.2.1, hk.1.2.2.2.2.2.1, hk.1.2.2.2.2.2.2.1, hk.2, hk.1.2.2.2.2.2.2.2.1, hk.1.2.2.2.2.2.2.2.2⟩)), (Kd.V_mono HO580.out (fun _ hk => ⟨hk.1.1, hk.1.2.1, hk.1.2.2.1, hk.1.2.2.2.1, hk.1.2.2.2.2.1, hk.1.2.2.2.2.2.1, hk.1.2.2.2.2.2.2.1, hk.2, hk.1.2.2.2.2.2.2.2.1, hk.1.2.2.2.2.2.2.2.2⟩)), (Kd.R_mono HO587.out (fun _ hk => ⟨hk.1.1, hk.1.2.1, hk.1.2.2.1, hk.1.2.2.2.1, hk.1.2.2.2.2.1, hk.1.2.2.2.2.2, hk.2⟩)), (Kd.R_mono HO590.out (fun _ hk => ⟨hk.1.1, hk.1.2.1, hk.1.2.2.1, hk.1.2.2.2.1, hk.1.2.2.2.2.1, hk.1.2.2.2.2.2, hk.2⟩)), (Kd.R_mono HO593.out (fun _ hk => ⟨hk.1.1, hk.1.2.1, hk.1.2.2.1, hk.1.2.2.2.1, hk.1.2.2.2.2.1, hk.1.2.2.2.2.2, hk.2⟩)), (Kd.V_mono HO596.out (fun _ hk => ⟨hk.1.1, hk.1.2.1, hk.1.2.2.1, hk.1.2.2.2.1, hk.1.2.2.2.2.1, hk.1.2.2.2.2.2.1, hk.1.2.2.2.2.2.2.1, hk.2, hk.1.2.2.2.2.2.2.2.1, hk.1.2.2.2.2.2.2.2.2⟩)), (Kd.V_mono HO599.out (fun _ hk => ⟨hk.1.1, hk.1.2.1, hk.1.2.2.1, hk.1.2.2.2.1, hk.1.2.2.2.2.1, hk.1.2.2.2.2.2.1, hk.1.2.2.2.2.2.2.1, hk.2, hk.1.2.2.2.2.2.2.2.1, hk.1.2.2.2.2.2.2.2.2⟩)), (Kd.R_mono HO605.out (fun _ hk => ⟨hk.1.1, hk.1.2.1, hk.1.2.2.1, hk.1.2.2.2.1, hk.1.2.2.2.2.1, hk.1.2.2.2.2.2, hk.2⟩)), (Kd.V_mono HO610.out (fun _ hk => ⟨hk.1.1, hk.1.2.1, hk.1.2.2.1, hk.1.2.2.2.1, hk.1.2.2.2.2.1, hk.1.2.2.2.2.2.1, hk.1.2.2.2.2.2.2.1, hk.2, hk.1.2.2.2.2.2.2.2.1, hk.1.2.2.2.2.2.2.2.2⟩)), (Kd.R_mono HO616.out (fun _ hk => ⟨hk.1.1.1.1.1.1.2, hk.1.1.1.1.1.2, hk.1.1.1.1.2, hk.1.1.1.2, hk.1.1.2, hk.1.2, hk.2⟩)), BK581.out, BK601.out, (by repeat (first | (with_reducible first | exact HB.out | apply below_alloc | apply pw_below_drewN | apply below_drew1 | refine below_set ?_ GE581.out | refine below_set ?_ GE601.out) | exact HB.out))⟩)
       ·skip
        rintro ⟨v612, v615⟩ w74 ⟨hS_, h0_, h1_, h2_, h3_, h4_, h5_, h6_, h7_, h8_, h9_, h10_, h11_, h12_, h13_, h14_, h15_, h16_⟩
        have n0_ := Aside0.mk h0_
        have n1_ := Aside0.mk h1_
        have n2_ := Aside0.mk h2_
        have n3_ := Aside0.mk h3_
        have n4_ := Aside0.mk h4_
        have n5_ := Aside0.mk h5_
        have n6_ := Aside0.mk h6_
        have n7_ := Aside0.mk h7_
        have n8_ := Aside0.mk h8_
        have n9_ := Aside0.mk h9_
        have n10_ := Aside0.mk h10_
        have n11_ := Aside0.mk h11_
        have n12_ := Aside0.mk h12_
        have n13_ := Aside0.mk h13_
        have n14_ := Aside0.mk h14_
        have n15_ := Aside0.mk h15_
        have n16_ := Aside0.mk h16_
        clear HO565
        clear HO568
        clear HO571
        clear HO574
        clear HO577
        clear HO580
        clear HO587
        clear HO590
        clear HO593
        clear HO596
        clear HO599
        clear BK581
        clear BK601
        clear HB
        clear h0_ h1_ h2_ h3_ h4_ h5_ h6_ h7_ h8_ h9_ h10_ h11_ h12_ h13_ h14_ h15_ h16_
        have HO565 := n0_
        have HO568 := n1_
        have HO571 := n2_
        have HO574 := n3_
        have HO577 := n4_
        have HO580 := n5_
        have HO587 := n6_
        have HO590 := n7_
        have HO593 := n8_
        have HO596 := n9_
        have HO599 := n10_
        have HO605 := n11_
        have HO613 := n12_
        have HO616 := n13_
        have BK581 := n14_
        have BK601 := n15_
        have HB := n16_
        clear n0_ n1_ n2_ n3_ n4_ n5_ n6_ n7_ n8_ n9_ n10_ n11_ n12_ n13_ n14_ n15_ n16_
        have hHeld : w74.cell? ⟨gb581, 0, none⟩ = some (.slice Ao44 t578.length co44) ∧ w74.cell? ⟨gb601, 0, none⟩ = some (.slice Ao61 t597.length co61) := hS_
        refine norm_ (a' := ?_) ?_ ?_
        rotate_left
        ·simp only [putAll, Act.put, List.setIfInBounds_toArray, List.set_cons_zero, List.set_cons_succ]
         rfl
        refine one_ (i := 18) (N := some 49) (fl 23 38 []) rfl rfl (one_of HT_.out (by kernel_rfl)) (by decide) (fun K hK => ?_)
        refine goes_ Try.func24 (by kernel_rfl) rfl #[.agg #[.slice Ao44 t578.length co44], .agg #[.slice Ao44 t578.length co44]] (by rfl) rfl rfl (by (try simp only [List.map_toArray, List.map_cons, List.map_nil]); first | done | rfl | (simp only [List.length_drop, List.length_take]; rfl)) ?_
        with_reducible refine (nat_Nat_Mul.calls k _ _ t578 _ _ t578 t608 _ ?side1 ?side2 ?side3 ?side4 A19.out).mono ?_
        (case side1 => exact cv HO580.out)
        (case side2 => exact (Kd.V_reads' HO580.out).2.1)
        (case side3 => exact cv HO580.out)
        (case side4 => exact (Kd.V_reads' HO580.out).2.1)
        rintro e w75 ⟨v609, rfl, ho0, hb⟩
        refine ⟨_, rfl, ?_⟩
        have n0_ := Aside0.mk (rb HO565.out hb)
        have n1_ := Aside0.mk (rb HO568.out hb)
        have n2_ := Aside0.mk (vb HO571.out hb)
        have n3_ := Aside0.mk (rb HO574.out hb)
        have n4_ := Aside0.mk (vb HO577.out hb)
        have n5_ := Aside0.mk (vb HO580.out hb)
        have n6_ := Aside0.mk (rb HO587.out hb)
        have n7_ := Aside0.mk (rb HO590.out hb)
        have n8_ := Aside0.mk (rb HO593.out hb)
        have n9_ := Aside0.mk (vb HO596.out hb)
        have n10_ := Aside0.mk (vb HO599.out hb)
        have n11_ := Aside0.mk (rb HO605.out hb)
        have n12_ := Aside0.mk (rb HO613.out hb)
        have n13_ := Aside0.mk (rb HO616.out hb)
        have n14_ := Aside0.mk (Kd.V_lower (Kd.V_mono (ok' := fun k_ => OB Ao32 y563 co32 k_ ∧ OB Ao34 t566 co34 k_ ∧ OB Ao38 y572 co38 k_ ∧ OB Ao51 y585 co51 k_ ∧ OB Ao63 y588 co63 k_ ∧ some k_ ≠ (v592 : Value).ownBlock ∧ OB Ao68 t603 co68 k_ ∧ some k_ ≠ (v612 : Value).ownBlock ∧ some k_ ≠ (v615 : Value).ownBlock ∧ k_ ≠ gb581 ∧ k_ ≠ gb601) ho0 (fun k_ hk_ => ⟨(Kd.fresh' (Kd.R_lt HO565.out) k_ hk_), (Kd.fresh' (Kd.R_lt HO568.out) k_ hk_), (Kd.fresh' (Kd.R_lt HO574.out) k_ hk_), (Kd.fresh' (Kd.R_lt HO587.out) k_ hk_), (Kd.fresh' (Kd.R_lt HO590.out) k_ hk_), (Kd.fresh' (Kd.R_lt HO593.out) k_ hk_), (Kd.fresh' (Kd.R_lt HO605.out) k_ hk_), (Kd.fresh' (Kd.R_lt HO613.out) k_ hk_), (Kd.fresh' (Kd.R_lt HO616.out) k_ hk_), (fb BK581.out k_ hk_), (fb BK601.out k_ hk_)⟩)) (bz HB.out))
        have n15_ := Aside0.mk (bb BK581.out hb)
        have n16_ := Aside0.mk (bb BK601.out hb)
        have n17_ := Aside0.mk (bs HB.out hb)
        clear HO565
        clear HO568
        clear HO571
        clear HO574
        clear HO577
        clear HO580
        clear HO587
        clear HO590
        clear HO593
        clear HO596
        clear HO599
        clear HO605
        clear HO613
        clear HO616
        clear BK581
        clear BK601
        clear HB
        have HO565 := n0_
        have HO568 := n1_
        have HO571 := n2_
        have HO574 := n3_
        have HO577 := n4_
        have HO580 := n5_
        have HO587 := n6_
        have HO590 := n7_
        have HO593 := n8_
        have HO596 := n9_
        have HO599 := n10_
        have HO605 := n11_
        have HO613 := n12_
        have HO616 := n13_
        have HO610 := n14_
        have BK581 := n15_
        have BK601 := n16_
        have HB := n17_
        clear n0_ n1_ n2_ n3_ n4_ n5_ n6_ n7_ n8_ n9_ n10_ n11_ n12_ n13_ n14_ n15_ n16_ n17_
        (try clear hb)
        (try clear hb2)
        (try clear hk)
        (try clear hi)
        (try clear ho0)
        refine hK.out _ _ ⟨(blk_cell BK581.out 0).trans rfl, (blk_cell BK601.out 0).trans rfl⟩ (fun hHeld => ?_)
        clear hK K
        refine norm_ (a' := ?_) ?_ ?_
        rotate_left
        ·show Act.put _ (some 49) _ = _
         simp only [Act.put, List.setIfInBounds_toArray, List.set_cons_zero, List.set_cons_succ, i64_w, i32_w]
         rfl
        exact norm_ (by simp only [putAll, Act.put, List.setIfInBounds_toArray, List.set_cons_zero, List.set_cons_succ]; first | done | rfl) (hJ18_21_22 (v609, v612, v615) _ ⟨hHeld, HO565.out, HO568.out, HO571.out, HO574.out, HO577.out, HO580.out, HO587.out, HO590.out, HO593.out, HO596.out, HO599.out, HO605.out, HO610.out, HO613.out, HO616.out, BK581.out, BK601.out, (by repeat (first | (with_reducible first | exact HB.out | apply below_alloc | apply pw_below_drewN | apply below_drew1 | refine below_set ?_ GE581.out | refine below_set ?_ GE601.out) | exact HB.out))⟩)
      ·skip
       rintro ⟨v609, v615⟩ w73 ⟨hS_, h0_, h1_, h2_, h3_, h4_, h5_, h6_, h7_, h8_, h9_, h10_, h11_, h12_, h13_, h14_, h15_, h16_⟩
       have n0_ := Aside0.mk h0_
       have n1_ := Aside0.mk h1_
       have n2_ := Aside0.mk h2_
       have n3_ := Aside0.mk h3_
       have n4_ := Aside0.mk h4_
       have n5_ := Aside0.mk h5_
       have n6_ := Aside0.mk h6_
       have n7_ := Aside0.mk h7_
       have n8_ := Aside0.mk h8_
       have n9_ := Aside0.mk h9_
       have n10_ := Aside0.mk h10_
       have n11_ := Aside0.mk h11_
       have n12_ := Aside0.mk h12_
       have n13_ := Aside0.mk h13_
       have n14_ := Aside0.mk h14_
       have n15_ := Aside0.mk h15_
       have n16_ := Aside0.mk h16_
       clear HO565
       clear HO568
       clear HO571
       clear HO574
       clear HO577
       clear HO580
       clear HO587
       clear HO590
       clear HO593
       clear HO596
       clear HO599
       clear BK581
       clear BK601
       clear HB
       clear h0_ h1_ h2_ h3_ h4_ h5_ h6_ h7_ h8_ h9_ h10_ h11_ h12_ h13_ h14_ h15_ h16_
       have HO565 := n0_
       have HO568 := n1_
       have HO571 := n2_
       have HO574 := n3_
       have HO577 := n4_
       have HO580 := n5_
       have HO587 := n6_
       have HO590 := n7_
       have HO593 := n8_
       have HO596 := n9_
       have HO599 := n10_
       have HO605 := n11_
       have HO610 := n12_
       have HO616 := n13_
       have BK581 := n14_
       have BK601 := n15_
       have HB := n16_
       clear n0_ n1_ n2_ n3_ n4_ n5_ n6_ n7_ n8_ n9_ n10_ n11_ n12_ n13_ n14_ n15_ n16_
       have hHeld : w73.cell? ⟨gb581, 0, none⟩ = some (.slice Ao44 t578.length co44) ∧ w73.cell? ⟨gb601, 0, none⟩ = some (.slice Ao61 t597.length co61) := hS_
       refine norm_ (a' := ?_) ?_ ?_
       rotate_left
       ·simp only [putAll, Act.put, List.setIfInBounds_toArray, List.set_cons_zero, List.set_cons_succ]
        rfl
       refine one_ (i := 21) (N := some 52) (fl 23 38 []) rfl rfl (one_of HT_.out (by kernel_rfl)) (by decide) (fun K hK => ?_)
       refine Kd.R_make_step (Kd.int .u64) _ 27 (by rfl) (N := 52) rfl 22 _ _ rfl ji20 rfl rfl Try.underlying22 (.int .u64 0) 8 info27 rfl (by decide) (by omega) 0 (ok := fun _ => True) (okp := fun _ => True) rfl (fun _ hk => hk) trivial (of_decide_eq_true (by first | (with_reducible assumption) | assumption)) (Nat.le_trans (Nat.mul_le_mul_right _ (of_decide_eq_true (by first | (with_reducible assumption) | assumption) : ji20.toNat ≤ 35184372088832)) (by omega)) (Below.refl _ _) (Nat.le_refl _) ?_
       intro v612 w74 ho75 hb hg_ hnew_
       clear hg_ hnew_
       (first | rw [← Ny611.out] at ho75 | (simp only [Int.reduceToNat] at ho75; rw [← Ny611.out] at ho75))
       have n0_ := Aside0.mk (Kd.R_elder' HO565.out (Kd.R_base ho75) hb)
       have n1_ := Aside0.mk (Kd.R_elder' HO568.out (Kd.R_base ho75) hb)
       have n2_ := Aside0.mk (Kd.V_elder' HO571.out (Kd.R_base ho75) hb)
       have n3_ := Aside0.mk (Kd.R_elder' HO574.out (Kd.R_base ho75) hb)
       have n4_ := Aside0.mk (Kd.V_elder' HO577.out (Kd.R_base ho75) hb)
       have n5_ := Aside0.mk (Kd.V_elder' HO580.out (Kd.R_base ho75) hb)
       have n6_ := Aside0.mk (Kd.R_elder' HO587.out (Kd.R_base ho75) hb)
       have n7_ := Aside0.mk (Kd.R_elder' HO590.out (Kd.R_base ho75) hb)
       have n8_ := Aside0.mk (Kd.R_elder' HO593.out (Kd.R_base ho75) hb)
       have n9_ := Aside0.mk (Kd.V_elder' HO596.out (Kd.R_base ho75) hb)
       have n10_ := Aside0.mk (Kd.V_elder' HO599.out (Kd.R_base ho75) hb)
       have n11_ := Aside0.mk (Kd.R_elder' HO605.out (Kd.R_base ho75) hb)
       have n12_ := Aside0.mk (Kd.V_elder' HO610.out (Kd.R_base ho75) hb)
       have n13_ := Aside0.mk (Kd.R_elder' HO616.out (Kd.R_base ho75) hb)
       have n14_ := Aside0.mk (Kd.R_lower (Kd.R_new' (Kd.R_new' (Kd.R_new' (Kd.R_new' (Kd.R_new' (Kd.R_new' (Kd.R_new' (Kd.R_new' ho75 (Kd.R_lt HO565.out)) (Kd.R_lt HO568.out)) (Kd.R_lt HO574.out)) (Kd.R_lt HO587.out)) (Kd.R_lt HO590.out)) (Kd.R_lt HO593.out)) (Kd.R_lt HO605.out)) (Kd.R_lt HO616.out)) (bz HB.out))
       have n15_ := Aside0.mk (bb BK581.out hb)
       have n16_ := Aside0.mk (bb BK601.out hb)
       have n17_ := Aside0.mk (bs HB.out hb)
       clear HO565
       clear HO568
       clear HO571
       clear HO574
       clear HO577
       clear HO580
       clear HO587
       clear HO590
       clear HO593
       clear HO596
       clear HO599
       clear HO605
       clear HO610
       clear HO616
       clear BK581
       clear BK601
       clear HB
       have HO565 := n0_
       have HO568 := n1_
       have HO571 := n2_
       have HO574 := n3_
       have HO577 := n4_
       have HO580 := n5_
       have HO587 := n6_
       have HO590 := n7_
       have HO593 := n8_
       have HO596 := n9_
       have HO599 := n10_
       have HO605 := n11_
       have HO610 := n12_
       have HO616 := n13_
       have HO613 := n14_
       have BK581 := n15_
       have BK601 := n16_
       have HB := n17_
       clear n0_ n1_ n2_ n3_ n4_ n5_ n6_ n7_ n8_ n9_ n10_ n11_ n12_ n13_ n14_ n15_ n16_ n17_
       clear hb ho75
       refine hK.out _ _ ⟨(blk_cell BK581.out 0).trans rfl, (blk_cell BK601.out 0).trans rfl⟩ (fun hHeld => ?_)
       clear hK K
       refine norm_ (a' := ?_) ?_ ?_
       rotate_left
       ·show Act.put _ (some 52) _ = _
        simp only [Act.put, List.setIfInBounds_toArray, List.set_cons_zero, List.set_cons_succ, i64_w, i32_w]
        rfl
       exact norm_ (by simp only [putAll, Act.put, List.setIfInBounds_toArray, List.set_cons_zero, List.set_cons_succ]; first | done | rfl) (hJ18_21_22 (v609, v612, v615) _ ⟨hHeld, (Kd.R_mono HO565.out (fun _ hk => ⟨hk.1.1, hk.1.2.1, hk.1.2.2.1, hk.1.2.2.2.1, hk.1.2.2.2.2.1, hk.1.2.2.2.2.2.1, hk.2, hk.1.2.2.2.2.2.2⟩)), (Kd.R_mono HO568.out (fun _ hk => ⟨hk.1.1, hk.1.2.1, hk.1.2.2.1, hk.1.2.2.2.1, hk.1.2.2.2.2.1, hk.1.2.2.2.2.2.1, hk.2, hk.1.2.2.2.2.2.2⟩)), (Kd.V_mono HO571.out (fun _ hk => ⟨hk.1.1, hk.1.2.1, hk.1.2.2.1, hk.1.2.2.2.1, hk.1.2.2.2.2.1, hk.1.2.2.2.2.2.1, hk.1.2.2.2.2.2.2.1, hk.2, hk.1.2.2.2.2.2.2.2.1, hk.1.2.2.2.2.2.2.2.2.1, hk.1.2.2.2.2.2.2.2.2.2⟩)), (Kd.R_mono HO574.out (fun _ hk => ⟨hk.1.1, hk.1.2.1, hk.1.2.2.1, hk.1.2.2.2.1, hk.1.2.2.2.2.1, hk.1.2.2.2.2.2.1, hk.2, hk.1.2.2.2.2.2.2⟩)), (Kd.V_mono HO577.out (fun _ hk => ⟨hk.1.1, hk.1.2.1, hk.1.2.2.1, hk.1.2.2.2.1, hk.1.2.2.2.2.1, hk.1.2.2.2.2.2.1, hk.1.2.2.2.2.2.2.1, hk.2, hk.1.2.2.2.2.2.2.2.1, hk.1.2.2.2.2.2.2.2.2.1, hk.1.2.2.2.2.2.2.2.2.2⟩)), (Kd.V_mono HO580.out (fun _ hk => ⟨hk.1.1, hk.1.2.1, hk.1.2.2.1, hk.1.2.2.2.1, hk.1.2.2.2.2.1, hk.1.2.2.2.2.2.1, hk.1.2.2.2.2.2.2.1, hk.2, hk.1.2.2.2.2.2.2.2.1, hk.1.2.2.2.2.2.2.2.2.1, hk.1.2.2.2.2.2.2.2.2.2⟩)), (Kd.R_mono HO587.out (fun _ hk => ⟨hk.1.1, hk.1.2.1, hk.1.2.2.1, hk.1.2.2.2.1, hk.1.2.2.2.2.1, hk.1.2.2.2.2.2.1, hk.2, hk.1.2.2.2.2.2.2⟩)), (Kd.R_mono HO590.out (fun _ hk => ⟨hk.1.1, hk.1.2.1, hk.1.2.2.1, hk.1.2.2.2.1, hk.1.2.2.2.2.1, hk.1.2.2.2.2.2.1, hk.2, hk.1.2.2.2.2.2.2⟩)), (Kd.R_mono HO593.out (fun _ hk => ⟨hk.1.1, hk.1.2.1, hk.1.2.2.1, hk.1.2.2.2.1, hk.1.2.2.2.2.1, hk.1.2.2.2.2.2.1, hk.2, hk.1.2.2.2.2.2.2⟩)), (Kd.V_mono HO596.out (fun _ hk => ⟨hk.1.1, hk.1.2.1, hk.1.2.2.1, hk.1.2.2.2.1, hk.1.2.2.2.2.1, hk.1.2.2.2.2.2.1, hk.1.2.2.2.2.2.2.1, hk.2, hk.1.2.2.2.2.2.2.2.1, hk.1.2.2.2.2.2.2.2.2.1, hk.1.2.2.2.2.2.2.2.2.2⟩)), (Kd.V_mono HO599.out (fun _ hk => ⟨hk.1.1, hk.1.2.1, hk.1.2.2.1, hk.1.2.2.2.1, hk.1.2.2.2.2.1, hk.1.2.2.2.2.2.1, hk.1.2.2.2.2.2.2.1, hk.2, hk.1.2.2.2.2.2.2.2.1, hk.1.2.2.2.2.2.2.2.2.1, hk.1.2.2.2.2.2.2.2.2.2⟩)), (Kd.R_mono HO605.out (fun _ hk => ⟨hk.1.1, hk.1.2.1, hk.1.2.2.1, hk.1.2.2.2.1, hk.1.2.2.2.2.1, hk.1.2.2.2.2.2.1, hk.2, hk.1.2.2.2.2.2.2⟩)), (Kd.V_mono HO610.out (fun _ hk => ⟨hk.1.1, hk.1.2.1, hk.1.2.2.1, hk.1.2.2.2.1, hk.1.2.2.2.2.1, hk.1.2.2.2.2.2.1, hk.1.2.2.2.2.2.2.1, hk.2, hk.1.2.2.2.2.2.2.2.1, hk.1.2.2.2.2.2.2.2.2.1, hk.1.2.2.2.2.2.2.2.2.2⟩)), (Kd.R_mono HO613.out (fun _ hk => ⟨hk.1.1.1.1.1.1.1.2, hk.1.1.1.1.1.1.2, hk.1.1.1.1.1.2, hk.1.1.1.1.2, hk.1.1.1.2, hk.1.1.2, hk.1.2, hk.2⟩)), (Kd.R_mono HO616.out (fun _ hk => ⟨hk.1.1, hk.1.2.1, hk.1.2.2.1, hk.1.2.2.2.1, hk.1.2.2.2.2.1, hk.1.2.2.2.2.2.1, hk.1.2.2.2.2.2.2, hk.2⟩)), BK581.out, BK601.out, (by repeat (first | (with_reducible first | exact HB.out | apply below_alloc | apply pw_below_drewN | apply below_drew1 | refine below_set ?_ GE581.out | refine below_set ?_ GE601.out) | exact HB.out))⟩)
     ·skip
      rintro ⟨v609, v612⟩ w73 ⟨hS_, h0_, h1_, h2_, h3_, h4_, h5_, h6_, h7_, h8_, h9_, h10_, h11_, h12_, h13_, h14_, h15_, h16_⟩
      have n0_ := Aside0.mk h0_
      have n1_ := Aside0.mk h1_
      have n2_ := Aside0.mk h2_
      have n3_ := Aside0.mk h3_
      have n4_ := Aside0.mk h4_
      have n5_ := Aside0.mk h5_
      have n6_ := Aside0.mk h6_
      have n7_ := Aside0.mk h7_
      have n8_ := Aside0.mk h8_
      have n9_ := Aside0.mk h9_
      have n10_ := Aside0.mk h10_
      have n11_ := Aside0.mk h11_
      have n12_ := Aside0.mk h12_
      have n13_ := Aside0.mk h13_
      have n14_ := Aside0.mk h14_
      have n15_ := Aside0.mk h15_
      have n16_ := Aside0.mk h16_
      clear HO565
      clear HO568
      clear HO571
      clear HO574
      clear HO577
      clear HO580
      clear HO587
      clear HO590
      clear HO593
      clear HO596
      clear HO599
      clear BK581
      clear BK601
      clear HB
      clear h0_ h1_ h2_ h3_ h4_ h5_ h6_ h7_ h8_ h9_ h10_ h11_ h12_ h13_ h14_ h15_ h16_
      have HO565 := n0_
      have HO568 := n1_
      have HO571 := n2_
      have HO574 := n3_
      have HO577 := n4_
      have HO580 := n5_
      have HO587 := n6_
      have HO590 := n7_
      have HO593 := n8_
      have HO596 := n9_
      have HO599 := n10_
      have HO605 := n11_
      have HO610 := n12_
      have HO613 := n13_
      have BK581 := n14_
      have BK601 := n15_
      have HB := n16_
      clear n0_ n1_ n2_ n3_ n4_ n5_ n6_ n7_ n8_ n9_ n10_ n11_ n12_ n13_ n14_ n15_ n16_
      have hHeld : w73.cell? ⟨gb581, 0, none⟩ = some (.slice Ao44 t578.length co44) ∧ w73.cell? ⟨gb601, 0, none⟩ = some (.slice Ao61 t597.length co61) := hS_
      refine norm_ (a' := ?_) ?_ ?_
      rotate_left
      ·simp only [putAll, Act.put, List.setIfInBounds_toArray, List.set_cons_zero, List.set_cons_succ]
       rfl
      refine one_ (i := 22) (N := some 53) (fl 23 38 []) rfl rfl (one_of HT_.out (by kernel_rfl)) (by decide) (fun K hK => ?_)
      refine Kd.R_lit_step (Kd.int .u64) _ 27 ?hg (N := 53) ?hd (xs := ([1] : List Int)) (inner := [.int .u64 1]) (ok := fun _ => True) (okp := fun _ => True) ?hr ?hp (fun _ hk => hk) trivial (Below.refl _ _) (Nat.le_refl _) (by simp) ?_; (case hd => rfl); (case hg => rfl); (case hr => first | (go_simp; done) | (go_simp; rfl)); (case hp => exact (Reps.one (show Kd.M (Kd.int .u64) _ _ _ 1 [.int .u64 1] from rfl) (Reps.none _ _)))
      intro v615 w74 ho75 hb hg_ hnew_
      clear hg_ hnew_
      (first | rw [← Ny614.out] at ho75 | (simp only [Int.reduceToNat] at ho75; rw [← Ny614.out] at ho75))
      have n0_ := Aside0.mk (Kd.R_elder' HO565.out (Kd.R_base ho75) hb)
      have n1_ := Aside0.mk (Kd.R_elder' HO568.out (Kd.R_base ho75) hb)
      have n2_ := Aside0.mk (Kd.V_elder' HO571.out (Kd.R_base ho75) hb)
      have n3_ := Aside0.mk (Kd.R_elder' HO574.out (Kd.R_base ho75) hb)
      have n4_ := Aside0.mk (Kd.V_elder' HO577.out (Kd.R_base ho75) hb)
      have n5_ := Aside0.mk (Kd.V_elder' HO580.out (Kd.R_base ho75) hb)
      have n6_ := Aside0.mk (Kd.R_elder' HO587.out (Kd.R_base ho75) hb)
      have n7_ := Aside0.mk (Kd.R_elder' HO590.out (Kd.R_base ho75) hb)
      have n8_ := Aside0.mk (Kd.R_elder' HO593.out (Kd.R_base ho75) hb)
      have n9_ := Aside0.mk (Kd.V_elder' HO596.out (Kd.R_base ho75) hb)
      have n10_ := Aside0.mk (Kd.V_elder' HO599.out (Kd.R_base ho75) hb)
      have n11_ := Aside0.mk (Kd.R_elder' HO605.out (Kd.R_base ho75) hb)
      have n12_ := Aside0.mk (Kd.V_elder' HO610.out (Kd.R_base ho75) hb)
      have n13_ := Aside0.mk (Kd.R_elder' HO613.out (Kd.R_base ho75) hb)
      have n14_ := Aside0.mk (Kd.R_lower (Kd.R_new' (Kd.R_new' (Kd.R_new' (Kd.R_new' (Kd.R_new' (Kd.R_new' (Kd.R_new' (Kd.R_new' ho75 (Kd.R_lt HO565.out)) (Kd.R_lt HO568.out)) (Kd.R_lt HO574.out)) (Kd.R_lt HO587.out)) (Kd.R_lt HO590.out)) (Kd.R_lt HO593.out)) (Kd.R_lt HO605.out)) (Kd.R_lt HO613.out)) (bz HB.out))
      have n15_ := Aside0.mk (bb BK581.out hb)
      have n16_ := Aside0.mk (bb BK601.out hb)
      have n17_ := Aside0.mk (bs HB.out hb)
      clear HO565
      clear HO568
      clear HO571
      clear HO574
      clear HO577
      clear HO580
      clear HO587
      clear HO590
      clear HO593
      clear HO596
      clear HO599
      clear HO605
      clear HO610
      clear HO613
      clear BK581
      clear BK601
      clear HB
      have HO565 := n0_
      have HO568 := n1_
      have HO571 := n2_
      have HO574 := n3_
      have HO577 := n4_
      have HO580 := n5_
      have HO587 := n6_
      have HO590 := n7_
      have HO593 := n8_
      have HO596 := n9_
      have HO599 := n10_
      have HO605 := n11_
      have HO610 := n12_
      have HO613 := n13_
      have HO616 := n14_
      have BK581 := n15_
      have BK601 := n16_
      have HB := n17_
      clear n0_ n1_ n2_ n3_ n4_ n5_ n6_ n7_ n8_ n9_ n10_ n11_ n12_ n13_ n14_ n15_ n16_ n17_
      clear hb ho75
      refine hK.out _ _ ⟨(blk_cell BK581.out 0).trans rfl, (blk_cell BK601.out 0).trans rfl⟩ (fun hHeld => ?_)
      clear hK K
      refine norm_ (a' := ?_) ?_ ?_
      rotate_left
      ·show Act.put _ (some 53) _ = _
       simp only [Act.put, List.setIfInBounds_toArray, List.set_cons_zero, List.set_cons_succ, i64_w, i32_w]
       rfl
      exact norm_ (by simp only [putAll, Act.put, List.setIfInBounds_toArray, List.set_cons_zero, List.set_cons_succ]; first | done | rfl) (hJ18_21_22 (v609, v612, v615) _ ⟨hHeld, (Kd.R_mono HO565.out (fun _ hk => ⟨hk.1.1, hk.1.2.1, hk.1.2.2.1, hk.1.2.2.2.1, hk.1.2.2.2.2.1, hk.1.2.2.2.2.2.1, hk.1.2.2.2.2.2.2, hk.2⟩)), (Kd.R_mono HO568.out (fun _ hk => ⟨hk.1.1, hk.1.2.1, hk.1.2.2.1, hk.1.2.2.2.1, hk.1.2.2.2.2.1, hk.1.2.2.2.2.2.1, hk.1.2.2.2.2.2.2, hk.2⟩)), (Kd.V_mono HO571.out (fun _ hk => ⟨hk.1.1, hk.1.2.1, hk.1.2.2.1, hk.1.2.2.2.1, hk.1.2.2.2.2.1, hk.1.2.2.2.2.2.1, hk.1.2.2.2.2.2.2.1, hk.1.2.2.2.2.2.2.2.1, hk.2, hk.1.2.2.2.2.2.2.2.2.1, hk.1.2.2.2.2.2.2.2.2.2⟩)), (Kd.R_mono HO574.out (fun _ hk => ⟨hk.1.1, hk.1.2.1, hk.1.2.2.1, hk.1.2.2.2.1, hk.1.2.2.2.2.1, hk.1.2.2.2.2.2.1, hk.1.2.2.2.2.2.2, hk.2⟩)), (Kd.V_mono HO577.out (fun _ hk => ⟨hk.1.1, hk.1.2.1, hk.1.2.2.1, hk.1.2.2.2.1, hk.1.2.2.2.2.1, hk.1.2.2.2.2.2.1, hk.1.2.2.2.2.2.2.1, hk.1.2.2.2.2.2.2.2.1, hk.2, hk.1.2.2.2.2.2.2.2.2.1, hk.1.2.2.2.2.2.2.2.2.2⟩)), (Kd.V_mono HO580.out (fun _ hk => ⟨hk.1.1, hk.1.2.1, hk.1.2.2.1, hk.1.2.2.2.1, hk.1.2.2.2.2.1, hk.1.2.2.2.2.2.1, hk.1.2.2.2.2.2.2.1, hk.1.2.2.2.2.2.2.2.1, hk.2, hk.1.2.2.2.2.2.2.2.2.1, hk.1.2.2.2.2.2.2.2.2.2⟩)), (Kd.R_mono HO587.out (fun _ hk => ⟨hk.1.1, hk.1.2.1, hk.1.2.2.1, hk.1.2.2.2.1, hk.1.2.2.2.2.1, hk.1.2.2.2.2.2.1, hk.1.2.2.2.2.2.2, hk.2⟩)), (Kd.R_mono HO590.out (fun _ hk => ⟨hk.1.1, hk.1.2.1, hk.1.2.2.1, hk.1.2.2.2.1, hk.1.2.2.2.2.1, hk.1.2.2.2.2.2.1, hk.1.2.2.2.2.2.2, hk.2⟩)), (Kd.R_mono HO593.out (fun _ hk => ⟨hk.1.1, hk.1.2.1, hk.1.2.2.1, hk.1.2.2.2.1, hk.1.2.2.2.2.1, hk.1.2.2.2.2.2.1, hk.1.2.2.2.2.2.2, hk.2⟩)), (Kd.V_mono HO596.out (fun _ hk => ⟨hk.1.1, hk.1.2.1, hk.1.2.2.1, hk.1.2.2.2.1, hk.1.2.2.2.2.1, hk.1.2.2.2.2.2.1, hk.1.2.2.2.2.2.2.1, hk.1.2.2.2.2.2.2.2.1, hk.2, hk.1.2.2.2.2.2.2.2.2.1, hk.1.2.2.2.2.2.2.2.2.2⟩)), (Kd.V_mono HO599.out (fun _ hk => ⟨hk.1.1, hk.1.2.1, hk.1.2.2.1, hk.1.2.2.2.1, hk.1.2.2.2.2.1, hk.1.2.2.2.2.2.1, hk.1.2.2.2.2.2.2.1, hk.1.2.2.2.2.2.2.2.1, hk.2, hk.1.2.2.2.2.2.2.2.2.1, hk.1.2.2.2.2.2.2.2.2.2⟩)), (Kd.R_mono HO605.out (fun _ hk => ⟨hk.1.1, hk.1.2.1, hk.1.2.2.1, hk.1.2.2.2.1, hk.1.2.2.2.2.1, hk.1.2.2.2.2.2.1, hk.1.2.2.2.2.2.2, hk.2⟩)), (Kd.V_mono HO610.out (fun _ hk => ⟨hk.1.1, hk.1.2.1, hk.1.2.2.1, hk.1.2.2.2.1, hk.1.2.2.2.2.1, hk.1.2.2.2.2.2.1, hk.1.2.2.2.2.2.2.1, hk.1.2.2.2.2.2.2.2.1, hk.2, hk.1.2.2.2.2.2.2.2.2.1, hk.1.2.2.2.2.2.2.2.2.2⟩)), (Kd.R_mono HO613.out (fun _ hk => ⟨hk.1.1, hk.1.2.1, hk.1.2.2.1, hk.1.2.2.2.1, hk.1.2.2.2.2.1, hk.1.2.2.2.2.2.1, hk.1.2.2.2.2.2.2, hk.2⟩)), (Kd.R_mono HO616.out (fun _ hk => ⟨hk.1.1.1.1.1.1.1.2, hk.1.1.1.1.1.1.2, hk.1.1.1.1.1.2, hk.1.1.1.1.2, hk.1.1.1.2, hk.1.1.2, hk.1.2, hk.2⟩)), BK581.out, BK601.out, (by repeat (first | (with_reducible first | exact HB.out | apply below_alloc | apply pw_below_drewN | apply below_drew1 | refine below_set ?_ GE581.out | refine below_set ?_ GE601.out) | exact HB.out))⟩)
    rintro ⟨v609, v612, v615⟩ w75 ⟨hS_, h0_, h1_, h2_, h3_, h4_, h5_, h6_, h7_, h8_, h9_, h10_, h11_, h12_, h13_, h14_, h15_, h16_, h17_⟩
    have n0_ := Aside0.mk h0_
    have n1_ := Aside0.mk h1_
    have n2_ := Aside0.mk h2_
    have n3_ := Aside0.mk h3_
    have n4_ := Aside0.mk h4_
    have n5_ := Aside0.mk h5_
    have n6_ := Aside0.mk h6_
    have n7_ := Aside0.mk h7_
    have n8_ := Aside0.mk h8_
    have n9_ := Aside0.mk h9_
    have n10_ := Aside0.mk h10_
    have n11_ := Aside0.mk h11_
    have n12_ := Aside0.mk h12_
    have n13_ := Aside0.mk h13_
    have n14_ := Aside0.mk h14_
    have n15_ := Aside0.mk h15_
    have n16_ := Aside0.mk h16_
    have n17_ := Aside0.mk h17_
    clear HO565
    clear HO568
    clear HO571
    clear HO574
    clear HO577
    clear HO580
    clear HO587
    clear HO590
    clear HO593
    clear HO596
    clear HO599
    clear BK581
    clear BK601
    clear HB
    clear h0_ h1_ h2_ h3_ h4_ h5_ h6_ h7_ h8_ h9_ h10_ h11_ h12_ h13_ h14_ h15_ h16_ h17_
    have HO565 := n0_
    have HO568 := n1_
    have HO571 := n2_
    have HO574 := n3_
    have HO577 := n4_
    have HO580 := n5_
    have HO587 := n6_
    have HO590 := n7_
    have HO593 := n8_
    have HO596 := n9_
    have HO599 := n10_
    have HO605 := n11_
    have HO610 := n12_
    have HO613 := n13_
    have HO616 := n14_
    have BK581 := n15_
    have BK601 := n16_
    have HB := n17_
    clear n0_ n1_ n2_ n3_ n4_ n5_ n6_ n7_ n8_ n9_ n10_ n11_ n12_ n13_ n14_ n15_ n16_ n17_
    have hHeld : w75.cell? ⟨gb581, 0, none⟩ = some (.slice Ao44 t578.length co44) ∧ w75.cell? ⟨gb601, 0, none⟩ = some (.slice Ao61 t597.length co61) := hS_
    obtain ⟨Ao77, co77, eo77⟩ := Kd.R_slice HO616.out
    (first | subst eo77 | (injection eo77 with f1_ f2_ f3_; have f4_ := f1_.symm; have f5_ := f3_.symm; clear f1_ f2_ f3_; subst f4_; subst f5_))
    refine norm_ (a' := ?_) ?_ ?_
    rotate_left
    ·simp only [putAll, Act.put, List.setIfInBounds_toArray, List.set_cons_zero, List.set_cons_succ]
     rfl
    refine one_ (i := 23) (N := some 54) (fl 24 38 []) rfl rfl (one_of HT_.out (by kernel_rfl)) (by decide) (fun K hK => ?_)
    refine Kd.R_append_rows_step (Kd.int .u64) (w0 := w) w.heap.size (by rfl) (.tmp 52) (.tmp 53) 22 27 (.int .u64 0) 8 rfl Try.underlying22 info27 rfl (by decide) (by omega) v612 y611 y614 _ _ _ (fun k_ => OB Ao32 y563 co32 k_ ∧ OB Ao34 t566 co34 k_ ∧ OB Ao38 y572 co38 k_ ∧ OB Ao51 y585 co51 k_ ∧ OB Ao63 y588 co63 k_ ∧ some k_ ≠ (v592 : Value).ownBlock ∧ OB Ao68 t603 co68 k_ ∧ OB Ao77 y614 co77 k_) (fun _ => False) rfl rfl ?aO ?aR (fun _ _ h => h) (fun _ h => h.elim) ?aF ?aB ?aS ?aL ?_
    (case aR => repeat (first | exact (Kd.R_reads' HO616.out).2.2 | (with_reducible refine Kd.C_alloc ?_ _) | (with_reducible refine Kd.C_drewN ?_ _) | (with_reducible refine Kd.C_drew ?_)))
    (case aB => exact (by repeat (first | (with_reducible first | exact HB.out | apply below_alloc | apply pw_below_drewN | apply below_drew1 | refine below_set ?_ GE581.out | refine below_set ?_ GE601.out) | exact HB.out)))
    (case aF => exact (fun k_ hk => ⟨Kd.fresh' (Kd.R_lt HO565.out) k_ hk, Kd.fresh' (Kd.R_lt HO568.out) k_ hk, Kd.fresh' (Kd.R_lt HO574.out) k_ hk, Kd.fresh' (Kd.R_lt HO587.out) k_ hk, Kd.fresh' (Kd.R_lt HO590.out) k_ hk, Kd.fresh' (Kd.R_lt HO593.out) k_ hk, Kd.fresh' (Kd.R_lt HO605.out) k_ hk, Kd.fresh' (Kd.R_lt HO616.out) k_ hk⟩))
    (case aO => exact HO613.out)
    (case aS => exact (below_size (by repeat (first | (with_reducible first | exact HB.out | apply below_alloc | apply pw_below_drewN | apply below_drew1 | refine below_set ?_ GE581.out | refine below_set ?_ GE601.out) | exact HB.out))))
    (case aL => have := LMc23.out; omega)
    intro v618 w76 ho hb hg hat
    rw [← Ny617.out] at ho
    have n0_ := Aside0.mk (Kd.R_after (ok := (fun k_ => OB Ao34 t566 co34 k_ ∧ OB Ao38 y572 co38 k_ ∧ OB Ao51 y585 co51 k_ ∧ OB Ao63 y588 co63 k_ ∧ some k_ ≠ (v592 : Value).ownBlock ∧ OB Ao68 t603 co68 k_ ∧ OB Ao77 y614 co77 k_)) (Kd.R_mono HO565.out (fun _ hk => ⟨⟨hk.1, hk.2.1, hk.2.2.1, hk.2.2.2.1, hk.2.2.2.2.1, hk.2.2.2.2.2.1, hk.2.2.2.2.2.2.2⟩, hk.2.2.2.2.2.2.1⟩)) hg hat)
    have n1_ := Aside0.mk (Kd.R_after (ok := (fun k_ => OB Ao32 y563 co32 k_ ∧ OB Ao38 y572 co38 k_ ∧ OB Ao51 y585 co51 k_ ∧ OB Ao63 y588 co63 k_ ∧ some k_ ≠ (v592 : Value).ownBlock ∧ OB Ao68 t603 co68 k_ ∧ OB Ao77 y614 co77 k_)) (Kd.R_mono HO568.out (fun _ hk => ⟨⟨hk.1, hk.2.1, hk.2.2.1, hk.2.2.2.1, hk.2.2.2.2.1, hk.2.2.2.2.2.1, hk.2.2.2.2.2.2.2⟩, hk.2.2.2.2.2.2.1⟩)) hg hat)
    have n2_ := Aside0.mk (Kd.V_afterv (ok := (fun k_ => OB Ao32 y563 co32 k_ ∧ OB Ao34 t566 co34 k_ ∧ OB Ao38 y572 co38 k_ ∧ OB Ao51 y585 co51 k_ ∧ OB Ao63 y588 co63 k_ ∧ some k_ ≠ (v592 : Value).ownBlock ∧ OB Ao68 t603 co68 k_ ∧ OB Ao77 y614 co77 k_ ∧ k_ ≠ gb581 ∧ k_ ≠ gb601)) (Kd.V_mono HO571.out (fun _ hk => ⟨⟨hk.1, hk.2.1, hk.2.2.1, hk.2.2.2.1, hk.2.2.2.2.1, hk.2.2.2.2.2.1, hk.2.2.2.2.2.2.1, hk.2.2.2.2.2.2.2.2.1, hk.2.2.2.2.2.2.2.2.2.1, hk.2.2.2.2.2.2.2.2.2.2⟩, hk.2.2.2.2.2.2.2.1⟩)) hg hat)
    have n3_ := Aside0.mk (Kd.R_after (ok := (fun k_ => OB Ao32 y563 co32 k_ ∧ OB Ao34 t566 co34 k_ ∧ OB Ao51 y585 co51 k_ ∧ OB Ao63 y588 co63 k_ ∧ some k_ ≠ (v592 : Value).ownBlock ∧ OB Ao68 t603 co68 k_ ∧ OB Ao77 y614 co77 k_)) (Kd.R_mono HO574.out (fun _ hk => ⟨⟨hk.1, hk.2.1, hk.2.2.1, hk.2.2.2.1, hk.2.2.2.2.1, hk.2.2.2.2.2.1, hk.2.2.2.2.2.2.2⟩, hk.2.2.2.2.2.2.1⟩)) hg hat)
    have n4_ := Aside0.mk (Kd.V_afterv (ok := (fun k_ => OB Ao32 y563 co32 k_ ∧ OB Ao34 t566 co34 k_ ∧ OB Ao38 y572 co38 k_ ∧ OB Ao51 y585 co51 k_ ∧ OB Ao63 y588 co63 k_ ∧ some k_ ≠ (v592 : Value).ownBlock ∧ OB Ao68 t603 co68 k_ ∧ OB Ao77 y614 co77 k_ ∧ k_ ≠ gb581 ∧ k_ ≠ gb601)) (Kd.V_mono HO577.out (fun _ hk => ⟨⟨hk.1, hk.2.1, hk.2.2.1, hk.2.2.2.1, hk.2.2.2.2.1, hk.2.2.2.2.2.1, hk.2.2.2.2.2.2.1, hk.2.2.2.2.2.2.2.2.1, hk.2.2.2.2.2.2.2.2.2.1, hk.2.2.2.2.2.2.2.2.2.2⟩, hk.2.2.2.2.2.2.2.1⟩)) hg hat)
    have n5_ := Aside0.mk (Kd.V_afterv (ok := (fun k_ => OB Ao32 y563 co32 k_ ∧ OB Ao34 t566 co34 k_ ∧ OB Ao38 y572 co38 k_ ∧ OB Ao51 y585 co51 k_ ∧ OB Ao63 y588 co63 k_ ∧ some k_ ≠ (v592 : Value).ownBlock ∧ OB Ao68 t603 co68 k_ ∧ OB Ao77 y614 co77 k_ ∧ k_ ≠ gb581 ∧ k_ ≠ gb601)) (Kd.V_mono HO580.out (fun _ hk => ⟨⟨hk.1, hk.2.1, hk.2.2.1, hk.2.2.2.1, hk.2.2.2.2.1, hk.2.2.2.2.2.1, hk.2.2.2.2.2.2.1, hk.2.2.2.2.2.2.2.2.1, hk.2.2.2.2.2.2.2.2.2.1, hk.2.2.2.2.2.2.2.2.2.2⟩, hk.2.2.2.2.2.2.2.1⟩)) hg hat)
    have n6_ := Aside0.mk (blk_grown (g := gb581) (o := .cells #[.slice Ao44 t578.length co44] 25 (0, 0)) BK581.out hg (Kd.R_ne HO613.out BK581.out (by decide)))
    have n7_ := Aside0.mk (Kd.R_after (ok := (fun k_ => OB Ao32 y563 co32 k_ ∧ OB Ao34 t566 co34 k_ ∧ OB Ao38 y572 co38 k_ ∧ OB Ao63 y588 co63 k_ ∧ some k_ ≠ (v592 : Value).ownBlock ∧ OB Ao68 t603 co68 k_ ∧ OB Ao77 y614 co77 k_)) (Kd.R_mono HO587.out (fun _ hk => ⟨⟨hk.1, hk.2.1, hk.2.2.1, hk.2.2.2.1, hk.2.2.2.2.1, hk.2.2.2.2.2.1, hk.2.2.2.2.2.2.2⟩, hk.2.2.2.2.2.2.1⟩)) hg hat)
    have n8_ := Aside0.mk (Kd.R_after (ok := (fun k_ => OB Ao32 y563 co32 k_ ∧ OB Ao34 t566 co34 k_ ∧ OB Ao38 y572 co38 k_ ∧ OB Ao51 y585 co51 k_ ∧ some k_ ≠ (v592 : Value).ownBlock ∧ OB Ao68 t603 co68 k_ ∧ OB Ao77 y614 co77 k_)) (Kd.R_mono HO590.out (fun _ hk => ⟨⟨hk.1, hk.2.1, hk.2.2.1, hk.2.2.2.1, hk.2.2.2.2.1, hk.2.2.2.2.2.1, hk.2.2.2.2.2.2.2⟩, hk.2.2.2.2.2.2.1⟩)) hg hat)
    have n9_ := Aside0.mk (Kd.R_after (ok := (fun k_ => OB Ao32 y563 co32 k_ ∧ OB Ao34 t566 co34 k_ ∧ OB Ao38 y572 co38 k_ ∧ OB Ao51 y585 co51 k_ ∧ OB Ao63 y588 co63 k_ ∧ OB Ao68 t603 co68 k_ ∧ OB Ao77 y614 co77 k_)) (Kd.R_mono HO593.out (fun _ hk => ⟨⟨hk.1, hk.2.1, hk.2.2.1, hk.2.2.2.1, hk.2.2.2.2.1, hk.2.2.2.2.2.1, hk.2.2.2.2.2.2.2⟩, hk.2.2.2.2.2.2.1⟩)) hg hat)
    have n10_ := Aside0.mk (Kd.V_afterv (ok := (fun k_ => OB Ao32 y563 co32 k_ ∧ OB Ao34 t566 co34 k_ ∧ OB Ao38 y572 co38 k_ ∧ OB Ao51 y585 co51 k_ ∧ OB Ao63 y588 co63 k_ ∧ some k_ ≠ (v592 : Value).ownBlock ∧ OB Ao68 t603 co68 k_ ∧ OB Ao77 y614 co77 k_ ∧ k_ ≠ gb581 ∧ k_ ≠ gb601)) (Kd.V_mono HO596.out (fun _ hk => ⟨⟨hk.1, hk.2.1, hk.2.2.1, hk.2.2.2.1, hk.2.2.2.2.1, hk.2.2.2.2.2.1, hk.2.2.2.2.2.2.1, hk.2.2.2.2.2.2.2.2.1, hk.2.2.2.2.2.2.2.2.2.1, hk.2.2.2.2.2.2.2.2.2.2⟩, hk.2.2.2.2.2.2.2.1⟩)) hg hat)
    have n11_ := Aside0.mk (Kd.V_afterv (ok := (fun k_ => OB Ao32 y563 co32 k_ ∧ OB Ao34 t566 co34 k_ ∧ OB Ao38 y572 co38 k_ ∧ OB Ao51 y585 co51 k_ ∧ OB Ao63 y588 co63 k_ ∧ some k_ ≠ (v592 : Value).ownBlock ∧ OB Ao68 t603 co68 k_ ∧ OB Ao77 y614 co77 k_ ∧ k_ ≠ gb581 ∧ k_ ≠ gb601)) (Kd.V_mono HO599.out (fun _ hk => ⟨⟨hk.1, hk.2.1, hk.2.2.1, hk.2.2.2.1, hk.2.2.2.2.1, hk.2.2.2.2.2.1, hk.2.2.2.2.2.2.1, hk.2.2.2.2.2.2.2.2.1, hk.2.2.2.2.2.2.2.2.2.1, hk.2.2.2.2.2.2.2.2.2.2⟩, hk.2.2.2.2.2.2.2.1⟩)) hg hat)
    have n12_ := Aside0.mk (blk_grown (g := gb601) (o := .cells #[.slice Ao61 t597.length co61] 25 (0, 0)) BK601.out hg (Kd.R_ne HO613.out BK601.out (by decide)))
    have n13_ := Aside0.mk (Kd.R_after (ok := (fun k_ => OB Ao32 y563 co32 k_ ∧ OB Ao34 t566 co34 k_ ∧ OB Ao38 y572 co38 k_ ∧ OB Ao51 y585 co51 k_ ∧ OB Ao63 y588 co63 k_ ∧ some k_ ≠ (v592 : Value).ownBlock ∧ OB Ao77 y614 co77 k_)) (Kd.R_mono HO605.out (fun _ hk => ⟨⟨hk.1, hk.2.1, hk.2.2.1, hk.2.2.2.1, hk.2.2.2.2.1, hk.2.2.2.2.2.1, hk.2.2.2.2.2.2.2⟩, hk.2.2.2.2.2.2.1⟩)) hg hat)
    have n14_ := Aside0.mk (Kd.V_afterv (ok := (fun k_ => OB Ao32 y563 co32 k_ ∧ OB Ao34 t566 co34 k_ ∧ OB Ao38 y572 co38 k_ ∧ OB Ao51 y585 co51 k_ ∧ OB Ao63 y588 co63 k_ ∧ some k_ ≠ (v592 : Value).ownBlock ∧ OB Ao68 t603 co68 k_ ∧ OB Ao77 y614 co77 k_ ∧ k_ ≠ gb581 ∧ k_ ≠ gb601)) (Kd.V_mono HO610.out (fun _ hk => ⟨⟨hk.1, hk.2.1, hk.2.2.1, hk.2.2.2.1, hk.2.2.2.2.1, hk.2.2.2.2.2.1, hk.2.2.2.2.2.2.1, hk.2.2.2.2.2.2.2.2.1, hk.2.2.2.2.2.2.2.2.2.1, hk.2.2.2.2.2.2.2.2.2.2⟩, hk.2.2.2.2.2.2.2.1⟩)) hg hat)
    have n15_ := Aside0.mk (Kd.R_after (ok := (fun k_ => OB Ao32 y563 co32 k_ ∧ OB Ao34 t566 co34 k_ ∧ OB Ao38 y572 co38 k_ ∧ OB Ao51 y585 co51 k_ ∧ OB Ao63 y588 co63 k_ ∧ some k_ ≠ (v592 : Value).ownBlock ∧ OB Ao68 t603 co68 k_)) (Kd.R_mono HO616.out (fun _ hk => ⟨⟨hk.1, hk.2.1, hk.2.2.1, hk.2.2.2.1, hk.2.2.2.2.1, hk.2.2.2.2.2.1, hk.2.2.2.2.2.2.1⟩, hk.2.2.2.2.2.2.2⟩)) hg hat)
    have n16_ := Aside0.mk (hb)
    have n17_ := Aside0.mk (ho)
    clear HO565
    clear HO568
    clear HO571
    clear HO574
    clear HO577
    clear HO580
    clear BK581
    clear HO587
    clear HO590
    clear HO593
    clear HO596
    clear HO599
    clear BK601
    clear HO605
    clear HO610
    clear HO616
    clear HB
    clear HO613
    have HO565 := n0_
    have HO568 := n1_
    have HO571 := n2_
    have HO574 := n3_
    have HO577 := n4_
    have HO580 := n5_
    have BK581 := n6_
    have HO587 := n7_
    have HO590 := n8_
    have HO593 := n9_
    have HO596 := n10_
    have HO599 := n11_
    have BK601 := n12_
    have HO605 := n13_
    have HO610 := n14_
    have HO616 := n15_
    have HB := n16_
    have HO619 := n17_
    clear n0_ n1_ n2_ n3_ n4_ n5_ n6_ n7_ n8_ n9_ n10_ n11_ n12_ n13_ n14_ n15_ n16_ n17_
    clear ho hb hg hat
    obtain ⟨Ao78, co78, eo78⟩ := Kd.R_slice HO619.out
    (first | subst eo78 | (injection eo78 with f1_ f2_ f3_; have f4_ := f1_.symm; have f5_ := f3_.symm; clear f1_ f2_ f3_; subst f4_; subst f5_))
    refine hK.out _ _ ⟨(blk_cell BK581.out 0).trans rfl, (blk_cell BK601.out 0).trans rfl⟩ (fun hHeld => ?_)
    clear hK K
    refine norm_ (a' := ?_) ?_ ?_
    rotate_left
    ·show Act.put _ (some 54) _ = _
     simp only [Act.put, List.setIfInBounds_toArray, List.set_cons_zero, List.set_cons_succ, i64_w, i32_w]
     rfl
    refine one_ (i := 24) (N := some 55) (fl 25 38 []) rfl rfl (one_of HT_.out (by kernel_rfl)) (by decide) (fun K hK => ?_)
    refine goes_ Try.func14 (by kernel_rfl) rfl #[.slice Ao78 y617.length co78] (by rfl) rfl rfl (by (try simp only [List.map_toArray, List.map_cons, List.map_nil]); first | done | rfl | (simp only [List.length_drop, List.length_take]; rfl)) ?_
    with_reducible refine (nat_Of.calls k _ _ y617 t620 _ ?side1 ?side2 A24.out).mono ?_
    (case side1 => exact cr HO619.out)
    (case side2 => exact (Kd.R_reads' HO619.out).2.1)
    rintro e w79 ⟨v621, rfl, ho0, hb⟩
    refine ⟨_, rfl, ?_⟩
    have n0_ := Aside0.mk (rb HO565.out hb)
    have n1_ := Aside0.mk (rb HO568.out hb)
    have n2_ := Aside0.mk (vb HO571.out hb)
    have n3_ := Aside0.mk (rb HO574.out hb)
    have n4_ := Aside0.mk (vb HO577.out hb)
    have n5_ := Aside0.mk (vb HO580.out hb)
    have n6_ := Aside0.mk (rb HO587.out hb)
    have n7_ := Aside0.mk (rb HO590.out hb)
    have n8_ := Aside0.mk (rb HO593.out hb)
    have n9_ := Aside0.mk (vb HO596.out hb)
    have n10_ := Aside0.mk (vb HO599.out hb)
    have n11_ := Aside0.mk (rb HO605.out hb)
    have n12_ := Aside0.mk (vb HO610.out hb)
    have n13_ := Aside0.mk (rb HO616.out hb)
    have n14_ := Aside0.mk (rb HO619.out hb)
    have n15_ := Aside0.mk (Kd.V_lower (Kd.V_mono (ok' := fun k_ => OB Ao32 y563 co32 k_ ∧ OB Ao34 t566 co34 k_ ∧ OB Ao38 y572 co38 k_ ∧ OB Ao51 y585 co51 k_ ∧ OB Ao63 y588 co63 k_ ∧ some k_ ≠ (v592 : Value).ownBlock ∧ OB Ao68 t603 co68 k_ ∧ OB Ao77 y614 co77 k_ ∧ OB Ao78 y617 co78 k_ ∧ k_ ≠ gb581 ∧ k_ ≠ gb601) ho0 (fun k_ hk_ => ⟨(Kd.fresh' (Kd.R_lt HO565.out) k_ hk_), (Kd.fresh' (Kd.R_lt HO568.out) k_ hk_), (Kd.fresh' (Kd.R_lt HO574.out) k_ hk_), (Kd.fresh' (Kd.R_lt HO587.out) k_ hk_), (Kd.fresh' (Kd.R_lt HO590.out) k_ hk_), (Kd.fresh' (Kd.R_lt HO593.out) k_ hk_), (Kd.fresh' (Kd.R_lt HO605.out) k_ hk_), (Kd.fresh' (Kd.R_lt HO616.out) k_ hk_), (Kd.fresh' (Kd.R_lt HO619.out) k_ hk_), (fb BK581.out k_ hk_), (fb BK601.out k_ hk_)⟩)) (bz HB.out))
    have n16_ := Aside0.mk (bb BK581.out hb)
    have n17_ := Aside0.mk (bb BK601.out hb)
    have n18_ := Aside0.mk (bs HB.out hb)
    clear HO565
    clear HO568
    clear HO571
    clear HO574
    clear HO577
    clear HO580
    clear HO587
    clear HO590
    clear HO593
    clear HO596
    clear HO599
    clear HO605
    clear HO610
    clear HO616
    clear HO619
    clear BK581
    clear BK601
    clear HB
    have HO565 := n0_
    have HO568 := n1_
    have HO571 := n2_
    have HO574 := n3_
    have HO577 := n4_
    have HO580 := n5_
    have HO587 := n6_
    have HO590 := n7_
    have HO593 := n8_
    have HO596 := n9_
    have HO599 := n10_
    have HO605 := n11_
    have HO610 := n12_
    have HO616 := n13_
    have HO619 := n14_
    have HO622 := n15_
    have BK581 := n16_
    have BK601 := n17_
    have HB := n18_
    clear n0_ n1_ n2_ n3_ n4_ n5_ n6_ n7_ n8_ n9_ n10_ n11_ n12_ n13_ n14_ n15_ n16_ n17_ n18_
    (try clear hb)
    (try clear hb2)
    (try clear hk)
    (try clear hi)
    (try clear ho0)
    obtain ⟨Ao80, co80, eo80⟩ := Kd.V_slice HO610.out
    (first | subst eo80 | (injection eo80 with f1_ f2_ f3_; have f4_ := f1_.symm; have f5_ := f3_.symm; clear f1_ f2_ f3_; subst f4_; subst f5_))
    obtain ⟨Ao81, co81, eo81⟩ := Kd.V_slice HO622.out
    (first | subst eo81 | (injection eo81 with f1_ f2_ f3_; have f4_ := f1_.symm; have f5_ := f3_.symm; clear f1_ f2_ f3_; subst f4_; subst f5_))
    refine hK.out _ _ ⟨(blk_cell BK581.out 0).trans rfl, (blk_cell BK601.out 0).trans rfl⟩ (fun hHeld => ?_)
    clear hK K
    refine norm_ (a' := ?_) ?_ ?_
    rotate_left
    ·show Act.put _ (some 55) _ = _
     simp only [Act.put, List.setIfInBounds_toArray, List.set_cons_zero, List.set_cons_succ, i64_w, i32_w]
     rfl
    refine one_ (i := 25) (N := some 56) (fl 26 38 []) rfl rfl (one_of HT_.out (by kernel_rfl)) (by decide) (fun K hK => ?_)
    refine goes_ Try.func21 (by kernel_rfl) rfl #[.agg #[.slice Ao80 t608.length co80], .agg #[.slice Ao81 t620.length co81]] (by rfl) rfl rfl (by (try simp only [List.map_toArray, List.map_cons, List.map_nil]); first | done | rfl | (simp only [List.length_drop, List.length_take]; rfl)) ?_
    with_reducible refine (nat_Nat_Cmp.calls k _ _ t608 _ _ t620 t623 _ ?side1 ?side2 ?side3 ?side4 A25.out).mono ?_
    (case side1 => exact cv HO610.out)
    (case side2 => exact (Kd.V_reads' HO610.out).2.1)
    (case side3 => exact cv HO622.out)
    (case side4 => exact (Kd.V_reads' HO622.out).2.1)
    rintro e w82 ⟨rfl, hb⟩
    refine ⟨_, rfl, ?_⟩
    replace HO565 := Aside0.mk (rb HO565.out hb)
    replace HO568 := Aside0.mk (rb HO568.out hb)
    replace HO571 := Aside0.mk (vb HO571.out hb)
    replace HO574 := Aside0.mk (rb HO574.out hb)
    replace HO577 := Aside0.mk (vb HO577.out hb)
    replace HO580 := Aside0.mk (vb HO580.out hb)
    replace HO587 := Aside0.mk (rb HO587.out hb)
    replace HO590 := Aside0.mk (rb HO590.out hb)
    replace HO593 := Aside0.mk (rb HO593.out hb)
    replace HO596 := Aside0.mk (vb HO596.out hb)
    replace HO599 := Aside0.mk (vb HO599.out hb)
    replace HO605 := Aside0.mk (rb HO605.out hb)
    replace HO610 := Aside0.mk (vb HO610.out hb)
    replace HO616 := Aside0.mk (rb HO616.out hb)
    replace HO619 := Aside0.mk (rb HO619.out hb)
    replace HO622 := Aside0.mk (vb HO622.out hb)
    replace BK581 := Aside0.mk (bb BK581.out hb)
    replace BK601 := Aside0.mk (bb BK601.out hb)
    replace HB := Aside0.mk (bs HB.out hb)
    (try clear hb)
    (try clear hb2)
    (try clear hk)
    (try clear hi)
    refine hK.out _ _ ⟨(blk_cell BK581.out 0).trans rfl, (blk_cell BK601.out 0).trans rfl⟩ (fun hHeld => ?_)
    clear hK K
    refine norm_ (a' := ?_) ?_ ?_
    rotate_left
    ·show Act.put _ (some 56) _ = _
     simp only [Act.put, List.setIfInBounds_toArray, List.set_cons_zero, List.set_cons_succ, i64_w, i32_w]
     rfl
    refine pure_ (i := 26) (N := some 57) (v := ?_) (a' := ?_) (fl 27 38 []) rfl rfl (any_of HT_.out (by kernel_rfl)) (fun _ _ _ h => h) (Or.inl ⟨by rfl, ?_⟩) ?_ ?_
    rotate_left
    ·intro w'
     go_simp
     with_reducible rfl
    rotate_left
    ·simp only [Act.put, List.setIfInBounds_toArray, List.set_cons_zero, List.set_cons_succ, i64_w, i32_w]
     rfl
    refine pure_ (i := 27) (N := some 58) (v := ?_) (a' := ?_) (fl 28 38 []) rfl rfl (any_of HT_.out (by kernel_rfl)) (fun _ _ _ h => h) (Or.inl ⟨by rfl, ?_⟩) ?_ ?_
    rotate_left
    ·intro w'
     go_simp
     with_reducible rfl
    rotate_left
    ·simp only [Act.put, List.setIfInBounds_toArray, List.set_cons_zero, List.set_cons_succ, i64_w, i32_w]
     rfl
    refine pure_ (i := 28) (N := some 59) (v := ?_) (a' := ?_) (fl 29 38 []) rfl rfl (any_of HT_.out (by kernel_rfl)) (fun _ _ _ h => h) (Or.inl ⟨by rfl, ?_⟩) ?_ ?_
    rotate_left
    ·intro w'
     go_simp
     with_reducible rfl
    rotate_left
    ·simp only [Act.put, List.setIfInBounds_toArray, List.set_cons_zero, List.set_cons_succ, i64_w, i32_w]
     rfl
    refine pure_ (i := 29) (N := some 60) (v := ?_) (a' := ?_) (fl 30 38 []) rfl rfl (any_of HT_.out (by kernel_rfl)) (fun _ _ _ h => h) (Or.inl ⟨by rfl, ?_⟩) ?_ ?_
    rotate_left
    ·intro w'
     go_simp
     with_reducible rfl
    rotate_left
    ·simp only [Act.put, List.setIfInBounds_toArray, List.set_cons_zero, List.set_cons_succ, i64_w, i32_w]
     rfl
    refine pure_ (i := 30) (N := some 61) (v := ?_) (a' := ?_) (fl 31 38 []) rfl rfl (any_of HT_.out (by kernel_rfl)) (fun _ _ _ h => h) (Or.inl ⟨by rfl, ?_⟩) ?_ ?_
    rotate_left
    ·intro w'
     go_simp
     with_reducible rfl
    rotate_left
    ·simp only [Act.put, List.setIfInBounds_toArray, List.set_cons_zero, List.set_cons_succ, i64_w, i32_w]
     rfl
    refine pure_ (i := 31) (N := some 62) (v := ?_) (a' := ?_) (fl 32 38 []) rfl rfl (any_of HT_.out (by kernel_rfl)) (fun _ _ _ h => h) (Or.inl ⟨by rfl, ?_⟩) ?_ ?_
    rotate_left
    ·intro w'
     go_simp
     with_reducible rfl
    rotate_left
    ·simp only [Act.put, List.setIfInBounds_toArray, List.set_cons_zero, List.set_cons_succ, i64_w, i32_w]
     rfl
    refine pure_ (i := 34) (N := some 65) (v := ?_) (a' := ?_) (fl 32 38 [34]) rfl rfl (any_of HT_.out (by kernel_rfl)) (fun _ _ _ h => h) (Or.inl ⟨by rfl, ?_⟩) ?_ ?_
    rotate_left
    ·intro w'
     go_simp
     with_reducible rfl
    rotate_left
    ·simp only [Act.put, List.setIfInBounds_toArray, List.set_cons_zero, List.set_cons_succ, i64_w, i32_w]
     rfl
    refine take_ (i := 32) (N := some 63) (v := ?_) (a' := ?_) (fl 33 38 [34]) rfl rfl (take_ofW HT_.out HW_.out (by kernel_rfl)) (fun _ _ _ h => h) (Or.inl ⟨by rfl, ?_⟩) hHeld ?_ ?_
    rotate_left
    ·rintro w' ⟨s0, s1⟩
     go_simp
     with_reducible rfl
    rotate_left
    ·simp only [Act.put, List.setIfInBounds_toArray, List.set_cons_zero, List.set_cons_succ, i64_w, i32_w]
     rfl
    refine one_ (i := 33) (N := some 64) (fl 35 38 []) rfl rfl (one_of HT_.out (by kernel_rfl)) (by decide) (fun K hK => ?_)
    refine goes_ Try.func16 (by kernel_rfl) rfl #[.agg #[.slice Ao61 t597.length co61]] (by rfl) rfl rfl (by (try simp only [List.map_toArray, List.map_cons, List.map_nil]); first | done | rfl | (simp only [List.length_drop, List.length_take]; rfl)) ?_
    with_reducible refine (nat_Nat_Limbs.calls _ _ t597 t624 _ ?side1 ?side2 A28.out).mono ?_
    (case side1 => exact cv HO599.out)
    (case side2 => exact (Kd.V_reads' HO599.out).2.1)
    rintro e w83 ⟨v625, rfl, ho0, hb⟩
    refine ⟨_, rfl, ?_⟩
    have n0_ := Aside0.mk (Kd.R_elder' HO565.out (Kd.R_base ho0) hb)
    have n1_ := Aside0.mk (Kd.R_elder' HO568.out (Kd.R_base ho0) hb)
    have n2_ := Aside0.mk (Kd.V_elder' HO571.out (Kd.R_base ho0) hb)
    have n3_ := Aside0.mk (Kd.R_elder' HO574.out (Kd.R_base ho0) hb)
    have n4_ := Aside0.mk (Kd.V_elder' HO577.out (Kd.R_base ho0) hb)
    have n5_ := Aside0.mk (Kd.V_elder' HO580.out (Kd.R_base ho0) hb)
    have n6_ := Aside0.mk (Kd.R_elder' HO587.out (Kd.R_base ho0) hb)
    have n7_ := Aside0.mk (Kd.R_elder' HO590.out (Kd.R_base ho0) hb)
    have n8_ := Aside0.mk (Kd.R_elder' HO593.out (Kd.R_base ho0) hb)
    have n9_ := Aside0.mk (Kd.V_elder' HO596.out (Kd.R_base ho0) hb)
    have n10_ := Aside0.mk (Kd.V_elder' HO599.out (Kd.R_base ho0) hb)
    have n11_ := Aside0.mk (Kd.R_elder' HO605.out (Kd.R_base ho0) hb)
    have n12_ := Aside0.mk (Kd.V_elder' HO610.out (Kd.R_base ho0) hb)
    have n13_ := Aside0.mk (Kd.R_elder' HO616.out (Kd.R_base ho0) hb)
    have n14_ := Aside0.mk (Kd.R_elder' HO619.out (Kd.R_base ho0) hb)
    have n15_ := Aside0.mk (Kd.V_elder' HO622.out (Kd.R_base ho0) hb)
    have n16_ := Aside0.mk (Kd.R_lower (Kd.R_new' (Kd.R_new' (Kd.R_new' (Kd.R_new' (Kd.R_new' (Kd.R_new' (Kd.R_new' (Kd.R_new' (Kd.R_new' ho0 (Kd.R_lt HO565.out)) (Kd.R_lt HO568.out)) (Kd.R_lt HO574.out)) (Kd.R_lt HO587.out)) (Kd.R_lt HO590.out)) (Kd.R_lt HO593.out)) (Kd.R_lt HO605.out)) (Kd.R_lt HO616.out)) (Kd.R_lt HO619.out)) (bz HB.out))
    have n17_ := Aside0.mk (bb BK581.out hb)
    have n18_ := Aside0.mk (bb BK601.out hb)
    have n19_ := Aside0.mk (bs HB.out hb)
    clear HO565
    clear HO568
    clear HO571
    clear HO574
    clear HO577
    clear HO580
    clear HO587
    clear HO590
    clear HO593
    clear HO596
    clear HO599
    clear HO605
    clear HO610
    clear HO616
    clear HO619
    clear HO622
    clear BK581
    clear BK601
    clear HB
    have HO565 := n0_
    have HO568 := n1_
    have HO571 := n2_
    have HO574 := n3_
    have HO577 := n4_
    have HO580 := n5_
    have HO587 := n6_
    have HO590 := n7_
    have HO593 := n8_
    have HO596 := n9_
    have HO599 := n10_
    have HO605 := n11_
    have HO610 := n12_
    have HO616 := n13_
    have HO619 := n14_
    have HO622 := n15_
    have HO626 := n16_
    have BK581 := n17_
    have BK601 := n18_
    have HB := n19_
    clear n0_ n1_ n2_ n3_ n4_ n5_ n6_ n7_ n8_ n9_ n10_ n11_ n12_ n13_ n14_ n15_ n16_ n17_ n18_ n19_
    (try clear hb)
    (try clear hb2)
    (try clear hk)
    (try clear hi)
    (try clear ho0)
    obtain ⟨Ao84, co84, eo84⟩ := Kd.R_slice HO626.out
    (first | subst eo84 | (injection eo84 with f1_ f2_ f3_; have f4_ := f1_.symm; have f5_ := f3_.symm; clear f1_ f2_ f3_; subst f4_; subst f5_))
    refine hK.out _ _ ⟨(blk_cell BK581.out 0).trans rfl, (blk_cell BK601.out 0).trans rfl⟩ (fun hHeld => ?_)
    clear hK K
    refine norm_ (a' := ?_) ?_ ?_
    rotate_left
    ·show Act.put _ (some 64) _ = _
     simp only [Act.put, List.setIfInBounds_toArray, List.set_cons_zero, List.set_cons_succ, i64_w, i32_w]
     rfl
    refine one_ (i := 35) (N := some 66) (fl 36 38 []) rfl rfl (one_of HT_.out (by kernel_rfl)) (by decide) (fun K hK => ?_)
    refine goes_ Try.func17 (by kernel_rfl) rfl #[.slice Ao84 t624.length co84, .slice Ao34 t566.length co34] (by rfl) rfl rfl (by (try simp only [List.map_toArray, List.map_cons, List.map_nil]); first | done | rfl | (simp only [List.length_drop, List.length_take]; rfl)) ?_
    with_reducible refine (slices_Equal_uint64_uint64.calls k _ _ t624 _ _ t566 t627 _ ?side1 ?side2 ?side3 ?side4 A29.out).mono ?_
    (case side1 => exact cr HO626.out)
    (case side2 => exact (Kd.R_reads' HO626.out).2.1)
    (case side3 => exact cr HO568.out)
    (case side4 => exact (Kd.R_reads' HO568.out).2.1)
    rintro e w' ⟨rfl, ⟨nd, rfl⟩⟩
    refine ⟨_, rfl, ?_⟩
    refine hK.out _ _ ⟨(blk_cell BK581.out 0).trans rfl, (blk_cell BK601.out 0).trans rfl⟩ (fun hHeld => ?_)
    clear hK K
    refine norm_ (a' := ?_) ?_ ?_
    rotate_left
    ·show Act.put _ (some 66) _ = _
     simp only [Act.put, List.setIfInBounds_toArray, List.set_cons_zero, List.set_cons_succ, i64_w, i32_w]
     rfl
    refine pure_ (i := 36) (N := some 67) (v := ?_) (a' := ?_) (fl 37 38 []) rfl rfl (any_of HT_.out (by kernel_rfl)) (fun _ _ _ h => h) (Or.inl ⟨by rfl, ?_⟩) ?_ ?_
    rotate_left
    ·intro w'
     go_simp
     with_reducible rfl
    rotate_left
    ·simp only [Act.put, List.setIfInBounds_toArray, List.set_cons_zero, List.set_cons_succ, i64_w, i32_w]
     rfl
    refine pure_ (i := 37) (N := some 2) (v := ?_) (a' := ?_) (fl 38 38 []) rfl rfl (any_of HT_.out (by kernel_rfl)) (fun _ _ _ h => h) (Or.inl ⟨by rfl, ?_⟩) ?_ ?_
    rotate_left
    ·intro w'
     go_simp
     with_reducible rfl
    rotate_left
    ·simp only [Act.put, List.setIfInBounds_toArray, List.set_cons_zero, List.set_cons_succ, i64_w, i32_w]
     rfl
    refine done_ (done_of HT_.out (by kernel_rfl)) ?_
    try go_wp2
    go_ret
    exact ⟨by first | rfl | (simp [errW_none, errW_some] <;> rfl) | (simp only [← hji6, ← hji20]; first | rfl | (simp [errW_none, errW_some] <;> rfl)) | (simp [*, errW_none, errW_some] <;> rfl), by repeat (first | (with_reducible first | exact HB.out | apply below_alloc | apply pw_below_drewN | apply below_drew1 | refine below_set ?_ GE581.out | refine below_set ?_ GE601.out) | exact HB.out)⟩
   ·replace c27 := Bool.eq_false_iff.mpr c27
    subst c27
    have H1 : (some false) = some r := by rw [if_neg (show ¬ (false = true) by decide)] at H; exact H
    clear H
    have H := H1
    clear H1
    exact absurd (Option.some.inj H) (by rw [ht_]; decide)
  ·replace c16 := Bool.eq_false_iff.mpr c16
   subst c16
   have H1 : (some false) = some r := by rw [if_neg (show ¬ (false = true) by decide)] at H; exact H
   clear H
   have H := H1
   clear H1
   exact absurd (Option.some.inj H) (by rw [ht_]; decide)
 ·replace c13 := Bool.eq_false_iff.mpr c13
  subst c13
  have H1 : (some false) = some r := by rw [if_neg (show ¬ (false = true) by decide)] at H; exact H
  clear H
  have H := H1
  clear H1
  exact absurd (Option.some.inj H) (by rw [ht_]; decide)
/-- THE ONE PURE STATEMENT of chattellaw01_NatCarries: yours. -/
def chattellaw01_NatCarries.Pure : Prop := ∀ (a0 : Int), (Lit.int .u8 a0).wf = true → ∃ k, chattellaw01_NatCarries.f k a0 = some true
theorem chattellaw01_NatCarries.walk (P : chattellaw01_NatCarries.Pure) (a0 : Int) (w : World) (w0 : (Lit.int .u8 a0).wf = true) :
  Calls Try.prog 7 #[.int .u8 a0] w fun e w' => e = .returned (.bool true) ∧ Below w.heap.size w w' := by
 obtain ⟨k, h⟩ := P a0 w0
 refine (chattellaw01_NatCarries.calls k a0 true w h rfl).mono ?_
 rintro e w' ⟨rfl, hd⟩
 exact ⟨rfl, hd⟩

end Go.Proofs.Ytebjbmgfbejapaa.F
