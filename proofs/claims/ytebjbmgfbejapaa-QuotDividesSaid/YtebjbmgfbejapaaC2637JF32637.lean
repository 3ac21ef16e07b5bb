-- Joined of: F54 F18
import Derived.Test.YtebjbmgfbejapaaC2637JF22637
import Derived.Test.YtebjbmgfbejapaaC2637JF02637
import Derived.Test.YtebjbmgfbejapaaC2637S
section
namespace Go.Proofs.Ytebjbmgfbejapaa.F
open Go.RowKit Go.Proofs.YtebjbmgfbejapaaW.PrintWords Go.Proofs.YtebjbmgfbejapaaW.PrintLast Go.Proofs.YtebjbmgfbejapaaW.PrintMore Go.Proofs.YtebjbmgfbejapaaX
attribute [local go_sem] max2_int cell_some xrun_add64 xrun_sub64
attribute [local go_sem] max2_int min2_int max_two min_two max_three min_three max_four min_four
set_option linter.unusedVariables false
set_option linter.unusedSimpArgs false
def chattellaw02_wakes.f (k : Nat)  : Option (Bool) := (nat_Of.f k (([100] : List Int))).bind fun t792 => ((nat_Of.f k (([7] : List Int))).bind fun t798 => ((quot_Div.f k t792 t798).bind fun bt801 => ((nat_Of.f k (([1] : List Int))).bind fun t813 => ((quot_Div.f k t813 ([] : List Int)).bind fun bt816 => ((nat_Of.f k (([1] : List Int))).bind fun t828 => ((quot_Shl.f k t828 64).bind fun bt831 => (if bt801.2.2 = 0 then ((nat_Of.f k (([14] : List Int))).bind fun t839 => ((nat_Nat_Cmp.f k bt801.1 t839).bind fun t842 => (if t842 = 0 then ((nat_Of.f k (([2] : List Int))).bind fun t846 => ((nat_Nat_Cmp.f k bt801.2.1 t846).bind fun t849 => (if t849 = 0 then (if bt816.2.2 = 8 then ((nat_Of.f k (([12] : List Int))).bind fun t853 => ((nat_Of.f k (([18] : List Int))).bind fun t859 => ((quot_Gcd.f k t853 t859).bind fun t862 => ((nat_Of.f k (([6] : List Int))).bind fun t868 => ((nat_Nat_Cmp.f k t862 t868).bind fun t871 => (if t871 = 0 then ((nat_Nat_Bits.f k bt831.1).bind fun t872 => (if t872 = 65 then (some (bt831.2 == 0)) else (some false))) else (some false))))))) else (some false)) else (some false)))) else (some false)))) else (some false))))))))
theorem chattellaw02_wakes.mono : ∀ k, LeO (chattellaw02_wakes.f k ) (chattellaw02_wakes.f (k + 1) ) := by
 intro  k
 unfold chattellaw02_wakes.f
 repeat' first
   | (with_reducible exact nat_Nat_Bits.mono _ _)
   | (with_reducible exact nat_Nat_Cmp.mono _ _ _)
   | (with_reducible exact nat_Of.mono _ _)
   | (with_reducible exact quot_Div.mono _ _ _)
   | (with_reducible exact quot_Gcd.mono _ _ _)
   | (with_reducible exact quot_Shl.mono _ _ _)
   | (with_reducible exact LeO.refl _)
   | (with_reducible exact LeO.none _)
   | (with_reducible refine LeO.ite ?_ ?_)
   | (with_reducible refine LeO.bind ?_ (fun _ => ?_))
   | exact nat_Nat_Bits.mono _ _
   | exact nat_Nat_Cmp.mono _ _ _
   | exact nat_Of.mono _ _
   | exact quot_Div.mono _ _ _
   | exact quot_Gcd.mono _ _ _
   | exact quot_Shl.mono _ _ _
   | exact LeO.none _
   | refine LeO.ite ?_ ?_
   | refine LeO.bind ?_ (fun _ => ?_)
def chattellaw02_wakes.T4 : Bool × List (List Nat × List Nat) := (true, [([], []), ([0], [0]), ([1], [1]), ([2], [2]), ([2], [2]), ([4, 2, 2], [2, 4]), ([3, 5, 5, 2], [2, 3, 5]), ([6, 2], [2, 6]), ([2, 7], [2, 7]), ([8, 6], [8]), ([9], [9]), ([9], [9]), ([11, 9, 9], [9, 11]), ([10, 12, 12, 9], [9, 10, 12]), ([13, 9], [9, 13]), ([9, 14], [9, 14]), ([15, 13], [15]), ([16], [16]), ([17, 16], [16, 17]), ([16, 18], [16, 18]), ([19, 16], [19]), ([20], [20]), ([21, 20, 20], [20, 21]), ([20], [20]), ([23, 22, 20], [20, 23]), ([22, 24, 24, 20], [20, 22, 24]), ([20], [20]), ([26, 25, 20], [20, 26]), ([25, 27, 27, 20], [20, 25, 27]), ([28, 20], [20, 28]), ([20, 29], [20, 29]), ([30, 28], [30]), ([31], [31]), ([32, 31, 31], [31, 32]), ([33, 31], [31, 33]), ([31, 34], [31, 34]), ([35, 33], [35]), ([36], [36]), ([37, 36], [36, 37]), ([36, 38], [36, 38]), ([39, 36, 0, 1, 2, 3, 4, 5, 6, 7, 8, 9, 10, 11, 12, 13, 14, 15, 16, 17, 18, 19, 20, 21, 22, 23, 24, 25, 26, 27, 28, 29, 30, 31, 32, 33, 34, 35, 36, 37, 38, 39], [39])])
def chattellaw02_wakes.B4 : List Nat := [0, 1, 3, 7, 7, 23, 63, 127, 255, 511, 1023, 1023, 3071, 8191, 16383, 32767, 65535, 131071, 262143, 524287, 1048575, 2097151, 4194303, 2097151, 16777215, 33554431, 2097151, 134217727, 268435455, 536870911, 1073741823, 2147483647, 4294967295, 8589934591, 17179869183, 34359738367, 68719476735, 137438953471, 274877906943, 549755813887, 1099511627775]
theorem chattellaw02_wakes.tab4 : rtab .any (opsOf Try.f34 4) = chattellaw02_wakes.T4 := by kernel_rfl
theorem chattellaw02_wakes.bits4 : waitsOk chattellaw02_wakes.T4.2 chattellaw02_wakes.B4 = true := by kernel_rfl
set_option maxHeartbeats 8000000 in
set_option maxRecDepth 100000 in
theorem chattellaw02_wakes.calls (k : Nat)  (r : Bool) (w : World) (h : chattellaw02_wakes.f k  = some r) (ht_ : r = true) :
  Calls Try.prog 34 #[] w fun e w' => e = .returned (.bool r) ∧ Below w.heap.size w w' := by
 have hu25 := Try.underlying25
 have HB := Aside0.mk (Below.refl w.heap.size w)
 have H : ((nat_Of.f k (([100] : List Int))).bind fun t792 => ((nat_Of.f k (([7] : List Int))).bind fun t798 => ((quot_Div.f k t792 t798).bind fun bt801 => ((nat_Of.f k (([1] : List Int))).bind fun t813 => ((quot_Div.f k t813 ([] : List Int)).bind fun bt816 => ((nat_Of.f k (([1] : List Int))).bind fun t828 => ((quot_Shl.f k t828 64).bind fun bt831 => (if bt801.2.2 = 0 then ((nat_Of.f k (([14] : List Int))).bind fun t839 => ((nat_Nat_Cmp.f k bt801.1 t839).bind fun t842 => (if t842 = 0 then ((nat_Of.f k (([2] : List Int))).bind fun t846 => ((nat_Nat_Cmp.f k bt801.2.1 t846).bind fun t849 => (if t849 = 0 then (if bt816.2.2 = 8 then ((nat_Of.f k (([12] : List Int))).bind fun t853 => ((nat_Of.f k (([18] : List Int))).bind fun t859 => ((quot_Gcd.f k t853 t859).bind fun t862 => ((nat_Of.f k (([6] : List Int))).bind fun t868 => ((nat_Nat_Cmp.f k t862 t868).bind fun t871 => (if t871 = 0 then ((nat_Nat_Bits.f k bt831.1).bind fun t872 => (if t872 = 65 then (some (bt831.2 == 0)) else (some false))) else (some false))))))) else (some false)) else (some false)))) else (some false)))) else (some false))))))))) = some r := h
 clear h
 obtain ⟨y789, hy789⟩ : ∃ y_ : List Int, y_ = (([100] : List Int)) := ⟨_, rfl⟩
 replace H : ((nat_Of.f k y789).bind fun t792 => ((nat_Of.f k (([7] : List Int))).bind fun t798 => ((quot_Div.f k t792 t798).bind fun bt801 => ((nat_Of.f k (([1] : List Int))).bind fun t813 => ((quot_Div.f k t813 ([] : List Int)).bind fun bt816 => ((nat_Of.f k (([1] : List Int))).bind fun t828 => ((quot_Shl.f k t828 64).bind fun bt831 => (if bt801.2.2 = 0 then ((nat_Of.f k (([14] : List Int))).bind fun t839 => ((nat_Nat_Cmp.f k bt801.1 t839).bind fun t842 => (if t842 = 0 then ((nat_Of.f k (([2] : List Int))).bind fun t846 => ((nat_Nat_Cmp.f k bt801.2.1 t846).bind fun t849 => (if t849 = 0 then (if bt816.2.2 = 8 then ((nat_Of.f k (([12] : List Int))).bind fun t853 => ((nat_Of.f k (([18] : List Int))).bind fun t859 => ((quot_Gcd.f k t853 t859).bind fun t862 => ((nat_Of.f k (([6] : List Int))).bind fun t868 => ((nat_Nat_Cmp.f k t862 t868).bind fun t871 => (if t871 = 0 then ((nat_Nat_Bits.f k bt831.1).bind fun t872 => (if t872 = 65 then (some (bt831.2 == 0)) else (some false))) else (some false))))))) else (some false)) else (some false)))) else (some false)))) else (some false))))))))) = some r := by first | (rw [hy789]; with_reducible exact H) | (have H2_ := (Option.bind_some _ _).symm.trans H; rw [hy789]; with_reducible exact H2_) | (have H2_ := (Option.bind_some _ _).symm.trans H; with_reducible exact H2_) | with_reducible exact H | (rw [hy789]; exact H) | exact H
 have Ny789 := Aside0.mk hy789
 clear hy789
 replace H := Option.bind_eq_some_iff.mp H
 obtain ⟨t792, A10, H⟩ := H
 (try dsimp only at H)
 have A1 := Aside0.mk A10
 clear A10
 obtain ⟨y795, hy795⟩ : ∃ y_ : List Int, y_ = (([7] : List Int)) := ⟨_, rfl⟩
 replace H : ((nat_Of.f k y795).bind fun t798 => ((quot_Div.f k t792 t798).bind fun bt801 => ((nat_Of.f k (([1] : List Int))).bind fun t813 => ((quot_Div.f k t813 ([] : List Int)).bind fun bt816 => ((nat_Of.f k (([1] : List Int))).bind fun t828 => ((quot_Shl.f k t828 64).bind fun bt831 => (if bt801.2.2 = 0 then ((nat_Of.f k (([14] : List Int))).bind fun t839 => ((nat_Nat_Cmp.f k bt801.1 t839).bind fun t842 => (if t842 = 0 then ((nat_Of.f k (([2] : List Int))).bind fun t846 => ((nat_Nat_Cmp.f k bt801.2.1 t846).bind fun t849 => (if t849 = 0 then (if bt816.2.2 = 8 then ((nat_Of.f k (([12] : List Int))).bind fun t853 => ((nat_Of.f k (([18] : List Int))).bind fun t859 => ((quot_Gcd.f k t853 t859).bind fun t862 => ((nat_Of.f k (([6] : List Int))).bind fun t868 => ((nat_Nat_Cmp.f k t862 t868).bind fun t871 => (if t871 = 0 then ((nat_Nat_Bits.f k bt831.1).bind fun t872 => (if t872 = 65 then (some (bt831.2 == 0)) else (some false))) else (some false))))))) else (some false)) else (some false)))) else (some false)))) else (some false)))))))) = some r := by first | (rw [hy795]; with_reducible exact H) | (have H2_ := (Option.bind_some _ _).symm.trans H; rw [hy795]; with_reducible exact H2_) | (have H2_ := (Option.bind_some _ _).symm.trans H; with_reducible exact H2_) | with_reducible exact H | (rw [hy795]; exact H) | exact H
 have Ny795 := Aside0.mk hy795
 clear hy795
 replace H := Option.bind_eq_some_iff.mp H
 obtain ⟨t798, A20, H⟩ := H
 (try dsimp only at H)
 have A2 := Aside0.mk A20
 clear A20
 replace H := Option.bind_eq_some_iff.mp H
 obtain ⟨⟨t801, t804, t807⟩, A30, H⟩ := H
 (try dsimp only at H)
 have A3 := Aside0.mk A30
 clear A30
 obtain ⟨y810, hy810⟩ : ∃ y_ : List Int, y_ = (([1] : List Int)) := ⟨_, rfl⟩
 replace H : ((nat_Of.f k y810).bind fun t813 => ((quot_Div.f k t813 ([] : List Int)).bind fun bt816 => ((nat_Of.f k (([1] : List Int))).bind fun t828 => ((quot_Shl.f k t828 64).bind fun bt831 => (if t807 = 0 then ((nat_Of.f k (([14] : List Int))).bind fun t839 => ((nat_Nat_Cmp.f k t801 t839).bind fun t842 => (if t842 = 0 then ((nat_Of.f k (([2] : List Int))).bind fun t846 => ((nat_Nat_Cmp.f k t804 t846).bind fun t849 => (if t849 = 0 then (if bt816.2.2 = 8 then ((nat_Of.f k (([12] : List Int))).bind fun t853 => ((nat_Of.f k (([18] : List Int))).bind fun t859 => ((quot_Gcd.f k t853 t859).bind fun t862 => ((nat_Of.f k (([6] : List Int))).bind fun t868 => ((nat_Nat_Cmp.f k t862 t868).bind fun t871 => (if t871 = 0 then ((nat_Nat_Bits.f k bt831.1).bind fun t872 => (if t872 = 65 then (some (bt831.2 == 0)) else (some false))) else (some false))))))) else (some false)) else (some false)))) else (some false)))) else (some false)))))) = some r := by first | (rw [hy810]; with_reducible exact H) | (have H2_ := (Option.bind_some _ _).symm.trans H; rw [hy810]; with_reducible exact H2_) | (have H2_ := (Option.bind_some _ _).symm.trans H; with_reducible exact H2_) | with_reducible exact H | (rw [hy810]; exact H) | exact H
 have Ny810 := Aside0.mk hy810
 clear hy810
 replace H := Option.bind_eq_some_iff.mp H
 obtain ⟨t813, A40, H⟩ := H
 (try dsimp only at H)
 have A4 := Aside0.mk A40
 clear A40
 replace H := Option.bind_eq_some_iff.mp H
 obtain ⟨⟨t816, t819, t822⟩, A50, H⟩ := H
 (try dsimp only at H)
 have A5 := Aside0.mk A50
 clear A50
 obtain ⟨y825, hy825⟩ : ∃ y_ : List Int, y_ = (([1] : List Int)) := ⟨_, rfl⟩
 replace H : ((nat_Of.f k y825).bind fun t828 => ((quot_Shl.f k t828 64).bind fun bt831 => (if t807 = 0 then ((nat_Of.f k (([14] : List Int))).bind fun t839 => ((nat_Nat_Cmp.f k t801 t839).bind fun t842 => (if t842 = 0 then ((nat_Of.f k (([2] : List Int))).bind fun t846 => ((nat_Nat_Cmp.f k t804 t846).bind fun t849 => (if t849 = 0 then (if t822 = 8 then ((nat_Of.f k (([12] : List Int))).bind fun t853 => ((nat_Of.f k (([18] : List Int))).bind fun t859 => ((quot_Gcd.f k t853 t859).bind fun t862 => ((nat_Of.f k (([6] : List Int))).bind fun t868 => ((nat_Nat_Cmp.f k t862 t868).bind fun t871 => (if t871 = 0 then ((nat_Nat_Bits.f k bt831.1).bind fun t872 => (if t872 = 65 then (some (bt831.2 == 0)) else (some false))) else (some false))))))) else (some false)) else (some false)))) else (some false)))) else (some false)))) = some r := by first | (rw [hy825]; with_reducible exact H) | (have H2_ := (Option.bind_some _ _).symm.trans H; rw [hy825]; with_reducible exact H2_) | (have H2_ := (Option.bind_some _ _).symm.trans H; with_reducible exact H2_) | with_reducible exact H | (rw [hy825]; exact H) | exact H
 have Ny825 := Aside0.mk hy825
 clear hy825
 replace H := Option.bind_eq_some_iff.mp H
 obtain ⟨t828, A60, H⟩ := H
 (try dsimp only at H)
 have A6 := Aside0.mk A60
 clear A60
 replace H := Option.bind_eq_some_iff.mp H
 obtain ⟨⟨t831, t834⟩, A70, H⟩ := H
 (try dsimp only at H)
 have A7 := Aside0.mk A70
 clear A70
 by_cases c8 : t807 = 0
 rotate_left
 ·rw [if_neg c8] at H
  have c8b0 : (t807 == 0) = false := beq_eq_false_iff_ne.mpr c8
  have c8b1 : (t807 != 0) = true := bne_iff_ne.mpr c8
  exact absurd (Option.some.inj H) (by rw [ht_]; decide)
 rw [if_pos c8] at H
 have c8b0 : (t807 == 0) = true := beq_iff_eq.mpr c8
 have c8b1 : (t807 != 0) = false := bne_eq_false_iff_eq.mpr c8
 clear c8
 obtain ⟨y836, hy836⟩ : ∃ y_ : List Int, y_ = (([14] : List Int)) := ⟨_, rfl⟩
 replace H : ((nat_Of.f k y836).bind fun t839 => ((nat_Nat_Cmp.f k t801 t839).bind fun t842 => (if t842 = 0 then ((nat_Of.f k (([2] : List Int))).bind fun t846 => ((nat_Nat_Cmp.f k t804 t846).bind fun t849 => (if t849 = 0 then (if t822 = 8 then ((nat_Of.f k (([12] : List Int))).bind fun t853 => ((nat_Of.f k (([18] : List Int))).bind fun t859 => ((quot_Gcd.f k t853 t859).bind fun t862 => ((nat_Of.f k (([6] : List Int))).bind fun t868 => ((nat_Nat_Cmp.f k t862 t868).bind fun t871 => (if t871 = 0 then ((nat_Nat_Bits.f k t831).bind fun t872 => (if t872 = 65 then (some (t834 == 0)) else (some false))) else (some false))))))) else (some false)) else (some false)))) else (some false)))) = some r := by first | (rw [hy836]; with_reducible exact H) | (have H2_ := (Option.bind_some _ _).symm.trans H; rw [hy836]; with_reducible exact H2_) | (have H2_ := (Option.bind_some _ _).symm.trans H; with_reducible exact H2_) | with_reducible exact H | (rw [hy836]; exact H) | exact H
 have Ny836 := Aside0.mk hy836
 clear hy836
 replace H := Option.bind_eq_some_iff.mp H
 obtain ⟨t839, A90, H⟩ := H
 (try dsimp only at H)
 have A9 := Aside0.mk A90
 clear A90
 replace H := Option.bind_eq_some_iff.mp H
 obtain ⟨t842, A100, H⟩ := H
 (try dsimp only at H)
 have A10 := Aside0.mk A100
 clear A100
 by_cases c11 : t842 = 0
 rotate_left
 ·rw [if_neg c11] at H
  have c11b0 : (t842 == 0) = false := beq_eq_false_iff_ne.mpr c11
  have c11b1 : (t842 != 0) = true := bne_iff_ne.mpr c11
  exact absurd (Option.some.inj H) (by rw [ht_]; decide)
 rw [if_pos c11] at H
 have c11b0 : (t842 == 0) = true := beq_iff_eq.mpr c11
 have c11b1 : (t842 != 0) = false := bne_eq_false_iff_eq.mpr c11
 clear c11
 obtain ⟨y843, hy843⟩ : ∃ y_ : List Int, y_ = (([2] : List Int)) := ⟨_, rfl⟩
 replace H : ((nat_Of.f k y843).bind fun t846 => ((nat_Nat_Cmp.f k t804 t846).bind fun t849 => (if t849 = 0 then (if t822 = 8 then ((nat_Of.f k (([12] : List Int))).bind fun t853 => ((nat_Of.f k (([18] : List Int))).bind fun t859 => ((quot_Gcd.f k t853 t859).bind fun t862 => ((nat_Of.f k (([6] : List Int))).bind fun t868 => ((nat_Nat_Cmp.f k t862 t868).bind fun t871 => (if t871 = 0 then ((nat_Nat_Bits.f k t831).bind fun t872 => (if t872 = 65 then (some (t834 == 0)) else (some false))) else (some false))))))) else (some false)) else (some false)))) = some r := by first | (rw [hy843]; with_reducible exact H) | (have H2_ := (Option.bind_some _ _).symm.trans H; rw [hy843]; with_reducible exact H2_) | (have H2_ := (Option.bind_some _ _).symm.trans H; with_reducible exact H2_) | with_reducible exact H | (rw [hy843]; exact H) | exact H
 have Ny843 := Aside0.mk hy843
 clear hy843
 replace H := Option.bind_eq_some_iff.mp H
 obtain ⟨t846, A120, H⟩ := H
 (try dsimp only at H)
 have A12 := Aside0.mk A120
 clear A120
 replace H := Option.bind_eq_some_iff.mp H
 obtain ⟨t849, A130, H⟩ := H
 (try dsimp only at H)
 have A13 := Aside0.mk A130
 clear A130
 by_cases c14 : t849 = 0
 rotate_left
 ·rw [if_neg c14] at H
  have c14b0 : (t849 == 0) = false := beq_eq_false_iff_ne.mpr c14
  have c14b1 : (t849 != 0) = true := bne_iff_ne.mpr c14
  exact absurd (Option.some.inj H) (by rw [ht_]; decide)
 rw [if_pos c14] at H
 have c14b0 : (t849 == 0) = true := beq_iff_eq.mpr c14
 have c14b1 : (t849 != 0) = false := bne_eq_false_iff_eq.mpr c14
 clear c14
 by_cases c15 : t822 = 8
 rotate_left
 ·rw [if_neg c15] at H
  have c15b0 : (t822 == 8) = false := beq_eq_false_iff_ne.mpr c15
  have c15b1 : (t822 != 8) = true := bne_iff_ne.mpr c15
  exact absurd (Option.some.inj H) (by rw [ht_]; decide)
 rw [if_pos c15] at H
 have c15b0 : (t822 == 8) = true := beq_iff_eq.mpr c15
 have c15b1 : (t822 != 8) = false := bne_eq_false_iff_eq.mpr c15
 clear c15
 obtain ⟨y850, hy850⟩ : ∃ y_ : List Int, y_ = (([12] : List Int)) := ⟨_, rfl⟩
 replace H : ((nat_Of.f k y850).bind fun t853 => ((nat_Of.f k (([18] : List Int))).bind fun t859 => ((quot_Gcd.f k t853 t859).bind fun t862 => ((nat_Of.f k (([6] : List Int))).bind fun t868 => ((nat_Nat_Cmp.f k t862 t868).bind fun t871 => (if t871 = 0 then ((nat_Nat_Bits.f k t831).bind fun t872 => (if t872 = 65 then (some (t834 == 0)) else (some false))) else (some false))))))) = some r := by first | (rw [hy850]; with_reducible exact H) | (have H2_ := (Option.bind_some _ _).symm.trans H; rw [hy850]; with_reducible exact H2_) | (have H2_ := (Option.bind_some _ _).symm.trans H; with_reducible exact H2_) | with_reducible exact H | (rw [hy850]; exact H) | exact H
 have Ny850 := Aside0.mk hy850
 clear hy850
 replace H := Option.bind_eq_some_iff.mp H
 obtain ⟨t853, A160, H⟩ := H
 (try dsimp only at H)
 have A16 := Aside0.mk A160
 clear A160
 obtain ⟨y856, hy856⟩ : ∃ y_ : List Int, y_ = (([18] : List Int)) := ⟨_, rfl⟩
 replace H : ((nat_Of.f k y856).bind fun t859 => ((quot_Gcd.f k t853 t859).bind fun t862 => ((nat_Of.f k (([6] : List Int))).bind fun t868 => ((nat_Nat_Cmp.f k t862 t868).bind fun t871 => (if t871 = 0 then ((nat_Nat_Bits.f k t831).bind fun t872 => (if t872 = 65 then (some (t834 == 0)) else (some false))) else (some false)))))) = some r := by first | (rw [hy856]; with_reducible exact H) | (have H2_ := (Option.bind_some _ _).symm.trans H; rw [hy856]; with_reducible exact H2_) | (have H2_ := (Option.bind_some _ _).symm.trans H; with_reducible exact H2_) | with_reducible exact H | (rw [hy856]; exact H) | exact H
 have Ny856 := Aside0.mk hy856
 clear hy856
 replace H := Option.bind_eq_some_iff.mp H
 obtain ⟨t859, A170, H⟩ := H
 (try dsimp only at H)
 have A17 := Aside0.mk A170
 clear A170
 replace H := Option.bind_eq_some_iff.mp H
 obtain ⟨t862, A180, H⟩ := H
 (try dsimp only at H)
 have A18 := Aside0.mk A180
 clear A180
 obtain ⟨y865, hy865⟩ : ∃ y_ : List Int, y_ = (([6] : List Int)) := ⟨_, rfl⟩
 replace H : ((nat_Of.f k y865).bind fun t868 => ((nat_Nat_Cmp.f k t862 t868).bind fun t871 => (if t871 = 0 then ((nat_Nat_Bits.f k t831).bind fun t872 => (if t872 = 65 then (some (t834 == 0)) else (some false))) else (some false)))) = some r := by first | (rw [hy865]; with_reducible exact H) | (have H2_ := (Option.bind_some _ _).symm.trans H; rw [hy865]; with_reducible exact H2_) | (have H2_ := (Option.bind_some _ _).symm.trans H; with_reducible exact H2_) | with_reducible exact H | (rw [hy865]; exact H) | exact H
 have Ny865 := Aside0.mk hy865
 clear hy865
 replace H := Option.bind_eq_some_iff.mp H
 obtain ⟨t868, A190, H⟩ := H
 (try dsimp only at H)
 have A19 := Aside0.mk A190
 clear A190
 replace H := Option.bind_eq_some_iff.mp H
 obtain ⟨t871, A200, H⟩ := H
 (try dsimp only at H)
 have A20 := Aside0.mk A200
 clear A200
 by_cases c21 : t871 = 0
 rotate_left
 ·rw [if_neg c21] at H
  have c21b0 : (t871 == 0) = false := beq_eq_false_iff_ne.mpr c21
  have c21b1 : (t871 != 0) = true := bne_iff_ne.mpr c21
  exact absurd (Option.some.inj H) (by rw [ht_]; decide)
 rw [if_pos c21] at H
 have c21b0 : (t871 == 0) = true := beq_iff_eq.mpr c21
 have c21b1 : (t871 != 0) = false := bne_eq_false_iff_eq.mpr c21
 clear c21
 replace H := Option.bind_eq_some_iff.mp H
 obtain ⟨t872, A220, H⟩ := H
 (try dsimp only at H)
 have A22 := Aside0.mk A220
 clear A220
 by_cases c23 : t872 = 65
 rotate_left
 ·rw [if_neg c23] at H
  have c23b0 : (t872 == 65) = false := beq_eq_false_iff_ne.mpr c23
  have c23b1 : (t872 != 65) = true := bne_iff_ne.mpr c23
  exact absurd (Option.some.inj H) (by rw [ht_]; decide)
 rw [if_pos c23] at H
 have c23b0 : (t872 == 65) = true := beq_iff_eq.mpr c23
 have c23b1 : (t872 != 65) = false := bne_eq_false_iff_eq.mpr c23
 clear c23
 obtain rfl := Option.some.inj H
 go_enter Try.func34, Try.ntmps34
 try go_wp2_with (first | ((with_reducible refine gate_dst (N := 10) rfl ?_); (try (refine gate_guard (by rfl) ?_; dsimp only)); refine Kd.R_lit (Kd.int .u64) _ 27 ?hg (N := 10) ?hd (xs := ([100] : List Int)) (inner := [.int .u64 100]) (ok := fun _ => True) (okp := fun _ => True) ?hr ?hp (fun _ hk => hk) trivial (Below.refl _ _) (Nat.le_refl _) (by simp) ?_; (case hd => rfl); (case hg => rfl); (case hr => first | (go_simp; done) | (go_simp; rfl)); (case hp => exact (Reps.one (show Kd.M (Kd.int .u64) _ _ _ 100 [.int .u64 100] from rfl) (Reps.none _ _))); intro v790 w24 ho25 hb hg_ hnew_; clear hg_ hnew_; (first | rw [← Ny789.out] at ho25 | (simp only [Int.reduceToNat] at ho25; rw [← Ny789.out] at ho25)); have HO791 := Aside0.mk (Kd.R_lower ho25 (below_size (by repeat (first | (with_reducible first | exact HB.out | apply below_alloc | apply pw_below_drewN | apply below_drew1) | exact HB.out)))); replace HB := Aside0.mk (below_step (by repeat (first | (with_reducible first | exact HB.out | apply below_alloc | apply pw_below_drewN | apply below_drew1) | exact HB.out)) hb); clear hb ho25; obtain ⟨Ao26, co26, eo26⟩ := Kd.R_slice HO791.out; subst eo26) | ((with_reducible refine gate_callee (f := 14) rfl ?_); refine goesL_ (some 11) rfl rfl Try.func14 (by kernel_rfl) rfl #[.slice Ao26 y789.length co26] rfl (by (try simp only [List.map_toArray, List.map_cons, List.map_nil]); first | done | rfl | (simp only [List.length_drop, List.length_take]; rfl)) ?_; (with_reducible refine (nat_Of.calls k _ _ y789 t792 _ ?side1 ?side2 A1.out).mono ?_); (case side1 => exact cr HO791.out); (case side2 => exact (Kd.R_reads' HO791.out).2.1); rintro e w27 ⟨v793, rfl, ho0, hb⟩; refine ⟨_, rfl, ?_⟩; have n0_ := Aside0.mk (rb HO791.out hb); have n1_ := Aside0.mk (Kd.V_lower (Kd.V_mono (ok' := fun k_ => OB Ao26 y789 co26 k_) ho0 (fun k_ hk_ => (Kd.fresh' (Kd.R_lt HO791.out) k_ hk_))) (bz HB.out)); have n2_ := Aside0.mk (bs HB.out hb); clear HO791; clear HB; have HO791 := n0_; have HO794 := n1_; have HB := n2_; clear n0_ n1_ n2_; (try clear hb); (try clear hb2); (try clear hk); (try clear hi); (try clear ho0)) | ((with_reducible refine gate_dst (N := 12) rfl ?_); (try (refine gate_guard (by rfl) ?_; dsimp only)); refine Kd.R_lit (Kd.int .u64) _ 27 ?hg (N := 12) ?hd (xs := ([7] : List Int)) (inner := [.int .u64 7]) (ok := fun _ => True) (okp := fun _ => True) ?hr ?hp (fun _ hk => hk) trivial (Below.refl _ _) (Nat.le_refl _) (by simp) ?_; (case hd => rfl); (case hg => rfl); (case hr => first | (go_simp; done) | (go_simp; rfl)); (case hp => exact (Reps.one (show Kd.M (Kd.int .u64) _ _ _ 7 [.int .u64 7] from rfl) (Reps.none _ _))); intro v796 w28 ho29 hb hg_ hnew_; clear hg_ hnew_; (first | rw [← Ny795.out] at ho29 | (simp only [Int.reduceToNat] at ho29; rw [← Ny795.out] at ho29)); have n0_ := Aside0.mk (Kd.R_elder' HO791.out (Kd.R_base ho29) hb); have n1_ := Aside0.mk (Kd.V_elder' HO794.out (Kd.R_base ho29) hb); have n2_ := Aside0.mk (Kd.R_lower (Kd.R_new' ho29 (Kd.R_lt HO791.out)) (below_size (by repeat (first | (with_reducible first | exact HB.out | apply below_alloc | apply pw_below_drewN | apply below_drew1) | exact HB.out)))); have n3_ := Aside0.mk (below_step (by repeat (first | (with_reducible first | exact HB.out | apply below_alloc | apply pw_below_drewN | apply below_drew1) | exact HB.out)) hb); clear HO791; clear HO794; clear HB; have HO791 := n0_; have HO794 := n1_; have HO797 := n2_; have HB := n3_; clear n0_ n1_ n2_ n3_; clear hb ho29; obtain ⟨Ao30, co30, eo30⟩ := Kd.R_slice HO797.out; subst eo30) | ((with_reducible refine gate_callee (f := 14) rfl ?_); refine goesL_ (some 13) rfl rfl Try.func14 (by kernel_rfl) rfl #[.slice Ao30 y795.length co30] rfl (by (try simp only [List.map_toArray, List.map_cons, List.map_nil]); first | done | rfl | (simp only [List.length_drop, List.length_take]; rfl)) ?_; (with_reducible refine (nat_Of.calls k _ _ y795 t798 _ ?side1 ?side2 A2.out).mono ?_); (case side1 => exact cr HO797.out); (case side2 => exact (Kd.R_reads' HO797.out).2.1); rintro e w31 ⟨v799, rfl, ho0, hb⟩; refine ⟨_, rfl, ?_⟩; have n0_ := Aside0.mk (rb HO791.out hb); have n1_ := Aside0.mk (vb HO794.out hb); have n2_ := Aside0.mk (rb HO797.out hb); have n3_ := Aside0.mk (Kd.V_lower (Kd.V_mono (ok' := fun k_ => OB Ao26 y789 co26 k_ ∧ OB Ao30 y795 co30 k_) ho0 (fun k_ hk_ => ⟨(Kd.fresh' (Kd.R_lt HO791.out) k_ hk_), (Kd.fresh' (Kd.R_lt HO797.out) k_ hk_)⟩)) (bz HB.out)); have n4_ := Aside0.mk (bs HB.out hb); clear HO791; clear HO794; clear HO797; clear HB; have HO791 := n0_; have HO794 := n1_; have HO797 := n2_; have HO800 := n3_; have HB := n4_; clear n0_ n1_ n2_ n3_ n4_; (try clear hb); (try clear hb2); (try clear hk); (try clear hi); (try clear ho0); obtain ⟨Ao32, co32, eo32⟩ := Kd.V_slice HO794.out; subst eo32; obtain ⟨Ao33, co33, eo33⟩ := Kd.V_slice HO800.out; subst eo33) | ((with_reducible refine gate_callee (f := 32) rfl ?_); refine goesL_ (some 14) rfl rfl Try.func32 (by kernel_rfl) rfl #[.agg #[.slice Ao32 t792.length co32], .agg #[.slice Ao33 t798.length co33]] rfl (by (try simp only [List.map_toArray, List.map_cons, List.map_nil]); first | done | rfl | (simp only [List.length_drop, List.length_take]; rfl)) ?_; (with_reducible refine (quot_Div.calls k (fun k_ => (OB Ao26 y789 co26 k_ ∧ OB Ao30 y795 co30 k_)) _ _ t792 _ _ t798 t801 t804 t807 _ ?side1 ?side2 ?side3 A3.out).mono ?_); (case side1 => exact HO794.out); (case side2 => exact cv HO800.out); (case side3 => exact (Kd.V_reads' HO800.out).2.1); rintro e w34 ⟨v802, v805, rfl, ho0, ho1, hb⟩; refine ⟨_, rfl, ?_⟩; have n0_ := Aside0.mk (rb HO791.out hb); have n1_ := Aside0.mk (vb HO794.out hb); have n2_ := Aside0.mk (rb HO797.out hb); have n3_ := Aside0.mk (vb HO800.out hb); have n4_ := Aside0.mk (Kd.V_lower (Kd.V_mono (ok' := fun k_ => OB Ao26 y789 co26 k_ ∧ OB Ao30 y795 co30 k_) ho0 (fun k_ hk_ => ⟨Or.elim hk_ (fun hs_ => hs_.1) (fun hn_ => (Kd.fresh' (Kd.R_lt HO791.out) k_ hn_)), Or.elim hk_ (fun hs_ => hs_.2) (fun hn_ => (Kd.fresh' (Kd.R_lt HO797.out) k_ hn_))⟩)) (bz HB.out)); have n5_ := Aside0.mk (Kd.V_lower (Kd.V_mono (ok' := fun k_ => OB Ao26 y789 co26 k_ ∧ OB Ao30 y795 co30 k_) ho1 (fun k_ hk_ => ⟨Or.elim hk_ (fun hs_ => hs_.1) (fun hn_ => (Kd.fresh' (Kd.R_lt HO791.out) k_ hn_)), Or.elim hk_ (fun hs_ => hs_.2) (fun hn_ => (Kd.fresh' (Kd.R_lt HO797.out) k_ hn_))⟩)) (bz HB.out)); have n6_ := Aside0.mk (bs HB.out hb); clear HO791; clear HO794; clear HO797; clear HO800; clear HB; have HO791 := n0_; have HO794 := n1_; have HO797 := n2_; have HO800 := n3_; have HO803 := n4_; have HO806 := n5_; have HB := n6_; clear n0_ n1_ n2_ n3_ n4_ n5_ n6_; (try clear hb); (try clear hb2); (try clear hk); (try clear hi); (try clear ho0); (try clear ho1)) | ((with_reducible refine gate_dst (N := 1) rfl ?_); (try (refine gate_guard (by rfl) ?_; dsimp only)); refine box_event ?hg (N := 1) ?hd (cs := #[.slice none 0 0]) (t := 25) ?hr ?_; (case hd => rfl); (case hg => rfl); (case hr => first | (go_simp; done) | (go_simp; rfl)); intro gb808 hg w35 hbox hb; have n0_ := Aside0.mk (rb HO791.out hb); have n1_ := Aside0.mk (Kd.V_below (Kd.V_elderB HO794.out gb808 (Nat.le_of_eq hg.symm)) hb); have n2_ := Aside0.mk (rb HO797.out hb); have n3_ := Aside0.mk (Kd.V_below (Kd.V_elderB HO800.out gb808 (Nat.le_of_eq hg.symm)) hb); have n4_ := Aside0.mk (Kd.V_below (Kd.V_elderB HO803.out gb808 (Nat.le_of_eq hg.symm)) hb); have n5_ := Aside0.mk (Kd.V_below (Kd.V_elderB HO806.out gb808 (Nat.le_of_eq hg.symm)) hb); have n6_ := Aside0.mk (bs HB.out hb); have n7_ := Aside0.mk (hbox); have n8_ := Aside0.mk ((by rw [hg]; exact (bz HB.out) : w.heap.size ≤ gb808)); have n9_ := Aside0.mk ((by rw [hg]; exact (bz HB.out) : w.heap.size ≤ gb808)); clear HO791; clear HO794; clear HO797; clear HO800; clear HO803; clear HO806; clear HB; have HO791 := n0_; have HO794 := n1_; have HO797 := n2_; have HO800 := n3_; have HO803 := n4_; have HO806 := n5_; have HB := n6_; have BK808 := n7_; have GW808 := n8_; have GE808 := n9_; clear n0_ n1_ n2_ n3_ n4_ n5_ n6_ n7_ n8_ n9_; clear hb hbox hg) | ((with_reducible refine gate_dst (N := 2) rfl ?_); (try (refine gate_guard (by rfl) ?_; dsimp only)); refine box_event ?hg (N := 2) ?hd (cs := #[.slice none 0 0]) (t := 25) ?hr ?_; (case hd => rfl); (case hg => rfl); (case hr => first | (go_simp; done) | (go_simp; rfl)); intro gb809 hg w36 hbox hb; have n0_ := Aside0.mk (rb HO791.out hb); have n1_ := Aside0.mk (Kd.V_below (Kd.V_elderB HO794.out gb809 (Nat.le_of_eq hg.symm)) hb); have n2_ := Aside0.mk (rb HO797.out hb); have n3_ := Aside0.mk (Kd.V_below (Kd.V_elderB HO800.out gb809 (Nat.le_of_eq hg.symm)) hb); have n4_ := Aside0.mk (Kd.V_below (Kd.V_elderB HO803.out gb809 (Nat.le_of_eq hg.symm)) hb); have n5_ := Aside0.mk (Kd.V_below (Kd.V_elderB HO806.out gb809 (Nat.le_of_eq hg.symm)) hb); have n6_ := Aside0.mk (bb BK808.out hb); have n7_ := Aside0.mk (bs HB.out hb); have n8_ := Aside0.mk (hbox); have n9_ := Aside0.mk ((by rw [hg]; exact (bz HB.out) : w.heap.size ≤ gb809)); have n10_ := Aside0.mk ((by rw [hg]; exact (bz HB.out) : w.heap.size ≤ gb809)); have n11_ := Aside0.mk ((by rw [hg]; exact Nat.ne_of_lt (blk_lt (g := gb808) (o := .cells #[.slice none 0 0] 25 (0, 0)) BK808.out) : gb808 ≠ gb809)); have n12_ := Aside0.mk ((by rw [hg]; exact Nat.ne_of_gt (blk_lt (g := gb808) (o := .cells #[.slice none 0 0] 25 (0, 0)) BK808.out) : gb809 ≠ gb808)); clear HO791; clear HO794; clear HO797; clear HO800; clear HO803; clear HO806; clear BK808; clear HB; have HO791 := n0_; have HO794 := n1_; have HO797 := n2_; have HO800 := n3_; have HO803 := n4_; have HO806 := n5_; have BK808 := n6_; have HB := n7_; have BK809 := n8_; have GW809 := n9_; have GE809 := n10_; have NB808_809 := n11_; have NB809_808 := n12_; clear n0_ n1_ n2_ n3_ n4_ n5_ n6_ n7_ n8_ n9_ n10_ n11_ n12_; clear hb hbox hg; obtain ⟨Ao37, co37, eo37⟩ := Kd.V_slice HO803.out; subst eo37; have hnb38 := NB808_809.out; have hnc38 := NB809_808.out; have hcz39_0 : w36.cell? ⟨gb808, 0, none⟩ = some (.slice none 0 0) := (blk_cell BK808.out 0).trans rfl; have hfz39_0 := blk_frozen BK808.out 0; obtain ⟨Ao40, co40, eo40⟩ := Kd.V_slice HO806.out; subst eo40; have hcz41_0 : w36.cell? ⟨gb809, 0, none⟩ = some (.slice none 0 0) := (blk_cell BK809.out 0).trans rfl; have hfz41_0 := blk_frozen BK809.out 0) | ((with_reducible refine gate_dst (N := 19) rfl ?_); (try (refine gate_guard (by rfl) ?_; dsimp only)); refine Kd.R_lit (Kd.int .u64) _ 27 ?hg (N := 19) ?hd (xs := ([1] : List Int)) (inner := [.int .u64 1]) (ok := fun _ => True) (okp := fun _ => True) ?hr ?hp (fun _ hk => hk) trivial (Below.refl _ _) (Nat.le_refl _) (by simp) ?_; (case hd => rfl); (case hg => rfl); (case hr => first | (go_simp; done) | (go_simp; rfl)); (case hp => exact (Reps.one (show Kd.M (Kd.int .u64) _ _ _ 1 [.int .u64 1] from rfl) (Reps.none _ _))); intro v811 w42 ho43 hb hg_ hnew_; clear hg_ hnew_; (first | rw [← Ny810.out] at ho43 | (simp only [Int.reduceToNat] at ho43; rw [← Ny810.out] at ho43)); have n0_ := Aside0.mk (Kd.R_elder' (by (with_reducible repeat (first | apply Kd.R_alloc | apply Kd.R_drewN | apply Kd.R_drew)); exact (Kd.R_mono (Kd.R_mono (Kd.R_far (p := ⟨gb809, 0, none⟩) (Kd.R_far (p := ⟨gb808, 0, none⟩) (Kd.R_types (Kd.R_types HO791.out BK808.out (by decide)) BK809.out (by decide)) (fun _ hk => hk.1.2) (.slice Ao37 t801.length co37)) (fun _ hk => hk.2) (.slice Ao40 t804.length co40)) (fun _ h_ => h_.1)) (fun _ h_ => h_.1))) (Kd.R_base ho43) hb); have n1_ := Aside0.mk (Kd.V_elder' (by (with_reducible repeat (first | apply Kd.V_alloc | apply Kd.V_drewN | apply Kd.V_drew)); exact (Kd.V_mono (Kd.V_mono (Kd.V_far (p := ⟨gb809, 0, none⟩) (Kd.V_far (p := ⟨gb808, 0, none⟩) (Kd.V_mono (Kd.V_mono HO794.out (fun k_ hk => (⟨hk, hk.1.2⟩ : _ ∧ k_ ≠ gb808))) (fun k_ hk => (⟨hk, hk.1.2⟩ : _ ∧ k_ ≠ gb809))) (fun _ hk => hk.1.2) (.slice Ao37 t801.length co37)) (fun _ hk => hk.2) (.slice Ao40 t804.length co40)) (fun _ h_ => h_.1)) (fun _ h_ => h_.1))) (Kd.R_base ho43) hb); have n2_ := Aside0.mk (Kd.R_elder' (by (with_reducible repeat (first | apply Kd.R_alloc | apply Kd.R_drewN | apply Kd.R_drew)); exact (Kd.R_mono (Kd.R_mono (Kd.R_far (p := ⟨gb809, 0, none⟩) (Kd.R_far (p := ⟨gb808, 0, none⟩) (Kd.R_types (Kd.R_types HO797.out BK808.out (by decide)) BK809.out (by decide)) (fun _ hk => hk.1.2) (.slice Ao37 t801.length co37)) (fun _ hk => hk.2) (.slice Ao40 t804.length co40)) (fun _ h_ => h_.1)) (fun _ h_ => h_.1))) (Kd.R_base ho43) hb); have n3_ := Aside0.mk (Kd.V_elder' (by (with_reducible repeat (first | apply Kd.V_alloc | apply Kd.V_drewN | apply Kd.V_drew)); exact (Kd.V_mono (Kd.V_mono (Kd.V_far (p := ⟨gb809, 0, none⟩) (Kd.V_far (p := ⟨gb808, 0, none⟩) (Kd.V_mono (Kd.V_mono HO800.out (fun k_ hk => (⟨hk, hk.1.2⟩ : _ ∧ k_ ≠ gb808))) (fun k_ hk => (⟨hk, hk.1.2⟩ : _ ∧ k_ ≠ gb809))) (fun _ hk => hk.1.2) (.slice Ao37 t801.length co37)) (fun _ hk => hk.2) (.slice Ao40 t804.length co40)) (fun _ h_ => h_.1)) (fun _ h_ => h_.1))) (Kd.R_base ho43) hb); have n4_ := Aside0.mk (Kd.V_elder' (by (with_reducible repeat (first | apply Kd.V_alloc | apply Kd.V_drewN | apply Kd.V_drew)); exact (Kd.V_mono (Kd.V_mono (Kd.V_far (p := ⟨gb809, 0, none⟩) (Kd.V_far (p := ⟨gb808, 0, none⟩) (Kd.V_mono (Kd.V_mono HO803.out (fun k_ hk => (⟨hk, hk.1.2⟩ : _ ∧ k_ ≠ gb808))) (fun k_ hk => (⟨hk, hk.1.2⟩ : _ ∧ k_ ≠ gb809))) (fun _ hk => hk.1.2) (.slice Ao37 t801.length co37)) (fun _ hk => hk.2) (.slice Ao40 t804.length co40)) (fun _ h_ => h_.1)) (fun _ h_ => h_.1))) (Kd.R_base ho43) hb); have n5_ := Aside0.mk (Kd.V_elder' (by (with_reducible repeat (first | apply Kd.V_alloc | apply Kd.V_drewN | apply Kd.V_drew)); exact (Kd.V_mono (Kd.V_mono (Kd.V_far (p := ⟨gb809, 0, none⟩) (Kd.V_far (p := ⟨gb808, 0, none⟩) (Kd.V_mono (Kd.V_mono HO806.out (fun k_ hk => (⟨hk, hk.1.2⟩ : _ ∧ k_ ≠ gb808))) (fun k_ hk => (⟨hk, hk.1.2⟩ : _ ∧ k_ ≠ gb809))) (fun _ hk => hk.1.2) (.slice Ao37 t801.length co37)) (fun _ hk => hk.2) (.slice Ao40 t804.length co40)) (fun _ h_ => h_.1)) (fun _ h_ => h_.1))) (Kd.R_base ho43) hb); have n6_ := Aside0.mk (Kd.R_lower (Kd.R_new' (Kd.R_new' ho43 (Kd.R_lt (by (with_reducible repeat (first | apply Kd.R_alloc | apply Kd.R_drewN | apply Kd.R_drew)); exact (Kd.R_mono (Kd.R_mono (Kd.R_far (p := ⟨gb809, 0, none⟩) (Kd.R_far (p := ⟨gb808, 0, none⟩) (Kd.R_types (Kd.R_types HO791.out BK808.out (by decide)) BK809.out (by decide)) (fun _ hk => hk.1.2) (.slice Ao37 t801.length co37)) (fun _ hk => hk.2) (.slice Ao40 t804.length co40)) (fun _ h_ => h_.1)) (fun _ h_ => h_.1))))) (Kd.R_lt (by (with_reducible repeat (first | apply Kd.R_alloc | apply Kd.R_drewN | apply Kd.R_drew)); exact (Kd.R_mono (Kd.R_mono (Kd.R_far (p := ⟨gb809, 0, none⟩) (Kd.R_far (p := ⟨gb808, 0, none⟩) (Kd.R_types (Kd.R_types HO797.out BK808.out (by decide)) BK809.out (by decide)) (fun _ hk => hk.1.2) (.slice Ao37 t801.length co37)) (fun _ hk => hk.2) (.slice Ao40 t804.length co40)) (fun _ h_ => h_.1)) (fun _ h_ => h_.1))))) (below_size (by repeat (first | (with_reducible first | exact HB.out | apply below_alloc | apply pw_below_drewN | apply below_drew1 | refine below_set ?_ GE808.out | refine below_set ?_ GE809.out) | exact HB.out)))); have n7_ := Aside0.mk (blk_below (g := gb808) (o := .cells #[.slice Ao37 t801.length co37] 25 (0, 0)) (by (with_reducible repeat (first | refine blk_drewN ?_ _ | refine blk_drew ?_ | refine blk_alloc ?_ _)); refine blk_far ?_ NB808_809.out _; (with_reducible repeat (first | refine blk_drewN ?_ _ | refine blk_drew ?_ | refine blk_alloc ?_ _)); refine blk_put (cs := #[.slice none 0 0]) ?_ 0 _ rfl; (with_reducible repeat (first | refine blk_drewN ?_ _ | refine blk_drew ?_ | refine blk_alloc ?_ _)); exact BK808.out) hb); have n8_ := Aside0.mk (blk_below (g := gb809) (o := .cells #[.slice Ao40 t804.length co40] 25 (0, 0)) (by (with_reducible repeat (first | refine blk_drewN ?_ _ | refine blk_drew ?_ | refine blk_alloc ?_ _)); refine blk_put (cs := #[.slice none 0 0]) ?_ 0 _ rfl; (with_reducible repeat (first | refine blk_drewN ?_ _ | refine blk_drew ?_ | refine blk_alloc ?_ _)); refine blk_far ?_ NB809_808.out _; (with_reducible repeat (first | refine blk_drewN ?_ _ | refine blk_drew ?_ | refine blk_alloc ?_ _)); exact BK809.out) hb); have n9_ := Aside0.mk (below_step (by repeat (first | (with_reducible first | exact HB.out | apply below_alloc | apply pw_below_drewN | apply below_drew1 | refine below_set ?_ GE808.out | refine below_set ?_ GE809.out) | exact HB.out)) hb); clear HO791; clear HO794; clear HO797; clear HO800; clear HO803; clear HO806; clear BK808; clear BK809; clear HB; have HO791 := n0_; have HO794 := n1_; have HO797 := n2_; have HO800 := n3_; have HO803 := n4_; have HO806 := n5_; have HO812 := n6_; have BK808 := n7_; have BK809 := n8_; have HB := n9_; clear n0_ n1_ n2_ n3_ n4_ n5_ n6_ n7_ n8_ n9_; clear hb ho43; obtain ⟨Ao44, co44, eo44⟩ := Kd.R_slice HO812.out; subst eo44) | ((with_reducible refine gate_callee (f := 14) rfl ?_); refine goesL_ (some 20) rfl rfl Try.func14 (by kernel_rfl) rfl #[.slice Ao44 y810.length co44] rfl (by (try simp only [List.map_toArray, List.map_cons, List.map_nil]); first | done | rfl | (simp only [List.length_drop, List.length_take]; rfl)) ?_; (with_reducible refine (nat_Of.calls k _ _ y810 t813 _ ?side1 ?side2 A4.out).mono ?_); (case side1 => exact cr HO812.out); (case side2 => exact (Kd.R_reads' HO812.out).2.1); rintro e w45 ⟨v814, rfl, ho0, hb⟩; refine ⟨_, rfl, ?_⟩; have n0_ := Aside0.mk (rb HO791.out hb); have n1_ := Aside0.mk (vb HO794.out hb); have n2_ := Aside0.mk (rb HO797.out hb); have n3_ := Aside0.mk (vb HO800.out hb); have n4_ := Aside0.mk (vb HO803.out hb); have n5_ := Aside0.mk (vb HO806.out hb); have n6_ := Aside0.mk (rb HO812.out hb); have n7_ := Aside0.mk (Kd.V_lower (Kd.V_mono (ok' := fun k_ => OB Ao26 y789 co26 k_ ∧ OB Ao30 y795 co30 k_ ∧ OB Ao44 y810 co44 k_ ∧ k_ ≠ gb808 ∧ k_ ≠ gb809) ho0 (fun k_ hk_ => ⟨(Kd.fresh' (Kd.R_lt HO791.out) k_ hk_), (Kd.fresh' (Kd.R_lt HO797.out) k_ hk_), (Kd.fresh' (Kd.R_lt HO812.out) k_ hk_), (fb BK808.out k_ hk_), (fb BK809.out k_ hk_)⟩)) (bz HB.out)); have n8_ := Aside0.mk (bb BK808.out hb); have n9_ := Aside0.mk (bb BK809.out hb); have n10_ := Aside0.mk (bs HB.out hb); clear HO791; clear HO794; clear HO797; clear HO800; clear HO803; clear HO806; clear HO812; clear BK808; clear BK809; clear HB; have HO791 := n0_; have HO794 := n1_; have HO797 := n2_; have HO800 := n3_; have HO803 := n4_; have HO806 := n5_; have HO812 := n6_; have HO815 := n7_; have BK808 := n8_; have BK809 := n9_; have HB := n10_; clear n0_ n1_ n2_ n3_ n4_ n5_ n6_ n7_ n8_ n9_ n10_; (try clear hb); (try clear hb2); (try clear hk); (try clear hi); (try clear ho0); obtain ⟨Ao46, co46, eo46⟩ := Kd.V_slice HO815.out; subst eo46) | ((with_reducible refine gate_callee (f := 32) rfl ?_); refine goesL_ (some 22) rfl rfl Try.func32 (by kernel_rfl) rfl #[.agg #[.slice Ao46 t813.length co46], .agg #[.slice none 0 0]] rfl (by (try simp only [List.map_toArray, List.map_cons, List.map_nil]); first | done | rfl | (simp only [List.length_drop, List.length_take]; rfl)) ?_; (refine (quot_Div.calls k (fun k_ => (OB Ao26 y789 co26 k_ ∧ (OB Ao30 y795 co30 k_ ∧ (OB Ao44 y810 co44 k_ ∧ (k_ ≠ gb808 ∧ k_ ≠ gb809))))) _ _ t813 _ _ ([] : List Int) t816 t819 t822 _ ?side1 ?side2 ?side3 A5.out).mono ?_); (case side1 => exact HO815.out); (case side2 => exact Kd.C_nil _ _); (case side3 => exact Nat.le_refl _); rintro e w47 ⟨v817, v820, rfl, ho0, ho1, hb⟩; refine ⟨_, rfl, ?_⟩; have n0_ := Aside0.mk (rb HO791.out hb); have n1_ := Aside0.mk (vb HO794.out hb); have n2_ := Aside0.mk (rb HO797.out hb); have n3_ := Aside0.mk (vb HO800.out hb); have n4_ := Aside0.mk (vb HO803.out hb); have n5_ := Aside0.mk (vb HO806.out hb); have n6_ := Aside0.mk (rb HO812.out hb); have n7_ := Aside0.mk (vb HO815.out hb); have n8_ := Aside0.mk (Kd.V_lower (Kd.V_mono (ok' := fun k_ => OB Ao26 y789 co26 k_ ∧ OB Ao30 y795 co30 k_ ∧ OB Ao44 y810 co44 k_ ∧ k_ ≠ gb808 ∧ k_ ≠ gb809) ho0 (fun k_ hk_ => ⟨Or.elim hk_ (fun hs_ => hs_.1) (fun hn_ => (Kd.fresh' (Kd.R_lt HO791.out) k_ hn_)), Or.elim hk_ (fun hs_ => hs_.2.1) (fun hn_ => (Kd.fresh' (Kd.R_lt HO797.out) k_ hn_)), Or.elim hk_ (fun hs_ => hs_.2.2.1) (fun hn_ => (Kd.fresh' (Kd.R_lt HO812.out) k_ hn_)), Or.elim hk_ (fun hs_ => hs_.2.2.2.1) (fun hn_ => (fb BK808.out k_ hn_)), Or.elim hk_ (fun hs_ => hs_.2.2.2.2) (fun hn_ => (fb BK809.out k_ hn_))⟩)) (bz HB.out)); have n9_ := Aside0.mk (Kd.V_lower (Kd.V_mono (ok' := fun k_ => OB Ao26 y789 co26 k_ ∧ OB Ao30 y795 co30 k_ ∧ OB Ao44 y810 co44 k_ ∧ k_ ≠ gb808 ∧ k_ ≠ gb809) ho1 (fun k_ hk_ => ⟨Or.elim hk_ (fun hs_ => hs_.1) (fun hn_ => (Kd.fresh' (Kd.R_lt HO791.out) k_ hn_)), Or.elim hk_ (fun hs_ => hs_.2.1) (fun hn_ => (Kd.fresh' (Kd.R_lt HO797.out) k_ hn_)), Or.elim hk_ (fun hs_ => hs_.2.2.1) (fun hn_ => (Kd.fresh' (Kd.R_lt HO812.out) k_ hn_)), Or.elim hk_ (fun hs_ => hs_.2.2.2.1) (fun hn_ => (fb BK808.out k_ hn_)), Or.elim hk_ (fun hs_ => hs_.2.2.2.2) (fun hn_ => (fb BK809.out k_ hn_))⟩)) (bz HB.out)); have n10_ := Aside0.mk (bb BK808.out hb); have n11_ := Aside0.mk (bb BK809.out hb); have n12_ := Aside0.mk (bs HB.out hb); clear HO791; clear HO794; clear HO797; clear HO800; clear HO803; clear HO806; clear HO812; clear HO815; clear BK808; clear BK809; clear HB; have HO791 := n0_; have HO794 := n1_; have HO797 := n2_; have HO800 := n3_; have HO803 := n4_; have HO806 := n5_; have HO812 := n6_; have HO815 := n7_; have HO818 := n8_; have HO821 := n9_; have BK808 := n10_; have BK809 := n11_; have HB := n12_; clear n0_ n1_ n2_ n3_ n4_ n5_ n6_ n7_ n8_ n9_ n10_ n11_ n12_; (try clear hb); (try clear hb2); (try clear hk); (try clear hi); (try clear ho0); (try clear ho1)) | ((with_reducible refine gate_dst (N := 4) rfl ?_); (try (refine gate_guard (by rfl) ?_; dsimp only)); refine box_event ?hg (N := 4) ?hd (cs := #[.slice none 0 0]) (t := 25) ?hr ?_; (case hd => rfl); (case hg => rfl); (case hr => first | (go_simp; done) | (go_simp; rfl)); intro gb823 hg w48 hbox hb; have n0_ := Aside0.mk (rb HO791.out hb); have n1_ := Aside0.mk (Kd.V_below (Kd.V_elderB HO794.out gb823 (Nat.le_of_eq hg.symm)) hb); have n2_ := Aside0.mk (rb HO797.out hb); have n3_ := Aside0.mk (Kd.V_below (Kd.V_elderB HO800.out gb823 (Nat.le_of_eq hg.symm)) hb); have n4_ := Aside0.mk (Kd.V_below (Kd.V_elderB HO803.out gb823 (Nat.le_of_eq hg.symm)) hb); have n5_ := Aside0.mk (Kd.V_below (Kd.V_elderB HO806.out gb823 (Nat.le_of_eq hg.symm)) hb); have n6_ := Aside0.mk (rb HO812.out hb); have n7_ := Aside0.mk (Kd.V_below (Kd.V_elderB HO815.out gb823 (Nat.le_of_eq hg.symm)) hb); have n8_ := Aside0.mk (Kd.V_below (Kd.V_elderB HO818.out gb823 (Nat.le_of_eq hg.symm)) hb); have n9_ := Aside0.mk (Kd.V_below (Kd.V_elderB HO821.out gb823 (Nat.le_of_eq hg.symm)) hb); have n10_ := Aside0.mk (bb BK808.out hb); have n11_ := Aside0.mk (bb BK809.out hb); have n12_ := Aside0.mk (bs HB.out hb); have n13_ := Aside0.mk (hbox); have n14_ := Aside0.mk ((by rw [hg]; exact (bz HB.out) : w.heap.size ≤ gb823)); have n15_ := Aside0.mk ((by rw [hg]; exact (bz HB.out) : w.heap.size ≤ gb823)); have n16_ := Aside0.mk ((by rw [hg]; exact Nat.ne_of_lt (blk_lt (g := gb808) (o := .cells #[.slice Ao37 t801.length co37] 25 (0, 0)) BK808.out) : gb808 ≠ gb823)); have n17_ := Aside0.mk ((by rw [hg]; exact Nat.ne_of_gt (blk_lt (g := gb808) (o := .cells #[.slice Ao37 t801.length co37] 25 (0, 0)) BK808.out) : gb823 ≠ gb808)); have n18_ := Aside0.mk ((by rw [hg]; exact Nat.ne_of_lt (blk_lt (g := gb809) (o := .cells #[.slice Ao40 t804.length co40] 25 (0, 0)) BK809.out) : gb809 ≠ gb823)); have n19_ := Aside0.mk ((by rw [hg]; exact Nat.ne_of_gt (blk_lt (g := gb809) (o := .cells #[.slice Ao40 t804.length co40] 25 (0, 0)) BK809.out) : gb823 ≠ gb809)); clear HO791; clear HO794; clear HO797; clear HO800; clear HO803; clear HO806; clear HO812; clear HO815; clear HO818; clear HO821; clear BK808; clear BK809; clear HB; have HO791 := n0_; have HO794 := n1_; have HO797 := n2_; have HO800 := n3_; have HO803 := n4_; have HO806 := n5_; have HO812 := n6_; have HO815 := n7_; have HO818 := n8_; have HO821 := n9_; have BK808 := n10_; have BK809 := n11_; have HB := n12_; have BK823 := n13_; have GW823 := n14_; have GE823 := n15_; have NB808_823 := n16_; have NB823_808 := n17_; have NB809_823 := n18_; have NB823_809 := n19_; clear n0_ n1_ n2_ n3_ n4_ n5_ n6_ n7_ n8_ n9_ n10_ n11_ n12_ n13_ n14_ n15_ n16_ n17_ n18_ n19_; clear hb hbox hg) | ((with_reducible refine gate_dst (N := 5) rfl ?_); (try (refine gate_guard (by rfl) ?_; dsimp only)); refine box_event ?hg (N := 5) ?hd (cs := #[.slice none 0 0]) (t := 25) ?hr ?_; (case hd => rfl); (case hg => rfl); (case hr => first | (go_simp; done) | (go_simp; rfl)); intro gb824 hg w49 hbox hb; have n0_ := Aside0.mk (rb HO791.out hb); have n1_ := Aside0.mk (Kd.V_below (Kd.V_elderB HO794.out gb824 (Nat.le_of_eq hg.symm)) hb); have n2_ := Aside0.mk (rb HO797.out hb); have n3_ := Aside0.mk (Kd.V_below (Kd.V_elderB HO800.out gb824 (Nat.le_of_eq hg.symm)) hb); have n4_ := Aside0.mk (Kd.V_below (Kd.V_elderB HO803.out gb824 (Nat.le_of_eq hg.symm)) hb); have n5_ := Aside0.mk (Kd.V_below (Kd.V_elderB HO806.out gb824 (Nat.le_of_eq hg.symm)) hb); have n6_ := Aside0.mk (rb HO812.out hb); have n7_ := Aside0.mk (Kd.V_below (Kd.V_elderB HO815.out gb824 (Nat.le_of_eq hg.symm)) hb); have n8_ := Aside0.mk (Kd.V_below (Kd.V_elderB HO818.out gb824 (Nat.le_of_eq hg.symm)) hb); have n9_ := Aside0.mk (Kd.V_below (Kd.V_elderB HO821.out gb824 (Nat.le_of_eq hg.symm)) hb); have n10_ := Aside0.mk (bb BK808.out hb); have n11_ := Aside0.mk (bb BK809.out hb); have n12_ := Aside0.mk (bb BK823.out hb); have n13_ := Aside0.mk (bs HB.out hb); have n14_ := Aside0.mk (hbox); have n15_ := Aside0.mk ((by rw [hg]; exact (bz HB.out) : w.heap.size ≤ gb824)); have n16_ := Aside0.mk ((by rw [hg]; exact (bz HB.out) : w.heap.size ≤ gb824)); have n17_ := Aside0.mk ((by rw [hg]; exact Nat.ne_of_lt (blk_lt (g := gb808) (o := .cells #[.slice Ao37 t801.length co37] 25 (0, 0)) BK808.out) : gb808 ≠ gb824)); have n18_ := Aside0.mk ((by rw [hg]; exact Nat.ne_of_gt (blk_lt (g := gb808) (o := .cells #[.slice Ao37 t801.length co37] 25 (0, 0)) BK808.out) : gb824 ≠ gb808)); have n19_ := Aside0.mk ((by rw [hg]; exact Nat.ne_of_lt (blk_lt (g := gb809) (o := .cells #[.slice Ao40 t804.length co40] 25 (0, 0)) BK809.out) : gb809 ≠ gb824)); have n20_ := Aside0.mk ((by rw [hg]; exact Nat.ne_of_gt (blk_lt (g := gb809) (o := .cells #[.slice Ao40 t804.length co40] 25 (0, 0)) BK809.out) : gb824 ≠ gb809)); have n21_ := Aside0.mk ((by rw [hg]; exact Nat.ne_of_lt (blk_lt (g := gb823) (o := .cells #[.slice none 0 0] 25 (0, 0)) BK823.out) : gb823 ≠ gb824)); have n22_ := Aside0.mk ((by rw [hg]; exact Nat.ne_of_gt (blk_lt (g := gb823) (o := .cells #[.slice none 0 0] 25 (0, 0)) BK823.out) : gb824 ≠ gb823)); clear HO791; clear HO794; clear HO797; clear HO800; clear HO803; clear HO806; clear HO812; clear HO815; clear HO818; clear HO821; clear BK808; clear BK809; clear BK823; clear HB; have HO791 := n0_; have HO794 := n1_; have HO797 := n2_; have HO800 := n3_; have HO803 := n4_; have HO806 := n5_; have HO812 := n6_; have HO815 := n7_; have HO818 := n8_; have HO821 := n9_; have BK808 := n10_; have BK809 := n11_; have BK823 := n12_; have HB := n13_; have BK824 := n14_; have GW824 := n15_; have GE824 := n16_; have NB808_824 := n17_; have NB824_808 := n18_; have NB809_824 := n19_; have NB824_809 := n20_; have NB823_824 := n21_; have NB824_823 := n22_; clear n0_ n1_ n2_ n3_ n4_ n5_ n6_ n7_ n8_ n9_ n10_ n11_ n12_ n13_ n14_ n15_ n16_ n17_ n18_ n19_ n20_ n21_ n22_; clear hb hbox hg; obtain ⟨Ao50, co50, eo50⟩ := Kd.V_slice HO818.out; subst eo50; have hnb51 := NB823_808.out; have hnc51 := NB808_823.out; have hnb52 := NB823_809.out; have hnc52 := NB809_823.out; have hnb53 := NB823_824.out; have hnc53 := NB824_823.out; have hcz54_0 : w49.cell? ⟨gb823, 0, none⟩ = some (.slice none 0 0) := (blk_cell BK823.out 0).trans rfl; have hfz54_0 := blk_frozen BK823.out 0; obtain ⟨Ao55, co55, eo55⟩ := Kd.V_slice HO821.out; subst eo55; have hnb56 := NB824_808.out; have hnc56 := NB808_824.out; have hnb57 := NB824_809.out; have hnc57 := NB809_824.out; have hcz58_0 : w49.cell? ⟨gb824, 0, none⟩ = some (.slice none 0 0) := (blk_cell BK824.out 0).trans rfl; have hfz58_0 := blk_frozen BK824.out 0) | ((with_reducible refine gate_dst (N := 27) rfl ?_); (try (refine gate_guard (by rfl) ?_; dsimp only)); refine Kd.R_lit (Kd.int .u64) _ 27 ?hg (N := 27) ?hd (xs := ([1] : List Int)) (inner := [.int .u64 1]) (ok := fun _ => True) (okp := fun _ => True) ?hr ?hp (fun _ hk => hk) trivial (Below.refl _ _) (Nat.le_refl _) (by simp) ?_; (case hd => rfl); (case hg => rfl); (case hr => first | (go_simp; done) | (go_simp; rfl)); (case hp => exact (Reps.one (show Kd.M (Kd.int .u64) _ _ _ 1 [.int .u64 1] from rfl) (Reps.none _ _))); intro v826 w59 ho60 hb hg_ hnew_; clear hg_ hnew_; (first | rw [← Ny825.out] at ho60 | (simp only [Int.reduceToNat] at ho60; rw [← Ny825.out] at ho60)); have n0_ := Aside0.mk (Kd.R_elder' (by (with_reducible repeat (first | apply Kd.R_alloc | apply Kd.R_drewN | apply Kd.R_drew)); exact (Kd.R_mono (Kd.R_mono (Kd.R_far (p := ⟨gb824, 0, none⟩) (Kd.R_far (p := ⟨gb823, 0, none⟩) (Kd.R_types (Kd.R_types HO791.out BK823.out (by decide)) BK824.out (by decide)) (fun _ hk => hk.1.2) (.slice Ao50 t816.length co50)) (fun _ hk => hk.2) (.slice Ao55 t819.length co55)) (fun _ h_ => h_.1)) (fun _ h_ => h_.1))) (Kd.R_base ho60) hb); have n1_ := Aside0.mk (Kd.V_elder' (by (with_reducible repeat (first | apply Kd.V_alloc | apply Kd.V_drewN | apply Kd.V_drew)); exact (Kd.V_mono (Kd.V_mono (Kd.V_far (p := ⟨gb824, 0, none⟩) (Kd.V_far (p := ⟨gb823, 0, none⟩) (Kd.V_mono (Kd.V_mono HO794.out (fun k_ hk => (⟨hk, hk.1.2⟩ : _ ∧ k_ ≠ gb823))) (fun k_ hk => (⟨hk, hk.1.2⟩ : _ ∧ k_ ≠ gb824))) (fun _ hk => hk.1.2) (.slice Ao50 t816.length co50)) (fun _ hk => hk.2) (.slice Ao55 t819.length co55)) (fun _ h_ => h_.1)) (fun _ h_ => h_.1))) (Kd.R_base ho60) hb); have n2_ := Aside0.mk (Kd.R_elder' (by (with_reducible repeat (first | apply Kd.R_alloc | apply Kd.R_drewN | apply Kd.R_drew)); exact (Kd.R_mono (Kd.R_mono (Kd.R_far (p := ⟨gb824, 0, none⟩) (Kd.R_far (p := ⟨gb823, 0, none⟩) (Kd.R_types (Kd.R_types HO797.out BK823.out (by decide)) BK824.out (by decide)) (fun _ hk => hk.1.2) (.slice Ao50 t816.length co50)) (fun _ hk => hk.2) (.slice Ao55 t819.length co55)) (fun _ h_ => h_.1)) (fun _ h_ => h_.1))) (Kd.R_base ho60) hb); have n3_ := Aside0.mk (Kd.V_elder' (by (with_reducible repeat (first | apply Kd.V_alloc | apply Kd.V_drewN | apply Kd.V_drew)); exact (Kd.V_mono (Kd.V_mono (Kd.V_far (p := ⟨gb824, 0, none⟩) (Kd.V_far (p := ⟨gb823, 0, none⟩) (Kd.V_mono (Kd.V_mono HO800.out (fun k_ hk => (⟨hk, hk.1.2⟩ : _ ∧ k_ ≠ gb823))) (fun k_ hk => (⟨hk, hk.1.2⟩ : _ ∧ k_ ≠ gb824))) (fun _ hk => hk.1.2) (.slice Ao50 t816.length co50)) (fun _ hk => hk.2) (.slice Ao55 t819.length co55)) (fun _ h_ => h_.1)) (fun _ h_ => h_.1))) (Kd.R_base ho60) hb); have n4_ := Aside0.mk (Kd.V_elder' (by (with_reducible repeat (first | apply Kd.V_alloc | apply Kd.V_drewN | apply Kd.V_drew)); exact (Kd.V_mono (Kd.V_mono (Kd.V_far (p := ⟨gb824, 0, none⟩) (Kd.V_far (p := ⟨gb823, 0, none⟩) (Kd.V_mono (Kd.V_mono HO803.out (fun k_ hk => (⟨hk, hk.1.2⟩ : _ ∧ k_ ≠ gb823))) (fun k_ hk => (⟨hk, hk.1.2⟩ : _ ∧ k_ ≠ gb824))) (fun _ hk => hk.1.2) (.slice Ao50 t816.length co50)) (fun _ hk => hk.2) (.slice Ao55 t819.length co55)) (fun _ h_ => h_.1)) (fun _ h_ => h_.1))) (Kd.R_base ho60) hb); have n5_ := Aside0.mk (Kd.V_elder' (by (with_reducible repeat (first | apply Kd.V_alloc | apply Kd.V_drewN | apply Kd.V_drew)); exact (Kd.V_mono (Kd.V_mono (Kd.V_far (p := ⟨gb824, 0, none⟩) (Kd.V_far (p := ⟨gb823, 0, none⟩) (Kd.V_mono (Kd.V_mono HO806.out (fun k_ hk => (⟨hk, hk.1.2⟩ : _ ∧ k_ ≠ gb823))) (fun k_ hk => (⟨hk, hk.1.2⟩ : _ ∧ k_ ≠ gb824))) (fun _ hk => hk.1.2) (.slice Ao50 t816.length co50)) (fun _ hk => hk.2) (.slice Ao55 t819.length co55)) (fun _ h_ => h_.1)) (fun _ h_ => h_.1))) (Kd.R_base ho60) hb); have n6_ := Aside0.mk (Kd.R_elder' (by (with_reducible repeat (first | apply Kd.R_alloc | apply Kd.R_drewN | apply Kd.R_drew)); exact (Kd.R_mono (Kd.R_mono (Kd.R_far (p := ⟨gb824, 0, none⟩) (Kd.R_far (p := ⟨gb823, 0, none⟩) (Kd.R_types (Kd.R_types HO812.out BK823.out (by decide)) BK824.out (by decide)) (fun _ hk => hk.1.2) (.slice Ao50 t816.length co50)) (fun _ hk => hk.2) (.slice Ao55 t819.length co55)) (fun _ h_ => h_.1)) (fun _ h_ => h_.1))) (Kd.R_base ho60) hb); have n7_ := Aside0.mk (Kd.V_elder' (by (with_reducible repeat (first | apply Kd.V_alloc | apply Kd.V_drewN | apply Kd.V_drew)); exact (Kd.V_mono (Kd.V_mono (Kd.V_far (p := ⟨gb824, 0, none⟩) (Kd.V_far (p := ⟨gb823, 0, none⟩) (Kd.V_mono (Kd.V_mono HO815.out (fun k_ hk => (⟨hk, hk.1.2⟩ : _ ∧ k_ ≠ gb823))) (fun k_ hk => (⟨hk, hk.1.2⟩ : _ ∧ k_ ≠ gb824))) (fun _ hk => hk.1.2) (.slice Ao50 t816.length co50)) (fun _ hk => hk.2) (.slice Ao55 t819.length co55)) (fun _ h_ => h_.1)) (fun _ h_ => h_.1))) (Kd.R_base ho60) hb); have n8_ := Aside0.mk (Kd.V_elder' (by (with_reducible repeat (first | apply Kd.V_alloc | apply Kd.V_drewN | apply Kd.V_drew)); exact (Kd.V_mono (Kd.V_mono (Kd.V_far (p := ⟨gb824, 0, none⟩) (Kd.V_far (p := ⟨gb823, 0, none⟩) (Kd.V_mono (Kd.V_mono HO818.out (fun k_ hk => (⟨hk, hk.1.2⟩ : _ ∧ k_ ≠ gb823))) (fun k_ hk => (⟨hk, hk.1.2⟩ : _ ∧ k_ ≠ gb824))) (fun _ hk => hk.1.2) (.slice Ao50 t816.length co50)) (fun _ hk => hk.2) (.slice Ao55 t819.length co55)) (fun _ h_ => h_.1)) (fun _ h_ => h_.1))) (Kd.R_base ho60) hb); have n9_ := Aside0.mk (Kd.V_elder' (by (with_reducible repeat (first | apply Kd.V_alloc | apply Kd.V_drewN | apply Kd.V_drew)); exact (Kd.V_mono (Kd.V_mono (Kd.V_far (p := ⟨gb824, 0, none⟩) (Kd.V_far (p := ⟨gb823, 0, none⟩) (Kd.V_mono (Kd.V_mono HO821.out (fun k_ hk => (⟨hk, hk.1.2⟩ : _ ∧ k_ ≠ gb823))) (fun k_ hk => (⟨hk, hk.1.2⟩ : _ ∧ k_ ≠ gb824))) (fun _ hk => hk.1.2) (.slice Ao50 t816.length co50)) (fun _ hk => hk.2) (.slice Ao55 t819.length co55)) (fun _ h_ => h_.1)) (fun _ h_ => h_.1))) (Kd.R_base ho60) hb); have n10_ := Aside0.mk (Kd.R_lower (Kd.R_new' (Kd.R_new' (Kd.R_new' ho60 (Kd.R_lt (by (with_reducible repeat (first | apply Kd.R_alloc | apply Kd.R_drewN | apply Kd.R_drew)); exact (Kd.R_mono (Kd.R_mono (Kd.R_far (p := ⟨gb824, 0, none⟩) (Kd.R_far (p := ⟨gb823, 0, none⟩) (Kd.R_types (Kd.R_types HO791.out BK823.out (by decide)) BK824.out (by decide)) (fun _ hk => hk.1.2) (.slice Ao50 t816.length co50)) (fun _ hk => hk.2) (.slice Ao55 t819.length co55)) (fun _ h_ => h_.1)) (fun _ h_ => h_.1))))) (Kd.R_lt (by (with_reducible repeat (first | apply Kd.R_alloc | apply Kd.R_drewN | apply Kd.R_drew)); exact (Kd.R_mono (Kd.R_mono (Kd.R_far (p := ⟨gb824, 0, none⟩) (Kd.R_far (p := ⟨gb823, 0, none⟩) (Kd.R_types (Kd.R_types HO797.out BK823.out (by decide)) BK824.out (by decide)) (fun _ hk => hk.1.2) (.slice Ao50 t816.length co50)) (fun _ hk => hk.2) (.slice Ao55 t819.length co55)) (fun _ h_ => h_.1)) (fun _ h_ => h_.1))))) (Kd.R_lt (by (with_reducible repeat (first | apply Kd.R_alloc | apply Kd.R_drewN | apply Kd.R_drew)); exact (Kd.R_mono (Kd.R_mono (Kd.R_far (p := ⟨gb824, 0, none⟩) (Kd.R_far (p := ⟨gb823, 0, none⟩) (Kd.R_types (Kd.R_types HO812.out BK823.out (by decide)) BK824.out (by decide)) (fun _ hk => hk.1.2) (.slice Ao50 t816.length co50)) (fun _ hk => hk.2) (.slice Ao55 t819.length co55)) (fun _ h_ => h_.1)) (fun _ h_ => h_.1))))) (below_size (by repeat (first | (with_reducible first | exact HB.out | apply below_alloc | apply pw_below_drewN | apply below_drew1 | refine below_set ?_ GE808.out | refine below_set ?_ GE809.out | refine below_set ?_ GE823.out | refine below_set ?_ GE824.out) | exact HB.out)))); have n11_ := Aside0.mk (blk_below (g := gb808) (o := .cells #[.slice Ao37 t801.length co37] 25 (0, 0)) (by (with_reducible repeat (first | refine blk_drewN ?_ _ | refine blk_drew ?_ | refine blk_alloc ?_ _)); refine blk_far ?_ NB808_824.out _; (with_reducible repeat (first | refine blk_drewN ?_ _ | refine blk_drew ?_ | refine blk_alloc ?_ _)); refine blk_far ?_ NB808_823.out _; (with_reducible repeat (first | refine blk_drewN ?_ _ | refine blk_drew ?_ | refine blk_alloc ?_ _)); exact BK808.out) hb); have n12_ := Aside0.mk (blk_below (g := gb809) (o := .cells #[.slice Ao40 t804.length co40] 25 (0, 0)) (by (with_reducible repeat (first | refine blk_drewN ?_ _ | refine blk_drew ?_ | refine blk_alloc ?_ _)); refine blk_far ?_ NB809_824.out _; (with_reducible repeat (first | refine blk_drewN ?_ _ | refine blk_drew ?_ | refine blk_alloc ?_ _)); refine blk_far ?_ NB809_823.out _; (with_reducible repeat (first | refine blk_drewN ?_ _ | refine blk_drew ?_ | refine blk_alloc ?_ _)); exact BK809.out) hb); have n13_ := Aside0.mk (blk_below (g := gb823) (o := .cells #[.slice Ao50 t816.length co50] 25 (0, 0)) (by (with_reducible repeat (first | refine blk_drewN ?_ _ | refine blk_drew ?_ | refine blk_alloc ?_ _)); refine blk_far ?_ NB823_824.out _; (with_reducible repeat (first | refine blk_drewN ?_ _ | refine blk_drew ?_ | refine blk_alloc ?_ _)); refine blk_put (cs := #[.slice none 0 0]) ?_ 0 _ rfl; (with_reducible repeat (first | refine blk_drewN ?_ _ | refine blk_drew ?_ | refine blk_alloc ?_ _)); exact BK823.out) hb); have n14_ := Aside0.mk (blk_below (g := gb824) (o := .cells #[.slice Ao55 t819.length co55] 25 (0, 0)) (by (with_reducible repeat (first | refine blk_drewN ?_ _ | refine blk_drew ?_ | refine blk_alloc ?_ _)); refine blk_put (cs := #[.slice none 0 0]) ?_ 0 _ rfl; (with_reducible repeat (first | refine blk_drewN ?_ _ | refine blk_drew ?_ | refine blk_alloc ?_ _)); refine blk_far ?_ NB824_823.out _; (with_reducible repeat (first | refine blk_drewN ?_ _ | refine blk_drew ?_ | refine blk_alloc ?_ _)); exact BK824.out) hb); have n15_ := Aside0.mk (below_step (by repeat (first | (with_reducible first | exact HB.out | apply below_alloc | apply pw_below_drewN | apply below_drew1 | refine below_set ?_ GE808.out | refine below_set ?_ GE809.out | refine below_set ?_ GE823.out | refine below_set ?_ GE824.out) | exact HB.out)) hb); clear HO791; clear HO794; clear HO797; clear HO800; clear HO803; clear HO806; clear HO812; clear HO815; clear HO818; clear HO821; clear BK808; clear BK809; clear BK823; clear BK824; clear HB; have HO791 := n0_; have HO794 := n1_; have HO797 := n2_; have HO800 := n3_; have HO803 := n4_; have HO806 := n5_; have HO812 := n6_; have HO815 := n7_; have HO818 := n8_; have HO821 := n9_; have HO827 := n10_; have BK808 := n11_; have BK809 := n12_; have BK823 := n13_; have BK824 := n14_; have HB := n15_; clear n0_ n1_ n2_ n3_ n4_ n5_ n6_ n7_ n8_ n9_ n10_ n11_ n12_ n13_ n14_ n15_; clear hb ho60; obtain ⟨Ao61, co61, eo61⟩ := Kd.R_slice HO827.out; subst eo61) | ((with_reducible refine gate_callee (f := 14) rfl ?_); refine goesL_ (some 28) rfl rfl Try.func14 (by kernel_rfl) rfl #[.slice Ao61 y825.length co61] rfl (by (try simp only [List.map_toArray, List.map_cons, List.map_nil]); first | done | rfl | (simp only [List.length_drop, List.length_take]; rfl)) ?_; (with_reducible refine (nat_Of.calls k _ _ y825 t828 _ ?side1 ?side2 A6.out).mono ?_); (case side1 => exact cr HO827.out); (case side2 => exact (Kd.R_reads' HO827.out).2.1); rintro e w62 ⟨v829, rfl, ho0, hb⟩; refine ⟨_, rfl, ?_⟩; have n0_ := Aside0.mk (rb HO791.out hb); have n1_ := Aside0.mk (vb HO794.out hb); have n2_ := Aside0.mk (rb HO797.out hb); have n3_ := Aside0.mk (vb HO800.out hb); have n4_ := Aside0.mk (vb HO803.out hb); have n5_ := Aside0.mk (vb HO806.out hb); have n6_ := Aside0.mk (rb HO812.out hb); have n7_ := Aside0.mk (vb HO815.out hb); have n8_ := Aside0.mk (vb HO818.out hb); have n9_ := Aside0.mk (vb HO821.out hb); have n10_ := Aside0.mk (rb HO827.out hb); have n11_ := Aside0.mk (Kd.V_lower (Kd.V_mono (ok' := fun k_ => OB Ao26 y789 co26 k_ ∧ OB Ao30 y795 co30 k_ ∧ OB Ao44 y810 co44 k_ ∧ OB Ao61 y825 co61 k_ ∧ k_ ≠ gb808 ∧ k_ ≠ gb809 ∧ k_ ≠ gb823 ∧ k_ ≠ gb824) ho0 (fun k_ hk_ => ⟨(Kd.fresh' (Kd.R_lt HO791.out) k_ hk_), (Kd.fresh' (Kd.R_lt HO797.out) k_ hk_), (Kd.fresh' (Kd.R_lt HO812.out) k_ hk_), (Kd.fresh' (Kd.R_lt HO827.out) k_ hk_), (fb BK808.out k_ hk_), (fb BK809.out k_ hk_), (fb BK823.out k_ hk_), (fb BK824.out k_ hk_)⟩)) (bz HB.out)); have n12_ := Aside0.mk (bb BK808.out hb); have n13_ := Aside0.mk (bb BK809.out hb); have n14_ := Aside0.mk (bb BK823.out hb); have n15_ := Aside0.mk (bb BK824.out hb); have n16_ := Aside0.mk (bs HB.out hb); clear HO791; clear HO794; clear HO797; clear HO800; clear HO803; clear HO806; clear HO812; clear HO815; clear HO818; clear HO821; clear HO827; clear BK808; clear BK809; clear BK823; clear BK824; clear HB; have HO791 := n0_; have HO794 := n1_; have HO797 := n2_; have HO800 := n3_; have HO803 := n4_; have HO806 := n5_; have HO812 := n6_; have HO815 := n7_; have HO818 := n8_; have HO821 := n9_; have HO827 := n10_; have HO830 := n11_; have BK808 := n12_; have BK809 := n13_; have BK823 := n14_; have BK824 := n15_; have HB := n16_; clear n0_ n1_ n2_ n3_ n4_ n5_ n6_ n7_ n8_ n9_ n10_ n11_ n12_ n13_ n14_ n15_ n16_; (try clear hb); (try clear hb2); (try clear hk); (try clear hi); (try clear ho0); obtain ⟨Ao63, co63, eo63⟩ := Kd.V_slice HO830.out; subst eo63) | ((with_reducible refine gate_callee (f := 37) rfl ?_); refine goesL_ (some 29) rfl rfl Try.func37 (by kernel_rfl) rfl #[.agg #[.slice Ao63 t828.length co63], .int .i64 64] rfl (by (try simp only [List.map_toArray, List.map_cons, List.map_nil]); first | done | rfl | (simp only [List.length_drop, List.length_take]; rfl)) ?_; (with_reducible refine (quot_Shl.calls k _ _ t828 64 t831 t834 _ ?side1 ?side2 A7.out).mono ?_); (case side1 => exact cv HO830.out); (case side2 => exact (Kd.V_reads' HO830.out).2.1); rintro e w64 ⟨v832, rfl, ho0, hb⟩; refine ⟨_, rfl, ?_⟩; have n0_ := Aside0.mk (rb HO791.out hb); have n1_ := Aside0.mk (vb HO794.out hb); have n2_ := Aside0.mk (rb HO797.out hb); have n3_ := Aside0.mk (vb HO800.out hb); have n4_ := Aside0.mk (vb HO803.out hb); have n5_ := Aside0.mk (vb HO806.out hb); have n6_ := Aside0.mk (rb HO812.out hb); have n7_ := Aside0.mk (vb HO815.out hb); have n8_ := Aside0.mk (vb HO818.out hb); have n9_ := Aside0.mk (vb HO821.out hb); have n10_ := Aside0.mk (rb HO827.out hb); have n11_ := Aside0.mk (vb HO830.out hb); have n12_ := Aside0.mk (Kd.V_lower (Kd.V_mono (ok' := fun k_ => OB Ao26 y789 co26 k_ ∧ OB Ao30 y795 co30 k_ ∧ OB Ao44 y810 co44 k_ ∧ OB Ao61 y825 co61 k_ ∧ k_ ≠ gb808 ∧ k_ ≠ gb809 ∧ k_ ≠ gb823 ∧ k_ ≠ gb824) ho0 (fun k_ hk_ => ⟨(Kd.fresh' (Kd.R_lt HO791.out) k_ hk_), (Kd.fresh' (Kd.R_lt HO797.out) k_ hk_), (Kd.fresh' (Kd.R_lt HO812.out) k_ hk_), (Kd.fresh' (Kd.R_lt HO827.out) k_ hk_), (fb BK808.out k_ hk_), (fb BK809.out k_ hk_), (fb BK823.out k_ hk_), (fb BK824.out k_ hk_)⟩)) (bz HB.out)); have n13_ := Aside0.mk (bb BK808.out hb); have n14_ := Aside0.mk (bb BK809.out hb); have n15_ := Aside0.mk (bb BK823.out hb); have n16_ := Aside0.mk (bb BK824.out hb); have n17_ := Aside0.mk (bs HB.out hb); clear HO791; clear HO794; clear HO797; clear HO800; clear HO803; clear HO806; clear HO812; clear HO815; clear HO818; clear HO821; clear HO827; clear HO830; clear BK808; clear BK809; clear BK823; clear BK824; clear HB; have HO791 := n0_; have HO794 := n1_; have HO797 := n2_; have HO800 := n3_; have HO803 := n4_; have HO806 := n5_; have HO812 := n6_; have HO815 := n7_; have HO818 := n8_; have HO821 := n9_; have HO827 := n10_; have HO830 := n11_; have HO833 := n12_; have BK808 := n13_; have BK809 := n14_; have BK823 := n15_; have BK824 := n16_; have HB := n17_; clear n0_ n1_ n2_ n3_ n4_ n5_ n6_ n7_ n8_ n9_ n10_ n11_ n12_ n13_ n14_ n15_ n16_ n17_; (try clear hb); (try clear hb2); (try clear hk); (try clear hi); (try clear ho0)) | ((with_reducible refine gate_dst (N := 7) rfl ?_); (try (refine gate_guard (by rfl) ?_; dsimp only)); refine box_event ?hg (N := 7) ?hd (cs := #[.slice none 0 0]) (t := 25) ?hr ?_; (case hd => rfl); (case hg => rfl); (case hr => first | (go_simp; done) | (go_simp; rfl)); intro gb835 hg w65 hbox hb; have n0_ := Aside0.mk (rb HO791.out hb); have n1_ := Aside0.mk (Kd.V_below (Kd.V_elderB HO794.out gb835 (Nat.le_of_eq hg.symm)) hb); have n2_ := Aside0.mk (rb HO797.out hb); have n3_ := Aside0.mk (Kd.V_below (Kd.V_elderB HO800.out gb835 (Nat.le_of_eq hg.symm)) hb); have n4_ := Aside0.mk (Kd.V_below (Kd.V_elderB HO803.out gb835 (Nat.le_of_eq hg.symm)) hb); have n5_ := Aside0.mk (Kd.V_below (Kd.V_elderB HO806.out gb835 (Nat.le_of_eq hg.symm)) hb); have n6_ := Aside0.mk (rb HO812.out hb); have n7_ := Aside0.mk (Kd.V_below (Kd.V_elderB HO815.out gb835 (Nat.le_of_eq hg.symm)) hb); have n8_ := Aside0.mk (Kd.V_below (Kd.V_elderB HO818.out gb835 (Nat.le_of_eq hg.symm)) hb); have n9_ := Aside0.mk (Kd.V_below (Kd.V_elderB HO821.out gb835 (Nat.le_of_eq hg.symm)) hb); have n10_ := Aside0.mk (rb HO827.out hb); have n11_ := Aside0.mk (Kd.V_below (Kd.V_elderB HO830.out gb835 (Nat.le_of_eq hg.symm)) hb); have n12_ := Aside0.mk (Kd.V_below (Kd.V_elderB HO833.out gb835 (Nat.le_of_eq hg.symm)) hb); have n13_ := Aside0.mk (bb BK808.out hb); have n14_ := Aside0.mk (bb BK809.out hb); have n15_ := Aside0.mk (bb BK823.out hb); have n16_ := Aside0.mk (bb BK824.out hb); have n17_ := Aside0.mk (bs HB.out hb); have n18_ := Aside0.mk (hbox); have n19_ := Aside0.mk ((by rw [hg]; exact (bz HB.out) : w.heap.size ≤ gb835)); have n20_ := Aside0.mk ((by rw [hg]; exact (bz HB.out) : w.heap.size ≤ gb835)); have n21_ := Aside0.mk ((by rw [hg]; exact Nat.ne_of_lt (blk_lt (g := gb808) (o := .cells #[.slice Ao37 t801.length co37] 25 (0, 0)) BK808.out) : gb808 ≠ gb835)); have n22_ := Aside0.mk ((by rw [hg]; exact Nat.ne_of_gt (blk_lt (g := gb808) (o := .cells #[.slice Ao37 t801.length co37] 25 (0, 0)) BK808.out) : gb835 ≠ gb808)); have n23_ := Aside0.mk ((by rw [hg]; exact Nat.ne_of_lt (blk_lt (g := gb809) (o := .cells #[.slice Ao40 t804.length co40] 25 (0, 0)) BK809.out) : gb809 ≠ gb835)); have n24_ := Aside0.mk ((by rw [hg]; exact Nat.ne_of_gt (blk_lt (g := gb809) (o := .cells #[.slice Ao40 t804.length co40] 25 (0, 0)) BK809.out) : gb835 ≠ gb809)); have n25_ := Aside0.mk ((by rw [hg]; exact Nat.ne_of_lt (blk_lt (g := gb823) (o := .cells #[.slice Ao50 t816.length co50] 25 (0, 0)) BK823.out) : gb823 ≠ gb835)); have n26_ := Aside0.mk ((by rw [hg]; exact Nat.ne_of_gt (blk_lt (g := gb823) (o := .cells #[.slice Ao50 t816.length co50] 25 (0, 0)) BK823.out) : gb835 ≠ gb823)); have n27_ := Aside0.mk ((by rw [hg]; exact Nat.ne_of_lt (blk_lt (g := gb824) (o := .cells #[.slice Ao55 t819.length co55] 25 (0, 0)) BK824.out) : gb824 ≠ gb835)); have n28_ := Aside0.mk ((by rw [hg]; exact Nat.ne_of_gt (blk_lt (g := gb824) (o := .cells #[.slice Ao55 t819.length co55] 25 (0, 0)) BK824.out) : gb835 ≠ gb824)); clear HO791; clear HO794; clear HO797; clear HO800; clear HO803; clear HO806; clear HO812; clear HO815; clear HO818; clear HO821; clear HO827; clear HO830; clear HO833; clear BK808; clear BK809; clear BK823; clear BK824; clear HB; have HO791 := n0_; have HO794 := n1_; have HO797 := n2_; have HO800 := n3_; have HO803 := n4_; have HO806 := n5_; have HO812 := n6_; have HO815 := n7_; have HO818 := n8_; have HO821 := n9_; have HO827 := n10_; have HO830 := n11_; have HO833 := n12_; have BK808 := n13_; have BK809 := n14_; have BK823 := n15_; have BK824 := n16_; have HB := n17_; have BK835 := n18_; have GW835 := n19_; have GE835 := n20_; have NB808_835 := n21_; have NB835_808 := n22_; have NB809_835 := n23_; have NB835_809 := n24_; have NB823_835 := n25_; have NB835_823 := n26_; have NB824_835 := n27_; have NB835_824 := n28_; clear n0_ n1_ n2_ n3_ n4_ n5_ n6_ n7_ n8_ n9_ n10_ n11_ n12_ n13_ n14_ n15_ n16_ n17_ n18_ n19_ n20_ n21_ n22_ n23_ n24_ n25_ n26_ n27_ n28_; clear hb hbox hg; obtain ⟨Ao66, co66, eo66⟩ := Kd.V_slice HO833.out; subst eo66; have hnb67 := NB835_808.out; have hnc67 := NB808_835.out; have hnb68 := NB835_809.out; have hnc68 := NB809_835.out; have hnb69 := NB835_823.out; have hnc69 := NB823_835.out; have hnb70 := NB835_824.out; have hnc70 := NB824_835.out; have hcz71_0 : w65.cell? ⟨gb835, 0, none⟩ = some (.slice none 0 0) := (blk_cell BK835.out 0).trans rfl; have hfz71_0 := blk_frozen BK835.out 0))
 have n0_ : Aside0 (Kd.R (Kd.int .u64) 27 (w65.setCell ⟨gb835, 0, none⟩ (.slice Ao66 t831.length co66)) w.heap.size (fun k_ => OB Ao30 y795 co30 k_ ∧ OB Ao44 y810 co44 k_ ∧ OB Ao61 y825 co61 k_) (.slice Ao26 y789.length co26) y789) := ⟨by (with_reducible repeat (first | apply Kd.R_alloc | apply Kd.R_drewN | apply Kd.R_drew)); exact Kd.R_mono (Kd.R_far (p := ⟨gb835, 0, none⟩) (Kd.R_types HO791.out BK835.out (by decide)) (fun _ hk => hk.2) (.slice Ao66 t831.length co66)) (fun _ hk => ⟨hk.1.1.1.2, ⟨hk.1.1.2, hk.1.2⟩⟩)⟩
 have n1_ : Aside0 (Kd.V (Kd.int .u64) 27 (w65.setCell ⟨gb835, 0, none⟩ (.slice Ao66 t831.length co66)) w.heap.size (fun k_ => OB Ao26 y789 co26 k_ ∧ OB Ao30 y795 co30 k_ ∧ OB Ao44 y810 co44 k_ ∧ OB Ao61 y825 co61 k_ ∧ k_ ≠ gb808 ∧ k_ ≠ gb809 ∧ k_ ≠ gb823 ∧ k_ ≠ gb824 ∧ k_ ≠ gb835) (.slice Ao32 t792.length co32) t792) := ⟨by (with_reducible repeat (first | apply Kd.V_alloc | apply Kd.V_drewN | apply Kd.V_drew)); exact Kd.V_mono (Kd.V_far (p := ⟨gb835, 0, none⟩) (Kd.V_mono HO794.out (fun k_ hk => (⟨hk, hk.2⟩ : _ ∧ k_ ≠ gb835))) (fun _ hk => hk.2) (.slice Ao66 t831.length co66)) (fun _ hk => ⟨hk.1.1.1.1.1.1.1.1.1, ⟨hk.1.1.1.1.1.1.1.1.2, ⟨hk.1.1.1.1.1.2, ⟨hk.1.1.2, ⟨hk.1.1.1.1.1.1.1.2, ⟨hk.1.1.1.1.1.1.2, ⟨hk.1.1.1.1.2, ⟨hk.1.1.1.2, hk.1.2⟩⟩⟩⟩⟩⟩⟩⟩)⟩
 have n2_ : Aside0 (Kd.R (Kd.int .u64) 27 (w65.setCell ⟨gb835, 0, none⟩ (.slice Ao66 t831.length co66)) w.heap.size (fun k_ => OB Ao26 y789 co26 k_ ∧ OB Ao44 y810 co44 k_ ∧ OB Ao61 y825 co61 k_) (.slice Ao30 y795.length co30) y795) := ⟨by (with_reducible repeat (first | apply Kd.R_alloc | apply Kd.R_drewN | apply Kd.R_drew)); exact Kd.R_mono (Kd.R_far (p := ⟨gb835, 0, none⟩) (Kd.R_types HO797.out BK835.out (by decide)) (fun _ hk => hk.2) (.slice Ao66 t831.length co66)) (fun _ hk => ⟨hk.1.1.1.2, ⟨hk.1.1.2, hk.1.2⟩⟩)⟩
 have n3_ : Aside0 (Kd.V (Kd.int .u64) 27 (w65.setCell ⟨gb835, 0, none⟩ (.slice Ao66 t831.length co66)) w.heap.size (fun k_ => OB Ao26 y789 co26 k_ ∧ OB Ao30 y795 co30 k_ ∧ OB Ao44 y810 co44 k_ ∧ OB Ao61 y825 co61 k_ ∧ k_ ≠ gb808 ∧ k_ ≠ gb809 ∧ k_ ≠ gb823 ∧ k_ ≠ gb824 ∧ k_ ≠ gb835) (.slice Ao33 t798.length co33) t798) := ⟨by (with_reducible repeat (first | apply Kd.V_alloc | apply Kd.V_drewN | apply Kd.V_drew)); exact Kd.V_mono (Kd.V_far (p := ⟨gb835, 0, none⟩) (Kd.V_mono HO800.out (fun k_ hk => (⟨hk, hk.2⟩ : _ ∧ k_ ≠ gb835))) (fun _ hk => hk.2) (.slice Ao66 t831.length co66)) (fun _ hk => ⟨hk.1.1.1.1.1.1.1.1.1, ⟨hk.1.1.1.1.1.1.1.1.2, ⟨hk.1.1.1.1.1.2, ⟨hk.1.1.2, ⟨hk.1.1.1.1.1.1.1.2, ⟨hk.1.1.1.1.1.1.2, ⟨hk.1.1.1.1.2, ⟨hk.1.1.1.2, hk.1.2⟩⟩⟩⟩⟩⟩⟩⟩)⟩
 have n4_ : Aside0 (Kd.V (Kd.int .u64) 27 (w65.setCell ⟨gb835, 0, none⟩ (.slice Ao66 t831.length co66)) w.heap.size (fun k_ => OB Ao26 y789 co26 k_ ∧ OB Ao30 y795 co30 k_ ∧ OB Ao44 y810 co44 k_ ∧ OB Ao61 y825 co61 k_ ∧ k_ ≠ gb808 ∧ k_ ≠ gb809 ∧ k_ ≠ gb823 ∧ k_ ≠ gb824 ∧ k_ ≠ gb835) (.slice Ao37 t801.length co37) t801) := ⟨by (with_reducible repeat (first | apply Kd.V_alloc | apply Kd.V_drewN | apply Kd.V_drew)); exact Kd.V_mono (Kd.V_far (p := ⟨gb835, 0, none⟩) (Kd.V_mono HO803.out (fun k_ hk => (⟨hk, hk.2⟩ : _ ∧ k_ ≠ gb835))) (fun _ hk => hk.2) (.slice Ao66 t831.length co66)) (fun _ hk => ⟨hk.1.1.1.1.1.1.1.1.1, ⟨hk.1.1.1.1.1.1.1.1.2, ⟨hk.1.1.1.1.1.2, ⟨hk.1.1.2, ⟨hk.1.1.1.1.1.1.1.2, ⟨hk.1.1.1.1.1.1.2, ⟨hk.1.1.1.1.2, ⟨hk.1.1.1.2, hk.1.2⟩⟩⟩⟩⟩⟩⟩⟩)⟩
 have n5_ : Aside0 (Kd.V (Kd.int .u64) 27 (w65.setCell ⟨gb835, 0, none⟩ (.slice Ao66 t831.length co66)) w.heap.size (fun k_ => OB Ao26 y789 co26 k_ ∧ OB Ao30 y795 co30 k_ ∧ OB Ao44 y810 co44 k_ ∧ OB Ao61 y825 co61 k_ ∧ k_ ≠ gb808 ∧ k_ ≠ gb809 ∧ k_ ≠ gb823 ∧ k_ ≠ gb824 ∧ k_ ≠ gb835) (.slice Ao40 t804.length co40) t804) := ⟨by (with_reducible repeat (first | apply Kd.V_alloc | apply Kd.V_drewN | apply Kd.V_drew)); exact Kd.V_mono (Kd.V_far (p := ⟨gb835, 0, none⟩) (Kd.V_mono HO806.out (fun k_ hk => (⟨hk, hk.2⟩ : _ ∧ k_ ≠ gb835))) (fun _ hk => hk.2) (.slice Ao66 t831.length co66)) (fun _ hk => ⟨hk.1.1.1.1.1.1.1.1.1, ⟨hk.1.1.1.1.1.1.1.1.2, ⟨hk.1.1.1.1.1.2, ⟨hk.1.1.2, ⟨hk.1.1.1.1.1.1.1.2, ⟨hk.1.1.1.1.1.1.2, ⟨hk.1.1.1.1.2, ⟨hk.1.1.1.2, hk.1.2⟩⟩⟩⟩⟩⟩⟩⟩)⟩
 have n6_ : Aside0 (Kd.R (Kd.int .u64) 27 (w65.setCell ⟨gb835, 0, none⟩ (.slice Ao66 t831.length co66)) w.heap.size (fun k_ => OB Ao26 y789 co26 k_ ∧ OB Ao30 y795 co30 k_ ∧ OB Ao61 y825 co61 k_) (.slice Ao44 y810.length co44) y810) := ⟨by (with_reducible repeat (first | apply Kd.R_alloc | apply Kd.R_drewN | apply Kd.R_drew)); exact Kd.R_mono (Kd.R_far (p := ⟨gb835, 0, none⟩) (Kd.R_types HO812.out BK835.out (by decide)) (fun _ hk => hk.2) (.slice Ao66 t831.length co66)) (fun _ hk => ⟨hk.1.1.1.2, ⟨hk.1.1.2, hk.1.2⟩⟩)⟩
 have n7_ : Aside0 (Kd.V (Kd.int .u64) 27 (w65.setCell ⟨gb835, 0, none⟩ (.slice Ao66 t831.length co66)) w.heap.size (fun k_ => OB Ao26 y789 co26 k_ ∧ OB Ao30 y795 co30 k_ ∧ OB Ao44 y810 co44 k_ ∧ OB Ao61 y825 co61 k_ ∧ k_ ≠ gb808 ∧ k_ ≠ gb809 ∧ k_ ≠ gb823 ∧ k_ ≠ gb824 ∧ k_ ≠ gb835) (.slice Ao46 t813.length co46) t813) := ⟨by (with_reducible repeat (first | apply Kd.V_alloc | apply Kd.V_drewN | apply Kd.V_drew)); exact Kd.V_mono (Kd.V_far (p := ⟨gb835, 0, none⟩) (Kd.V_mono HO815.out (fun k_ hk => (⟨hk, hk.2⟩ : _ ∧ k_ ≠ gb835))) (fun _ hk => hk.2) (.slice Ao66 t831.length co66)) (fun _ hk => ⟨hk.1.1.1.1.1.1, ⟨hk.1.1.1.1.1.2.1, ⟨hk.1.1.1.1.1.2.2.1, ⟨hk.1.1.2, ⟨hk.1.1.1.1.1.2.2.2.1, ⟨hk.1.1.1.1.1.2.2.2.2, ⟨hk.1.1.1.1.2, ⟨hk.1.1.1.2, hk.1.2⟩⟩⟩⟩⟩⟩⟩⟩)⟩
 have n8_ : Aside0 (Kd.V (Kd.int .u64) 27 (w65.setCell ⟨gb835, 0, none⟩ (.slice Ao66 t831.length co66)) w.heap.size (fun k_ => OB Ao26 y789 co26 k_ ∧ OB Ao30 y795 co30 k_ ∧ OB Ao44 y810 co44 k_ ∧ OB Ao61 y825 co61 k_ ∧ k_ ≠ gb808 ∧ k_ ≠ gb809 ∧ k_ ≠ gb823 ∧ k_ ≠ gb824 ∧ k_ ≠ gb835) (.slice Ao50 t816.length co50) t816) := ⟨by (with_reducible repeat (first | apply Kd.V_alloc | apply Kd.V_drewN | apply Kd.V_drew)); exact Kd.V_mono (Kd.V_far (p := ⟨gb835, 0, none⟩) (Kd.V_mono HO818.out (fun k_ hk => (⟨hk, hk.2⟩ : _ ∧ k_ ≠ gb835))) (fun _ hk => hk.2) (.slice Ao66 t831.length co66)) (fun _ hk => ⟨hk.1.1.1.1.1.1, ⟨hk.1.1.1.1.1.2.1, ⟨hk.1.1.1.1.1.2.2.1, ⟨hk.1.1.2, ⟨hk.1.1.1.1.1.2.2.2.1, ⟨hk.1.1.1.1.1.2.2.2.2, ⟨hk.1.1.1.1.2, ⟨hk.1.1.1.2, hk.1.2⟩⟩⟩⟩⟩⟩⟩⟩)⟩
 have n9_ : Aside0 (Kd.V (Kd.int .u64) 27 (w65.setCell ⟨gb835, 0, none⟩ (.slice Ao66 t831.length co66)) w.heap.size (fun k_ => OB Ao26 y789 co26 k_ ∧ OB Ao30 y795 co30 k_ ∧ OB Ao44 y810 co44 k_ ∧ OB Ao61 y825 co61 k_ ∧ k_ ≠ gb808 ∧ k_ ≠ gb809 ∧ k_ ≠ gb823 ∧ k_ ≠ gb824 ∧ k_ ≠ gb835) (.slice Ao55 t819.length co55) t819) := ⟨by (with_reducible repeat (first | apply Kd.V_alloc | apply Kd.V_drewN | apply Kd.V_drew)); exact Kd.V_mono (Kd.V_far (p := ⟨gb835, 0, none⟩) (Kd.V_mono HO821.out (fun k_ hk => (⟨hk, hk.2⟩ : _ ∧ k_ ≠ gb835))) (fun _ hk => hk.2) (.slice Ao66 t831.length co66)) (fun _ hk => ⟨hk.1.1.1.1.1.1, ⟨hk.1.1.1.1.1.2.1, ⟨hk.1.1.1.1.1.2.2.1, ⟨hk.1.1.2, ⟨hk.1.1.1.1.1.2.2.2.1, ⟨hk.1.1.1.1.1.2.2.2.2, ⟨hk.1.1.1.1.2, ⟨hk.1.1.1.2, hk.1.2⟩⟩⟩⟩⟩⟩⟩⟩)⟩
 have n10_ : Aside0 (Kd.R (Kd.int .u64) 27 (w65.setCell ⟨gb835, 0, none⟩ (.slice Ao66 t831.length co66)) w.heap.size (fun k_ => OB Ao26 y789 co26 k_ ∧ OB Ao30 y795 co30 k_ ∧ OB Ao44 y810 co44 k_) (.slice Ao61 y825.length co61) y825) := ⟨by (with_reducible repeat (first | apply Kd.R_alloc | apply Kd.R_drewN | apply Kd.R_drew)); exact Kd.R_mono (Kd.R_far (p := ⟨gb835, 0, none⟩) (Kd.R_types HO827.out BK835.out (by decide)) (fun _ hk => hk.2) (.slice Ao66 t831.length co66)) (fun _ hk => ⟨hk.1.1.1.2, ⟨hk.1.1.2, hk.1.2⟩⟩)⟩
 have n11_ : Aside0 (Kd.V (Kd.int .u64) 27 (w65.setCell ⟨gb835, 0, none⟩ (.slice Ao66 t831.length co66)) w.heap.size (fun k_ => OB Ao26 y789 co26 k_ ∧ OB Ao30 y795 co30 k_ ∧ OB Ao44 y810 co44 k_ ∧ OB Ao61 y825 co61 k_ ∧ k_ ≠ gb808 ∧ k_ ≠ gb809 ∧ k_ ≠ gb823 ∧ k_ ≠ gb824 ∧ k_ ≠ gb835) (.slice Ao63 t828.length co63) t828) := ⟨by (with_reducible repeat (first | apply Kd.V_alloc | apply Kd.V_drewN | apply Kd.V_drew)); exact Kd.V_mono (Kd.V_far (p := ⟨gb835, 0, none⟩) (Kd.V_mono HO830.out (fun k_ hk => (⟨hk, hk.2⟩ : _ ∧ k_ ≠ gb835))) (fun _ hk => hk.2) (.slice Ao66 t831.length co66)) (fun _ hk => ⟨hk.1.1.1, ⟨hk.1.1.2.1, ⟨hk.1.1.2.2.1, ⟨hk.1.1.2.2.2.1, ⟨hk.1.1.2.2.2.2.1, ⟨hk.1.1.2.2.2.2.2.1, ⟨hk.1.1.2.2.2.2.2.2.1, ⟨hk.1.1.2.2.2.2.2.2.2, hk.1.2⟩⟩⟩⟩⟩⟩⟩⟩)⟩
 have n12_ : Aside0 (Kd.V (Kd.int .u64) 27 (w65.setCell ⟨gb835, 0, none⟩ (.slice Ao66 t831.length co66)) w.heap.size (fun k_ => OB Ao26 y789 co26 k_ ∧ OB Ao30 y795 co30 k_ ∧ OB Ao44 y810 co44 k_ ∧ OB Ao61 y825 co61 k_ ∧ k_ ≠ gb808 ∧ k_ ≠ gb809 ∧ k_ ≠ gb823 ∧ k_ ≠ gb824 ∧ k_ ≠ gb835) (.slice Ao66 t831.length co66) t831) := ⟨by (with_reducible repeat (first | apply Kd.V_alloc | apply Kd.V_drewN | apply Kd.V_drew)); exact Kd.V_mono (Kd.V_far (p := ⟨gb835, 0, none⟩) (Kd.V_mono HO833.out (fun k_ hk => (⟨hk, hk.2⟩ : _ ∧ k_ ≠ gb835))) (fun _ hk => hk.2) (.slice Ao66 t831.length co66)) (fun _ hk => ⟨hk.1.1.1, ⟨hk.1.1.2.1, ⟨hk.1.1.2.2.1, ⟨hk.1.1.2.2.2.1, ⟨hk.1.1.2.2.2.2.1, ⟨hk.1.1.2.2.2.2.2.1, ⟨hk.1.1.2.2.2.2.2.2.1, ⟨hk.1.1.2.2.2.2.2.2.2, hk.1.2⟩⟩⟩⟩⟩⟩⟩⟩)⟩
 have n13_ : Aside0 ((w65.setCell ⟨gb835, 0, none⟩ (.slice Ao66 t831.length co66)).heap[gb808]? = some (.cells #[.slice Ao37 t801.length co37] 25 (0, 0))) := ⟨by (with_reducible repeat (first | refine blk_drewN ?_ _ | refine blk_drew ?_ | refine blk_alloc ?_ _)); refine blk_far ?_ NB808_835.out _; (with_reducible repeat (first | refine blk_drewN ?_ _ | refine blk_drew ?_ | refine blk_alloc ?_ _)); exact BK808.out⟩
 have n14_ : Aside0 ((w65.setCell ⟨gb835, 0, none⟩ (.slice Ao66 t831.length co66)).heap[gb809]? = some (.cells #[.slice Ao40 t804.length co40] 25 (0, 0))) := ⟨by (with_reducible repeat (first | refine blk_drewN ?_ _ | refine blk_drew ?_ | refine blk_alloc ?_ _)); refine blk_far ?_ NB809_835.out _; (with_reducible repeat (first | refine blk_drewN ?_ _ | refine blk_drew ?_ | refine blk_alloc ?_ _)); exact BK809.out⟩
 have n15_ : Aside0 ((w65.setCell ⟨gb835, 0, none⟩ (.slice Ao66 t831.length co66)).heap[gb823]? = some (.cells #[.slice Ao50 t816.length co50] 25 (0, 0))) := ⟨by (with_reducible repeat (first | refine blk_drewN ?_ _ | refine blk_drew ?_ | refine blk_alloc ?_ _)); refine blk_far ?_ NB823_835.out _; (with_reducible repeat (first | refine blk_drewN ?_ _ | refine blk_drew ?_ | refine blk_alloc ?_ _)); exact BK823.out⟩
 have n16_ : Aside0 ((w65.setCell ⟨gb835, 0, none⟩ (.slice Ao66 t831.length co66)).heap[gb824]? = some (.cells #[.slice Ao55 t819.length co55] 25 (0, 0))) := ⟨by (with_reducible repeat (first | refine blk_drewN ?_ _ | refine blk_drew ?_ | refine blk_alloc ?_ _)); refine blk_far ?_ NB824_835.out _; (with_reducible repeat (first | refine blk_drewN ?_ _ | refine blk_drew ?_ | refine blk_alloc ?_ _)); exact BK824.out⟩
 have n17_ : Aside0 ((w65.setCell ⟨gb835, 0, none⟩ (.slice Ao66 t831.length co66)).heap[gb835]? = some (.cells #[.slice Ao66 t831.length co66] 25 (0, 0))) := ⟨by (with_reducible repeat (first | refine blk_drewN ?_ _ | refine blk_drew ?_ | refine blk_alloc ?_ _)); refine blk_put (cs := #[.slice none 0 0]) ?_ 0 _ rfl; (with_reducible repeat (first | refine blk_drewN ?_ _ | refine blk_drew ?_ | refine blk_alloc ?_ _)); exact BK835.out⟩
 have n18_ : Aside0 (Below w.heap.size w (w65.setCell ⟨gb835, 0, none⟩ (.slice Ao66 t831.length co66))) := ⟨by repeat (first | (with_reducible first | exact HB.out | apply below_alloc | apply pw_below_drewN | apply below_drew1 | refine below_set ?_ GE808.out | refine below_set ?_ GE809.out | refine below_set ?_ GE823.out | refine below_set ?_ GE824.out | refine below_set ?_ GE835.out) | exact HB.out)⟩
 (try clear HO791)
 (try clear HO794)
 (try clear HO797)
 (try clear HO800)
 (try clear HO803)
 (try clear HO806)
 (try clear HO812)
 (try clear HO815)
 (try clear HO818)
 (try clear HO821)
 (try clear HO827)
 (try clear HO830)
 (try clear HO833)
 (try clear BK808)
 (try clear BK809)
 (try clear BK823)
 (try clear BK824)
 (try clear BK835)
 (try clear HB)
 generalize (w65.setCell ⟨gb835, 0, none⟩ (.slice Ao66 t831.length co66)) = w72 at n0_ n1_ n2_ n3_ n4_ n5_ n6_ n7_ n8_ n9_ n10_ n11_ n12_ n13_ n14_ n15_ n16_ n17_ n18_ ⊢
 have HO791 := n0_
 have HO794 := n1_
 have HO797 := n2_
 have HO800 := n3_
 have HO803 := n4_
 have HO806 := n5_
 have HO812 := n6_
 have HO815 := n7_
 have HO818 := n8_
 have HO821 := n9_
 have HO827 := n10_
 have HO830 := n11_
 have HO833 := n12_
 have BK808 := n13_
 have BK809 := n14_
 have BK823 := n15_
 have BK824 := n16_
 have BK835 := n17_
 have HB := n18_
 clear n0_ n1_ n2_ n3_ n4_ n5_ n6_ n7_ n8_ n9_ n10_ n11_ n12_ n13_ n14_ n15_ n16_ n17_ n18_
 replace HO791 := Aside0.mk (Kd.R_drew HO791.out)
 replace HO794 := Aside0.mk (Kd.V_drew HO794.out)
 replace HO797 := Aside0.mk (Kd.R_drew HO797.out)
 replace HO800 := Aside0.mk (Kd.V_drew HO800.out)
 replace HO803 := Aside0.mk (Kd.V_drew HO803.out)
 replace HO806 := Aside0.mk (Kd.V_drew HO806.out)
 replace HO812 := Aside0.mk (Kd.R_drew HO812.out)
 replace HO815 := Aside0.mk (Kd.V_drew HO815.out)
 replace HO818 := Aside0.mk (Kd.V_drew HO818.out)
 replace HO821 := Aside0.mk (Kd.V_drew HO821.out)
 replace HO827 := Aside0.mk (Kd.R_drew HO827.out)
 replace HO830 := Aside0.mk (Kd.V_drew HO830.out)
 replace HO833 := Aside0.mk (Kd.V_drew HO833.out)
 replace BK808 := Aside0.mk (blk_drew BK808.out)
 replace BK809 := Aside0.mk (blk_drew BK809.out)
 replace BK823 := Aside0.mk (blk_drew BK823.out)
 replace BK824 := Aside0.mk (blk_drew BK824.out)
 replace BK835 := Aside0.mk (blk_drew BK835.out)
 replace HB := Aside0.mk (below_drew1 HB.out)
 refine start_ (n := 41) (S := fun w' => True) (ds := []) (fl 0 41 []) (by kernel_rfl) rfl rfl trivial (fun hHeld => ?_); refine with_tabW chattellaw02_wakes.tab4 chattellaw02_wakes.bits4 (fun HT_ HW_ => ?_)
 generalize w72.drew = w73 at HO791 HO794 HO797 HO800 HO803 HO806 HO812 HO815 HO818 HO821 HO827 HO830 HO833 BK808 BK809 BK823 BK824 BK835 HB hHeld ⊢
 refine pure_ (i := 0) (N := some 32) (v := ?_) (a' := ?_) (fl 1 41 []) rfl rfl (any_of HT_.out (by kernel_rfl)) (fun _ _ _ h => h) (Or.inl ⟨by rfl, ?_⟩) ?_ ?_
 rotate_left
 ·intro w'
  go_simp
  with_reducible rfl
 rotate_left
 ·simp only [Act.put, List.setIfInBounds_toArray, List.set_cons_zero, List.set_cons_succ, i64_w, i32_w]
  rfl
 refine inv_at [1, 2, 3, 4, 5, 6, 7, 8, 9, 10, 11, 12, 13, 14, 15, 16, 17, 18, 19, 20, 21, 22, 23, 24, 25, 26, 27, 28, 29, 30, 31, 32, 33, 34, 35, 36, 37, 38, 39, 40] (fun a0_ b a w' => ∃ (v837 : Value) (v840 : Value) (v844 : Value) (v847 : Value) (v851 : Value) (v854 : Value) (v857 : Value) (v860 : Value) (v863 : Value) (v866 : Value) (v869 : Value) (m5_ : Value) (m12_ : Value) (m22_ : Value) (m24_ : Value) (m25_ : Value) (m27_ : Value), a = putSel a0_ b [(1, 33, .bool (t807 == 0)), (2, 34, .bool (t807 == 0)), (3, 35, .agg #[.slice Ao37 t801.length co37]), (4, 36, v837), (5, 37, m5_), (6, 38, .int .i64 t842), (7, 39, .bool (t842 == 0)), (8, 40, .bool (t842 == 0)), (9, 41, .bool (t842 == 0)), (10, 42, .agg #[.slice Ao40 t804.length co40]), (11, 43, v844), (12, 44, m12_), (13, 45, .int .i64 t849), (14, 46, .bool (t849 == 0)), (15, 47, .bool (t849 == 0)), (16, 48, .bool (t849 == 0)), (17, 49, .int .i64 t822), (18, 50, .bool (t822 == 8)), (19, 51, .bool (t822 == 8)), (20, 52, .bool (t822 == 8)), (21, 53, v851), (22, 54, m22_), (23, 55, v857), (24, 56, m24_), (25, 57, m25_), (26, 58, v866), (27, 59, m27_), (28, 60, .int .i64 t871), (29, 61, .bool (t871 == 0)), (30, 62, .bool (t871 == 0)), (31, 63, .bool (t871 == 0)), (32, 64, .agg #[.slice Ao66 t831.length co66]), (33, 65, .int .i64 t872), (34, 66, .bool (t872 == 65)), (35, 67, .bool (t872 == 65)), (36, 68, .bool (t872 == 65)), (37, 69, .int .i64 t834), (38, 70, .bool (t834 == 0)), (39, 71, .bool (t834 == 0)), (40, 0, .bool (t834 == 0))] ∧ (Kd.R (Kd.int .u64) 27 w' w.heap.size (fun k_ => OB Ao30 y795 co30 k_ ∧ OB Ao44 y810 co44 k_ ∧ OB Ao61 y825 co61 k_) (.slice Ao26 y789.length co26) y789) ∧ (Kd.V (Kd.int .u64) 27 w' w.heap.size (fun k_ => OB Ao26 y789 co26 k_ ∧ OB Ao30 y795 co30 k_ ∧ OB Ao44 y810 co44 k_ ∧ OB Ao61 y825 co61 k_ ∧ k_ ≠ gb808 ∧ k_ ≠ gb809 ∧ k_ ≠ gb823 ∧ k_ ≠ gb824 ∧ k_ ≠ gb835) (.slice Ao32 t792.length co32) t792) ∧ (Kd.R (Kd.int .u64) 27 w' w.heap.size (fun k_ => OB Ao26 y789 co26 k_ ∧ OB Ao44 y810 co44 k_ ∧ OB Ao61 y825 co61 k_) (.slice Ao30 y795.length co30) y795) ∧ (Kd.V (Kd.int .u64) 27 w' w.heap.size (fun k_ => OB Ao26 y789 co26 k_ ∧ OB Ao30 y795 co30 k_ ∧ OB Ao44 y810 co44 k_ ∧ OB Ao61 y825 co61 k_ ∧ k_ ≠ gb808 ∧ k_ ≠ gb809 ∧ k_ ≠ gb823 ∧ k_ ≠ gb824 ∧ k_ ≠ gb835) (.slice Ao33 t798.length co33) t798) ∧ (Kd.V (Kd.int .u64) 27 w' w.heap.size (fun k_ => OB Ao26 y789 co26 k_ ∧ OB Ao30 y795 co30 k_ ∧ OB Ao44 y810 co44 k_ ∧ OB Ao61 y825 co61 k_ ∧ k_ ≠ gb808 ∧ k_ ≠ gb809 ∧ k_ ≠ gb823 ∧ k_ ≠ gb824 ∧ k_ ≠ gb835) (.slice Ao37 t801.length co37) t801) ∧ (Kd.V (Kd.int .u64) 27 w' w.heap.size (fun k_ => OB Ao26 y789 co26 k_ ∧ OB Ao30 y795 co30 k_ ∧ OB Ao44 y810 co44 k_ ∧ OB Ao61 y825 co61 k_ ∧ k_ ≠ gb808 ∧ k_ ≠ gb809 ∧ k_ ≠ gb823 ∧ k_ ≠ gb824 ∧ k_ ≠ gb835) (.slice Ao40 t804.length co40) t804) ∧ (Kd.R (Kd.int .u64) 27 w' w.heap.size (fun k_ => OB Ao26 y789 co26 k_ ∧ OB Ao30 y795 co30 k_ ∧ OB Ao61 y825 co61 k_) (.slice Ao44 y810.length co44) y810) ∧ (Kd.V (Kd.int .u64) 27 w' w.heap.size (fun k_ => OB Ao26 y789 co26 k_ ∧ OB Ao30 y795 co30 k_ ∧ OB Ao44 y810 co44 k_ ∧ OB Ao61 y825 co61 k_ ∧ k_ ≠ gb808 ∧ k_ ≠ gb809 ∧ k_ ≠ gb823 ∧ k_ ≠ gb824 ∧ k_ ≠ gb835) (.slice Ao46 t813.length co46) t813) ∧ (Kd.V (Kd.int .u64) 27 w' w.heap.size (fun k_ => OB Ao26 y789 co26 k_ ∧ OB Ao30 y795 co30 k_ ∧ OB Ao44 y810 co44 k_ ∧ OB Ao61 y825 co61 k_ ∧ k_ ≠ gb808 ∧ k_ ≠ gb809 ∧ k_ ≠ gb823 ∧ k_ ≠ gb824 ∧ k_ ≠ gb835) (.slice Ao50 t816.length co50) t816) ∧ (Kd.V (Kd.int .u64) 27 w' w.heap.size (fun k_ => OB Ao26 y789 co26 k_ ∧ OB Ao30 y795 co30 k_ ∧ OB Ao44 y810 co44 k_ ∧ OB Ao61 y825 co61 k_ ∧ k_ ≠ gb808 ∧ k_ ≠ gb809 ∧ k_ ≠ gb823 ∧ k_ ≠ gb824 ∧ k_ ≠ gb835) (.slice Ao55 t819.length co55) t819) ∧ (Kd.R (Kd.int .u64) 27 w' w.heap.size (fun k_ => OB Ao26 y789 co26 k_ ∧ OB Ao30 y795 co30 k_ ∧ OB Ao44 y810 co44 k_) (.slice Ao61 y825.length co61) y825) ∧ (Kd.V (Kd.int .u64) 27 w' w.heap.size (fun k_ => OB Ao26 y789 co26 k_ ∧ OB Ao30 y795 co30 k_ ∧ OB Ao44 y810 co44 k_ ∧ OB Ao61 y825 co61 k_ ∧ k_ ≠ gb808 ∧ k_ ≠ gb809 ∧ k_ ≠ gb823 ∧ k_ ≠ gb824 ∧ k_ ≠ gb835) (.slice Ao63 t828.length co63) t828) ∧ (Kd.V (Kd.int .u64) 27 w' w.heap.size (fun k_ => OB Ao26 y789 co26 k_ ∧ OB Ao30 y795 co30 k_ ∧ OB Ao44 y810 co44 k_ ∧ OB Ao61 y825 co61 k_ ∧ k_ ≠ gb808 ∧ k_ ≠ gb809 ∧ k_ ≠ gb823 ∧ k_ ≠ gb824 ∧ k_ ≠ gb835) (.slice Ao66 t831.length co66) t831) ∧ (w'.heap[gb808]? = some (.cells #[.slice Ao37 t801.length co37] 25 (0, 0))) ∧ (w'.heap[gb809]? = some (.cells #[.slice Ao40 t804.length co40] 25 (0, 0))) ∧ (w'.heap[gb823]? = some (.cells #[.slice Ao50 t816.length co50] 25 (0, 0))) ∧ (w'.heap[gb824]? = some (.cells #[.slice Ao55 t819.length co55] 25 (0, 0))) ∧ (w'.heap[gb835]? = some (.cells #[.slice Ao66 t831.length co66] 25 (0, 0))) ∧ (Below w.heap.size w w') ∧ (b 4 = true → Kd.R (Kd.int .u64) 27 w' w.heap.size (fun k_ => OB Ao26 y789 co26 k_ ∧ OB Ao30 y795 co30 k_ ∧ OB Ao44 y810 co44 k_ ∧ OB Ao61 y825 co61 k_) v837 y836) ∧ (b 5 = true → Kd.V (Kd.int .u64) 27 w' w.heap.size (fun k_ => OB Ao26 y789 co26 k_ ∧ OB Ao30 y795 co30 k_ ∧ OB Ao44 y810 co44 k_ ∧ OB Ao61 y825 co61 k_ ∧ k_ ≠ gb808 ∧ k_ ≠ gb809 ∧ k_ ≠ gb823 ∧ k_ ≠ gb824 ∧ k_ ≠ gb835) v840 t839) ∧ (b 11 = true → Kd.R (Kd.int .u64) 27 w' w.heap.size (fun k_ => OB Ao26 y789 co26 k_ ∧ OB Ao30 y795 co30 k_ ∧ OB Ao44 y810 co44 k_ ∧ OB Ao61 y825 co61 k_) v844 y843) ∧ (b 12 = true → Kd.V (Kd.int .u64) 27 w' w.heap.size (fun k_ => OB Ao26 y789 co26 k_ ∧ OB Ao30 y795 co30 k_ ∧ OB Ao44 y810 co44 k_ ∧ OB Ao61 y825 co61 k_ ∧ k_ ≠ gb808 ∧ k_ ≠ gb809 ∧ k_ ≠ gb823 ∧ k_ ≠ gb824 ∧ k_ ≠ gb835) v847 t846) ∧ (b 21 = true → Kd.R (Kd.int .u64) 27 w' w.heap.size (fun k_ => OB Ao26 y789 co26 k_ ∧ OB Ao30 y795 co30 k_ ∧ OB Ao44 y810 co44 k_ ∧ OB Ao61 y825 co61 k_) v851 y850) ∧ (b 22 = true → Kd.V (Kd.int .u64) 27 w' w.heap.size (fun k_ => OB Ao26 y789 co26 k_ ∧ OB Ao30 y795 co30 k_ ∧ OB Ao44 y810 co44 k_ ∧ OB Ao61 y825 co61 k_ ∧ k_ ≠ gb808 ∧ k_ ≠ gb809 ∧ k_ ≠ gb823 ∧ k_ ≠ gb824 ∧ k_ ≠ gb835) v854 t853) ∧ (b 23 = true → Kd.R (Kd.int .u64) 27 w' w.heap.size (fun k_ => OB Ao26 y789 co26 k_ ∧ OB Ao30 y795 co30 k_ ∧ OB Ao44 y810 co44 k_ ∧ OB Ao61 y825 co61 k_) v857 y856) ∧ (b 24 = true → Kd.V (Kd.int .u64) 27 w' w.heap.size (fun k_ => OB Ao26 y789 co26 k_ ∧ OB Ao30 y795 co30 k_ ∧ OB Ao44 y810 co44 k_ ∧ OB Ao61 y825 co61 k_ ∧ k_ ≠ gb808 ∧ k_ ≠ gb809 ∧ k_ ≠ gb823 ∧ k_ ≠ gb824 ∧ k_ ≠ gb835) v860 t859) ∧ (b 25 = true → Kd.V (Kd.int .u64) 27 w' w.heap.size (fun k_ => OB Ao26 y789 co26 k_ ∧ OB Ao30 y795 co30 k_ ∧ OB Ao44 y810 co44 k_ ∧ OB Ao61 y825 co61 k_ ∧ k_ ≠ gb808 ∧ k_ ≠ gb809 ∧ k_ ≠ gb823 ∧ k_ ≠ gb824 ∧ k_ ≠ gb835) v863 t862) ∧ (b 26 = true → Kd.R (Kd.int .u64) 27 w' w.heap.size (fun k_ => OB Ao26 y789 co26 k_ ∧ OB Ao30 y795 co30 k_ ∧ OB Ao44 y810 co44 k_ ∧ OB Ao61 y825 co61 k_) v866 y865) ∧ (b 27 = true → Kd.V (Kd.int .u64) 27 w' w.heap.size (fun k_ => OB Ao26 y789 co26 k_ ∧ OB Ao30 y795 co30 k_ ∧ OB Ao44 y810 co44 k_ ∧ OB Ao61 y825 co61 k_ ∧ k_ ≠ gb808 ∧ k_ ≠ gb809 ∧ k_ ≠ gb823 ∧ k_ ≠ gb824 ∧ k_ ≠ gb835) v869 t868) ∧ (b 5 = true → (m5_ : Value) = .agg #[v840]) ∧ (b 12 = true → (m12_ : Value) = .agg #[v847]) ∧ (b 22 = true → (m22_ : Value) = .agg #[v854]) ∧ (b 24 = true → (m24_ : Value) = .agg #[v860]) ∧ (b 25 = true → (m25_ : Value) = .agg #[v863]) ∧ (b 27 = true → (m27_ : Value) = .agg #[v869])) HT_.out HW_.out (by kernel_rfl) (by kernel_rfl) ?_ ?_ ?_
 ·exact ⟨.bool false, .bool false, .bool false, .bool false, .bool false, .bool false, .bool false, .bool false, .bool false, .bool false, .bool false, .bool false, .bool false, .bool false, .bool false, .bool false, .bool false, by simp only [putSel, Bool.false_eq_true, if_false], HO791.out, HO794.out, HO797.out, HO800.out, HO803.out, HO806.out, HO812.out, HO815.out, HO818.out, HO821.out, HO827.out, HO830.out, HO833.out, BK808.out, BK809.out, BK823.out, BK824.out, BK835.out, HB.out, fun h_ => absurd h_ (by decide), fun h_ => absurd h_ (by decide), fun h_ => absurd h_ (by decide), fun h_ => absurd h_ (by decide), fun h_ => absurd h_ (by decide), fun h_ => absurd h_ (by decide), fun h_ => absurd h_ (by decide), fun h_ => absurd h_ (by decide), fun h_ => absurd h_ (by decide), fun h_ => absurd h_ (by decide), fun h_ => absurd h_ (by decide), fun h_ => absurd h_ (by decide), fun h_ => absurd h_ (by decide), fun h_ => absurd h_ (by decide), fun h_ => absurd h_ (by decide), fun h_ => absurd h_ (by decide), fun h_ => absurd h_ (by decide)⟩
 ·skip
  clear BK808 BK809 BK823 BK824 BK835 HB HO791 HO794 HO797 HO800 HO803 HO806 HO812 HO815 HO818 HO821 HO827 HO830 HO833
  refine steps_cons ?_ ?_
  ·intro b a w' hx0_ hb_ hon hoff
   refine ex8_ hx0_ fun v837 v840 v844 v847 v851 v854 v857 v860 hx1_ => ex8_ hx1_ fun v863 v866 v869 m5_ m12_ m22_ m24_ m25_ hx2_ => ex1_ hx2_ fun m27_ hx3_ => and8A hx3_ fun ha HO791 HO794 HO797 HO800 HO803 HO806 hy1_ => and8A hy1_ fun HO812 HO815 HO818 HO821 HO827 HO830 HO833 hy2_ => and7A hy2_ fun BK808 BK809 BK823 BK824 BK835 HB hy3_ => and8 hy3_ fun Q_HO838 Q_HO841 Q_HO845 Q_HO848 Q_HO852 Q_HO855 Q_HO858 hy4_ => and8 hy4_ fun Q_HO861 Q_HO864 Q_HO867 Q_HO870 Q_X5_ Q_X12_ Q_X22_ hy5_ => ?_
   have Q_X24_ := hy5_.1; have Q_X25_ := hy5_.2.1; have Q_X27_ := hy5_.2.2; clear hx0_ hx1_ hx2_ hx3_ hy1_ hy2_ hy3_ hy4_ hy5_
   refine ⟨_, rfl, fun K hK => ?_⟩
   have e32 : a.tmps[32]? = some (.int .i64 t807) := by rw [ha.out]; exact (putSel_off rfl).trans rfl
   refine value_ (w1 := w') (v := .bool (t807 == 0)) (by rfl) rfl ?_ ?_
   ·go_simp
    (try simp only [i64_w])
    try rfl
   refine hK.out _ _ ⟨v837, v840, v844, v847, v851, v854, v857, v860, v863, v866, v869, m5_, m12_, m22_, m24_, m25_, m27_, (by rw [ha.out]; exact putSel_upk 0 hb_ rfl rfl rfl), HO791.out, HO794.out, HO797.out, HO800.out, HO803.out, HO806.out, HO812.out, HO815.out, HO818.out, HO821.out, HO827.out, HO830.out, HO833.out, BK808.out, BK809.out, BK823.out, BK824.out, BK835.out, HB.out, ab0 (hoff 4 (by kernel_rfl)), ab0 (hoff 5 (by kernel_rfl)), ab0 (hoff 11 (by kernel_rfl)), ab0 (hoff 12 (by kernel_rfl)), ab0 (hoff 21 (by kernel_rfl)), ab0 (hoff 22 (by kernel_rfl)), ab0 (hoff 23 (by kernel_rfl)), ab0 (hoff 24 (by kernel_rfl)), ab0 (hoff 25 (by kernel_rfl)), ab0 (hoff 26 (by kernel_rfl)), ab0 (hoff 27 (by kernel_rfl)), ab0 (hoff 5 (by kernel_rfl)), ab0 (hoff 12 (by kernel_rfl)), ab0 (hoff 22 (by kernel_rfl)), ab0 (hoff 24 (by kernel_rfl)), ab0 (hoff 25 (by kernel_rfl)), ab0 (hoff 27 (by kernel_rfl))⟩
  refine steps_cons ?_ ?_
  ·intro b a w' hx0_ hb_ hon hoff
   refine ex8_ hx0_ fun v837 v840 v844 v847 v851 v854 v857 v860 hx1_ => ex8_ hx1_ fun v863 v866 v869 m5_ m12_ m22_ m24_ m25_ hx2_ => ex1_ hx2_ fun m27_ hx3_ => and8A hx3_ fun ha HO791 HO794 HO797 HO800 HO803 HO806 hy1_ => and8A hy1_ fun HO812 HO815 HO818 HO821 HO827 HO830 HO833 hy2_ => and7A hy2_ fun BK808 BK809 BK823 BK824 BK835 HB hy3_ => and8 hy3_ fun Q_HO838 Q_HO841 Q_HO845 Q_HO848 Q_HO852 Q_HO855 Q_HO858 hy4_ => and8 hy4_ fun Q_HO861 Q_HO864 Q_HO867 Q_HO870 Q_X5_ Q_X12_ Q_X22_ hy5_ => ?_
   have Q_X24_ := hy5_.1; have Q_X25_ := hy5_.2.1; have Q_X27_ := hy5_.2.2; clear hx0_ hx1_ hx2_ hx3_ hy1_ hy2_ hy3_ hy4_ hy5_
   refine ⟨_, rfl, fun K hK => ?_⟩
   have e33 : a.tmps[33]? = some (.bool (t807 == 0)) := by rw [ha.out]; exact putSel_on (e := (1, 33, .bool (t807 == 0))) 0 rfl rfl (hon 1 (by kernel_rfl)) rfl
   refine value_ (w1 := w') (v := .bool (t807 == 0)) (by rfl) rfl ?_ ?_
   ·go_simp
    (try simp only [i64_w])
    try rfl
   refine hK.out _ _ ⟨v837, v840, v844, v847, v851, v854, v857, v860, v863, v866, v869, m5_, m12_, m22_, m24_, m25_, m27_, (by rw [ha.out]; exact putSel_upk 1 hb_ rfl rfl rfl), HO791.out, HO794.out, HO797.out, HO800.out, HO803.out, HO806.out, HO812.out, HO815.out, HO818.out, HO821.out, HO827.out, HO830.out, HO833.out, BK808.out, BK809.out, BK823.out, BK824.out, BK835.out, HB.out, ab0 (hoff 4 (by kernel_rfl)), ab0 (hoff 5 (by kernel_rfl)), ab0 (hoff 11 (by kernel_rfl)), ab0 (hoff 12 (by kernel_rfl)), ab0 (hoff 21 (by kernel_rfl)), ab0 (hoff 22 (by kernel_rfl)), ab0 (hoff 23 (by kernel_rfl)), ab0 (hoff 24 (by kernel_rfl)), ab0 (hoff 25 (by kernel_rfl)), ab0 (hoff 26 (by kernel_rfl)), ab0 (hoff 27 (by kernel_rfl)), ab0 (hoff 5 (by kernel_rfl)), ab0 (hoff 12 (by kernel_rfl)), ab0 (hoff 22 (by kernel_rfl)), ab0 (hoff 24 (by kernel_rfl)), ab0 (hoff 25 (by kernel_rfl)), ab0 (hoff 27 (by kernel_rfl))⟩
  refine steps_cons ?_ ?_
  ·intro b a w' hx0_ hb_ hon hoff
   refine ex8_ hx0_ fun v837 v840 v844 v847 v851 v854 v857 v860 hx1_ => ex8_ hx1_ fun v863 v866 v869 m5_ m12_ m22_ m24_ m25_ hx2_ => ex1_ hx2_ fun m27_ hx3_ => and8A hx3_ fun ha HO791 HO794 HO797 HO800 HO803 HO806 hy1_ => and8A hy1_ fun HO812 HO815 HO818 HO821 HO827 HO830 HO833 hy2_ => and7A hy2_ fun BK808 BK809 BK823 BK824 BK835 HB hy3_ => and8 hy3_ fun Q_HO838 Q_HO841 Q_HO845 Q_HO848 Q_HO852 Q_HO855 Q_HO858 hy4_ => and8 hy4_ fun Q_HO861 Q_HO864 Q_HO867 Q_HO870 Q_X5_ Q_X12_ Q_X22_ hy5_ => ?_
   have Q_X24_ := hy5_.1; have Q_X25_ := hy5_.2.1; have Q_X27_ := hy5_.2.2; clear hx0_ hx1_ hx2_ hx3_ hy1_ hy2_ hy3_ hy4_ hy5_
   refine ⟨_, rfl, fun K hK => ?_⟩
   have e1 : a.tmps[1]? = some (.pointer (some ⟨gb808, 0, none⟩)) := by rw [ha.out]; exact (putSel_off rfl).trans rfl
   have e34 : a.tmps[34]? = some (.bool (t807 == 0)) := by rw [ha.out]; exact putSel_on (e := (2, 34, .bool (t807 == 0))) 1 rfl rfl (hon 2 (by kernel_rfl)) rfl
   have hc0_ : w'.cell? ⟨gb808, 0, none⟩ = some (.slice Ao37 t801.length co37) := (blk_cell BK808.out 0).trans rfl
   refine value_ (w1 := w') (v := .agg #[.slice Ao37 t801.length co37]) (wanted_on rfl rfl rfl (e34.trans (by first | rfl | (simp [*]; done)))) rfl ?_ ?_
   ·go_simp
    (try simp only [i64_w])
    try rfl
   refine hK.out _ _ ⟨v837, v840, v844, v847, v851, v854, v857, v860, v863, v866, v869, m5_, m12_, m22_, m24_, m25_, m27_, (by rw [ha.out]; exact putSel_upk 2 hb_ rfl rfl rfl), HO791.out, HO794.out, HO797.out, HO800.out, HO803.out, HO806.out, HO812.out, HO815.out, HO818.out, HO821.out, HO827.out, HO830.out, HO833.out, BK808.out, BK809.out, BK823.out, BK824.out, BK835.out, HB.out, Q_HO838, Q_HO841, ab0 (hoff 11 (by kernel_rfl)), ab0 (hoff 12 (by kernel_rfl)), ab0 (hoff 21 (by kernel_rfl)), ab0 (hoff 22 (by kernel_rfl)), ab0 (hoff 23 (by kernel_rfl)), ab0 (hoff 24 (by kernel_rfl)), ab0 (hoff 25 (by kernel_rfl)), ab0 (hoff 26 (by kernel_rfl)), ab0 (hoff 27 (by kernel_rfl)), Q_X5_, ab0 (hoff 12 (by kernel_rfl)), ab0 (hoff 22 (by kernel_rfl)), ab0 (hoff 24 (by kernel_rfl)), ab0 (hoff 25 (by kernel_rfl)), ab0 (hoff 27 (by kernel_rfl))⟩
  refine steps_cons ?_ ?_
  ·intro b a w' hx0_ hb_ hon hoff
   refine ex8_ hx0_ fun v837 v840 v844 v847 v851 v854 v857 v860 hx1_ => ex8_ hx1_ fun v863 v866 v869 m5_ m12_ m22_ m24_ m25_ hx2_ => ex1_ hx2_ fun m27_ hx3_ => and8A hx3_ fun ha HO791 HO794 HO797 HO800 HO803 HO806 hy1_ => and8A hy1_ fun HO812 HO815 HO818 HO821 HO827 HO830 HO833 hy2_ => and7A hy2_ fun BK808 BK809 BK823 BK824 BK835 HB hy3_ => and8 hy3_ fun Q_HO838 Q_HO841 Q_HO845 Q_HO848 Q_HO852 Q_HO855 Q_HO858 hy4_ => and8 hy4_ fun Q_HO861 Q_HO864 Q_HO867 Q_HO870 Q_X5_ Q_X12_ Q_X22_ hy5_ => ?_
   have Q_X24_ := hy5_.1; have Q_X25_ := hy5_.2.1; have Q_X27_ := hy5_.2.2; clear hx0_ hx1_ hx2_ hx3_ hy1_ hy2_ hy3_ hy4_ hy5_
   refine ⟨_, rfl, fun K hK => ?_⟩
   have e34 : a.tmps[34]? = some (.bool (t807 == 0)) := by rw [ha.out]; exact putSel_on (e := (2, 34, .bool (t807 == 0))) 1 rfl rfl (hon 2 (by kernel_rfl)) rfl
   refine Kd.R_lit_step (Kd.int .u64) _ 27 ?hg (N := 36) ?hd (xs := ([14] : List Int)) (inner := [.int .u64 14]) (ok := fun _ => True) (okp := fun _ => True) ?hr ?hp (fun _ hk => hk) trivial (Below.refl _ _) (Nat.le_refl _) (by simp) ?_; (case hd => rfl); (case hg => exact (wanted_on rfl rfl rfl (e34.trans (by first | rfl | (simp [*]; done))))); (case hr => first | (go_simp; done) | (go_simp; rfl)); (case hp => exact (Reps.one (show Kd.M (Kd.int .u64) _ _ _ 14 [.int .u64 14] from rfl) (Reps.none _ _)))
   intro v837 w74 ho75 hb hg_ hnew_
   clear hg_ hnew_
   (first | rw [← Ny836.out] at ho75 | (simp only [Int.reduceToNat] at ho75; rw [← Ny836.out] at ho75))
   have n0_ := Aside0.mk (Kd.R_elder' HO791.out (Kd.R_base ho75) hb)
   have n1_ := Aside0.mk (Kd.V_elder' HO794.out (Kd.R_base ho75) hb)
   have n2_ := Aside0.mk (Kd.R_elder' HO797.out (Kd.R_base ho75) hb)
   have n3_ := Aside0.mk (Kd.V_elder' HO800.out (Kd.R_base ho75) hb)
   have n4_ := Aside0.mk (Kd.V_elder' HO803.out (Kd.R_base ho75) hb)
   have n5_ := Aside0.mk (Kd.V_elder' HO806.out (Kd.R_base ho75) hb)
   have n6_ := Aside0.mk (Kd.R_elder' HO812.out (Kd.R_base ho75) hb)
   have n7_ := Aside0.mk (Kd.V_elder' HO815.out (Kd.R_base ho75) hb)
   have n8_ := Aside0.mk (Kd.V_elder' HO818.out (Kd.R_base ho75) hb)
   have n9_ := Aside0.mk (Kd.V_elder' HO821.out (Kd.R_base ho75) hb)
   have n10_ := Aside0.mk (Kd.R_elder' HO827.out (Kd.R_base ho75) hb)
   have n11_ := Aside0.mk (Kd.V_elder' HO830.out (Kd.R_base ho75) hb)
   have n12_ := Aside0.mk (Kd.V_elder' HO833.out (Kd.R_base ho75) hb)
   have n13_ := Aside0.mk (Kd.R_lower (Kd.R_new' (Kd.R_new' (Kd.R_new' (Kd.R_new' ho75 (Kd.R_lt HO791.out)) (Kd.R_lt HO797.out)) (Kd.R_lt HO812.out)) (Kd.R_lt HO827.out)) (bz HB.out))
   have n14_ := Aside0.mk (bb BK808.out hb)
   have n15_ := Aside0.mk (bb BK809.out hb)
   have n16_ := Aside0.mk (bb BK823.out hb)
   have n17_ := Aside0.mk (bb BK824.out hb)
   have n18_ := Aside0.mk (bb BK835.out hb)
   have n19_ := Aside0.mk (bs HB.out hb)
   clear HO791
   clear HO794
   clear HO797
   clear HO800
   clear HO803
   clear HO806
   clear HO812
   clear HO815
   clear HO818
   clear HO821
   clear HO827
   clear HO830
   clear HO833
   clear BK808
   clear BK809
   clear BK823
   clear BK824
   clear BK835
   clear HB
   have HO791 := n0_
   have HO794 := n1_
   have HO797 := n2_
   have HO800 := n3_
   have HO803 := n4_
   have HO806 := n5_
   have HO812 := n6_
   have HO815 := n7_
   have HO818 := n8_
   have HO821 := n9_
   have HO827 := n10_
   have HO830 := n11_
   have HO833 := n12_
   have HO838 := n13_
   have BK808 := n14_
   have BK809 := n15_
   have BK823 := n16_
   have BK824 := n17_
   have BK835 := n18_
   have HB := n19_
   clear n0_ n1_ n2_ n3_ n4_ n5_ n6_ n7_ n8_ n9_ n10_ n11_ n12_ n13_ n14_ n15_ n16_ n17_ n18_ n19_
   clear hb ho75
   refine hK.out _ _ ⟨v837, v840, v844, v847, v851, v854, v857, v860, v863, v866, v869, m5_, m12_, m22_, m24_, m25_, m27_, (by rw [ha.out]; exact putSel_upk 3 hb_ rfl rfl rfl), (Kd.R_mono HO791.out (fun _ hk => ⟨hk.1.1, ⟨hk.1.2.1, hk.1.2.2⟩⟩)), (Kd.V_mono HO794.out (fun _ hk => ⟨hk.1.1, ⟨hk.1.2.1, ⟨hk.1.2.2.1, ⟨hk.1.2.2.2.1, ⟨hk.1.2.2.2.2.1, ⟨hk.1.2.2.2.2.2.1, ⟨hk.1.2.2.2.2.2.2.1, ⟨hk.1.2.2.2.2.2.2.2.1, hk.1.2.2.2.2.2.2.2.2⟩⟩⟩⟩⟩⟩⟩⟩)), (Kd.R_mono HO797.out (fun _ hk => ⟨hk.1.1, ⟨hk.1.2.1, hk.1.2.2⟩⟩)), (Kd.V_mono HO800.out (fun _ hk => ⟨hk.1.1, ⟨hk.1.2.1, ⟨hk.1.2.2.1, ⟨hk.1.2.2.2.1, ⟨hk.1.2.2.2.2.1, ⟨hk.1.2.2.2.2.2.1, ⟨hk.1.2.2.2.2.2.2.1, ⟨hk.1.2.2.2.2.2.2.2.1, hk.1.2.2.2.2.2.2.2.2⟩⟩⟩⟩⟩⟩⟩⟩)), (Kd.V_mono HO803.out (fun _ hk => ⟨hk.1.1, ⟨hk.1.2.1, ⟨hk.1.2.2.1, ⟨hk.1.2.2.2.1, ⟨hk.1.2.2.2.2.1, ⟨hk.1.2.2.2.2.2.1, ⟨hk.1.2.2.2.2.2.2.1, ⟨hk.1.2.2.2.2.2.2.2.1, hk.1.2.2.2.2.2.2.2.2⟩⟩⟩⟩⟩⟩⟩⟩)), (Kd.V_mono HO806.out (fun _ hk => ⟨hk.1.1, ⟨hk.1.2.1, ⟨hk.1.2.2.1, ⟨hk.1.2.2.2.1, ⟨hk.1.2.2.2.2.1, ⟨hk.1.2.2.2.2.2.1, ⟨hk.1.2.2.2.2.2.2.1, ⟨hk.1.2.2.2.2.2.2.2.1, hk.1.2.2.2.2.2.2.2.2⟩⟩⟩⟩⟩⟩⟩⟩)), (Kd.R_mono HO812.out (fun _ hk => ⟨hk.1.1, ⟨hk.1.2.1, hk.1.2.2⟩⟩)), (Kd.V_mono HO815.out (fun _ hk => ⟨hk.1.1, ⟨hk.1.2.1, ⟨hk.1.2.2.1, ⟨hk.1.2.2.2.1, ⟨hk.1.2.2.2.2.1, ⟨hk.1.2.2.2.2.2.1, ⟨hk.1.2.2.2.2.2.2.1, ⟨hk.1.2.2.2.2.2.2.2.1, hk.1.2.2.2.2.2.2.2.2⟩⟩⟩⟩⟩⟩⟩⟩)), (Kd.V_mono HO818.out (fun _ hk => ⟨hk.1.1, ⟨hk.1.2.1, ⟨hk.1.2.2.1, ⟨hk.1.2.2.2.1, ⟨hk.1.2.2.2.2.1, ⟨hk.1.2.2.2.2.2.1, ⟨hk.1.2.2.2.2.2.2.1, ⟨hk.1.2.2.2.2.2.2.2.1, hk.1.2.2.2.2.2.2.2.2⟩⟩⟩⟩⟩⟩⟩⟩)), (Kd.V_mono HO821.out (fun _ hk => ⟨hk.1.1, ⟨hk.1.2.1, ⟨hk.1.2.2.1, ⟨hk.1.2.2.2.1, ⟨hk.1.2.2.2.2.1, ⟨hk.1.2.2.2.2.2.1, ⟨hk.1.2.2.2.2.2.2.1, ⟨hk.1.2.2.2.2.2.2.2.1, hk.1.2.2.2.2.2.2.2.2⟩⟩⟩⟩⟩⟩⟩⟩)), (Kd.R_mono HO827.out (fun _ hk => ⟨hk.1.1, ⟨hk.1.2.1, hk.1.2.2⟩⟩)), (Kd.V_mono HO830.out (fun _ hk => ⟨hk.1.1, ⟨hk.1.2.1, ⟨hk.1.2.2.1, ⟨hk.1.2.2.2.1, ⟨hk.1.2.2.2.2.1, ⟨hk.1.2.2.2.2.2.1, ⟨hk.1.2.2.2.2.2.2.1, ⟨hk.1.2.2.2.2.2.2.2.1, hk.1.2.2.2.2.2.2.2.2⟩⟩⟩⟩⟩⟩⟩⟩)), (Kd.V_mono HO833.out (fun _ hk => ⟨hk.1.1, ⟨hk.1.2.1, ⟨hk.1.2.2.1, ⟨hk.1.2.2.2.1, ⟨hk.1.2.2.2.2.1, ⟨hk.1.2.2.2.2.2.1, ⟨hk.1.2.2.2.2.2.2.1, ⟨hk.1.2.2.2.2.2.2.2.1, hk.1.2.2.2.2.2.2.2.2⟩⟩⟩⟩⟩⟩⟩⟩)), BK808.out, BK809.out, BK823.out, BK824.out, BK835.out, (by repeat (first | (with_reducible first | exact HB.out | apply below_alloc | apply pw_below_drewN | apply below_drew1 | refine below_set ?_ GE808.out | refine below_set ?_ GE809.out | refine below_set ?_ GE823.out | refine below_set ?_ GE824.out | refine below_set ?_ GE835.out) | exact HB.out)), fun _ => (Kd.R_mono HO838.out (fun _ hk => ⟨hk.1.1.1.2, ⟨hk.1.1.2, ⟨hk.1.2, hk.2⟩⟩⟩)), ab0 (hoff 5 (by kernel_rfl)), ab0 (hoff 11 (by kernel_rfl)), ab0 (hoff 12 (by kernel_rfl)), ab0 (hoff 21 (by kernel_rfl)), ab0 (hoff 22 (by kernel_rfl)), ab0 (hoff 23 (by kernel_rfl)), ab0 (hoff 24 (by kernel_rfl)), ab0 (hoff 25 (by kernel_rfl)), ab0 (hoff 26 (by kernel_rfl)), ab0 (hoff 27 (by kernel_rfl)), ab0 (hoff 5 (by kernel_rfl)), ab0 (hoff 12 (by kernel_rfl)), ab0 (hoff 22 (by kernel_rfl)), ab0 (hoff 24 (by kernel_rfl)), ab0 (hoff 25 (by kernel_rfl)), ab0 (hoff 27 (by kernel_rfl))⟩
  refine steps_cons ?_ ?_
  ·intro b a w' hx0_ hb_ hon hoff
   refine ex8_ hx0_ fun v837 v840 v844 v847 v851 v854 v857 v860 hx1_ => ex8_ hx1_ fun v863 v866 v869 m5_ m12_ m22_ m24_ m25_ hx2_ => ex1_ hx2_ fun m27_ hx3_ => and8A hx3_ fun ha HO791 HO794 HO797 HO800 HO803 HO806 hy1_ => and8A hy1_ fun HO812 HO815 HO818 HO821 HO827 HO830 HO833 hy2_ => and7A hy2_ fun BK808 BK809 BK823 BK824 BK835 HB hy3_ => and8 hy3_ fun Q_HO838 Q_HO841 Q_HO845 Q_HO848 Q_HO852 Q_HO855 Q_HO858 hy4_ => and8 hy4_ fun Q_HO861 Q_HO864 Q_HO867 Q_HO870 Q_X5_ Q_X12_ Q_X22_ hy5_ => ?_
   have Q_X24_ := hy5_.1; have Q_X25_ := hy5_.2.1; have Q_X27_ := hy5_.2.2; clear hx0_ hx1_ hx2_ hx3_ hy1_ hy2_ hy3_ hy4_ hy5_
   refine ⟨_, rfl, fun K hK => ?_⟩
   have e36 : a.tmps[36]? = some (v837) := by rw [ha.out]; exact putSel_on (e := (4, 36, v837)) 3 rfl rfl (hon 4 (by kernel_rfl)) rfl
   have e34 : a.tmps[34]? = some (.bool (t807 == 0)) := by rw [ha.out]; exact putSel_on (e := (2, 34, .bool (t807 == 0))) 1 rfl rfl (hon 2 (by kernel_rfl)) rfl
   have HO838 := Aside0.mk (Q_HO838 (hon 4 (by kernel_rfl)))
   obtain ⟨Ao77, co77, eo77⟩ := Kd.R_slice HO838.out
   (first | subst eo77 | (injection eo77 with f1_ f2_ f3_; have f4_ := f1_.symm; have f5_ := f3_.symm; clear f1_ f2_ f3_; subst f4_; subst f5_))
   refine goes_ Try.func14 (by kernel_rfl) rfl #[.slice Ao77 y836.length co77] (wanted_on rfl rfl rfl (e34.trans (by first | rfl | (simp [*]; done)))) rfl rfl (by first | (simp only [List.map_toArray, List.map_cons, List.map_nil, Act.eval, Array.getD_eq_getD_getElem?, Option.getD_some, e36, e34]; done) | (simp only [List.map_toArray, List.map_cons, List.map_nil, Act.eval, Array.getD_eq_getD_getElem?, Option.getD_some, e36, e34]; rfl)) ?_
   with_reducible refine (nat_Of.calls k _ _ y836 t839 _ ?side1 ?side2 A9.out).mono ?_
   (case side1 => exact cr HO838.out)
   (case side2 => exact (Kd.R_reads' HO838.out).2.1)
   rintro e w78 ⟨v840, rfl, ho0, hb⟩
   refine ⟨_, rfl, ?_⟩
   have n0_ := Aside0.mk (rb HO791.out hb)
   have n1_ := Aside0.mk (vb HO794.out hb)
   have n2_ := Aside0.mk (rb HO797.out hb)
   have n3_ := Aside0.mk (vb HO800.out hb)
   have n4_ := Aside0.mk (vb HO803.out hb)
   have n5_ := Aside0.mk (vb HO806.out hb)
   have n6_ := Aside0.mk (rb HO812.out hb)
   have n7_ := Aside0.mk (vb HO815.out hb)
   have n8_ := Aside0.mk (vb HO818.out hb)
   have n9_ := Aside0.mk (vb HO821.out hb)
   have n10_ := Aside0.mk (rb HO827.out hb)
   have n11_ := Aside0.mk (vb HO830.out hb)
   have n12_ := Aside0.mk (vb HO833.out hb)
   have n13_ := Aside0.mk (rb HO838.out hb)
   have n14_ := Aside0.mk (Kd.V_lower (Kd.V_mono (ok' := fun k_ => OB Ao26 y789 co26 k_ ∧ OB Ao30 y795 co30 k_ ∧ OB Ao44 y810 co44 k_ ∧ OB Ao61 y825 co61 k_ ∧ OB Ao77 y836 co77 k_ ∧ k_ ≠ gb808 ∧ k_ ≠ gb809 ∧ k_ ≠ gb823 ∧ k_ ≠ gb824 ∧ k_ ≠ gb835) ho0 (fun k_ hk_ => ⟨(Kd.fresh' (Kd.R_lt HO791.out) k_ hk_), (Kd.fresh' (Kd.R_lt HO797.out) k_ hk_), (Kd.fresh' (Kd.R_lt HO812.out) k_ hk_), (Kd.fresh' (Kd.R_lt HO827.out) k_ hk_), (Kd.fresh' (Kd.R_lt HO838.out) k_ hk_), (fb BK808.out k_ hk_), (fb BK809.out k_ hk_), (fb BK823.out k_ hk_), (fb BK824.out k_ hk_), (fb BK835.out k_ hk_)⟩)) (bz HB.out))
   have n15_ := Aside0.mk (bb BK808.out hb)
   have n16_ := Aside0.mk (bb BK809.out hb)
   have n17_ := Aside0.mk (bb BK823.out hb)
   have n18_ := Aside0.mk (bb BK824.out hb)
   have n19_ := Aside0.mk (bb BK835.out hb)
   have n20_ := Aside0.mk (bs HB.out hb)
   clear HO791
   clear HO794
   clear HO797
   clear HO800
   clear HO803
   clear HO806
   clear HO812
   clear HO815
   clear HO818
   clear HO821
   clear HO827
   clear HO830
   clear HO833
   clear HO838
   clear BK808
   clear BK809
   clear BK823
   clear BK824
   clear BK835
   clear HB
   have HO791 := n0_
   have HO794 := n1_
   have HO797 := n2_
   have HO800 := n3_
   have HO803 := n4_
   have HO806 := n5_
   have HO812 := n6_
   have HO815 := n7_
   have HO818 := n8_
   have HO821 := n9_
   have HO827 := n10_
   have HO830 := n11_
   have HO833 := n12_
   have HO838 := n13_
   have HO841 := n14_
   have BK808 := n15_
   have BK809 := n16_
   have BK823 := n17_
   have BK824 := n18_
   have BK835 := n19_
   have HB := n20_
   clear n0_ n1_ n2_ n3_ n4_ n5_ n6_ n7_ n8_ n9_ n10_ n11_ n12_ n13_ n14_ n15_ n16_ n17_ n18_ n19_ n20_
   (try clear hb)
   (try clear hb2)
   (try clear hk)
   (try clear hi)
   (try clear ho0)
   refine hK.out _ _ ⟨.slice Ao77 y836.length co77, v840, v844, v847, v851, v854, v857, v860, v863, v866, v869, (.agg #[v840]), m12_, m22_, m24_, m25_, m27_, (by rw [ha.out]; exact putSel_upk 4 hb_ rfl rfl rfl), HO791.out, HO794.out, HO797.out, HO800.out, HO803.out, HO806.out, HO812.out, HO815.out, HO818.out, HO821.out, HO827.out, HO830.out, HO833.out, BK808.out, BK809.out, BK823.out, BK824.out, BK835.out, (by repeat (first | (with_reducible first | exact HB.out | apply below_alloc | apply pw_below_drewN | apply below_drew1 | refine below_set ?_ GE808.out | refine below_set ?_ GE809.out | refine below_set ?_ GE823.out | refine below_set ?_ GE824.out | refine below_set ?_ GE835.out) | exact HB.out)), fun _ => HO838.out, fun _ => (Kd.V_mono HO841.out (fun _ hk => ⟨hk.1, ⟨hk.2.1, ⟨hk.2.2.1, ⟨hk.2.2.2.1, ⟨hk.2.2.2.2.2.1, ⟨hk.2.2.2.2.2.2.1, ⟨hk.2.2.2.2.2.2.2.1, ⟨hk.2.2.2.2.2.2.2.2.1, hk.2.2.2.2.2.2.2.2.2⟩⟩⟩⟩⟩⟩⟩⟩)), ab0 (hoff 11 (by kernel_rfl)), ab0 (hoff 12 (by kernel_rfl)), ab0 (hoff 21 (by kernel_rfl)), ab0 (hoff 22 (by kernel_rfl)), ab0 (hoff 23 (by kernel_rfl)), ab0 (hoff 24 (by kernel_rfl)), ab0 (hoff 25 (by kernel_rfl)), ab0 (hoff 26 (by kernel_rfl)), ab0 (hoff 27 (by kernel_rfl)), fun _ => rfl, ab0 (hoff 12 (by kernel_rfl)), ab0 (hoff 22 (by kernel_rfl)), ab0 (hoff 24 (by kernel_rfl)), ab0 (hoff 25 (by kernel_rfl)), ab0 (hoff 27 (by kernel_rfl))⟩
  refine steps_cons ?_ ?_
  ·intro b a w' hx0_ hb_ hon hoff
   refine ex8_ hx0_ fun v837 v840 v844 v847 v851 v854 v857 v860 hx1_ => ex8_ hx1_ fun v863 v866 v869 m5_ m12_ m22_ m24_ m25_ hx2_ => ex1_ hx2_ fun m27_ hx3_ => and8A hx3_ fun ha HO791 HO794 HO797 HO800 HO803 HO806 hy1_ => and8A hy1_ fun HO812 HO815 HO818 HO821 HO827 HO830 HO833 hy2_ => and7A hy2_ fun BK808 BK809 BK823 BK824 BK835 HB hy3_ => and8 hy3_ fun Q_HO838 Q_HO841 Q_HO845 Q_HO848 Q_HO852 Q_HO855 Q_HO858 hy4_ => and8 hy4_ fun Q_HO861 Q_HO864 Q_HO867 Q_HO870 Q_X5_ Q_X12_ Q_X22_ hy5_ => ?_
   have Q_X24_ := hy5_.1; have Q_X25_ := hy5_.2.1; have Q_X27_ := hy5_.2.2; clear hx0_ hx1_ hx2_ hx3_ hy1_ hy2_ hy3_ hy4_ hy5_
   refine ⟨_, rfl, fun K hK => ?_⟩
   have e35 : a.tmps[35]? = some (.agg #[.slice Ao37 t801.length co37]) := by rw [ha.out]; exact putSel_on (e := (3, 35, .agg #[.slice Ao37 t801.length co37])) 2 rfl rfl (hon 3 (by kernel_rfl)) rfl
   have e37 : a.tmps[37]? = some (m5_) := by rw [ha.out]; exact putSel_on (e := (5, 37, m5_)) 4 rfl rfl (hon 5 (by kernel_rfl)) rfl
   rw [Q_X5_ (hon 5 (by kernel_rfl))] at e37
   have e34 : a.tmps[34]? = some (.bool (t807 == 0)) := by rw [ha.out]; exact putSel_on (e := (2, 34, .bool (t807 == 0))) 1 rfl rfl (hon 2 (by kernel_rfl)) rfl
   have HO838 := Aside0.mk (Q_HO838 (hon 4 (by kernel_rfl)))
   have HO841 := Aside0.mk (Q_HO841 (hon 5 (by kernel_rfl)))
   obtain ⟨Ao79, co79, eo79⟩ := Kd.V_slice HO841.out
   (first | subst eo79 | (injection eo79 with f1_ f2_ f3_; have f4_ := f1_.symm; have f5_ := f3_.symm; clear f1_ f2_ f3_; subst f4_; subst f5_))
   refine goes_ Try.func21 (by kernel_rfl) rfl #[.agg #[.slice Ao37 t801.length co37], .agg #[.slice Ao79 t839.length co79]] (wanted_on rfl rfl rfl (e34.trans (by first | rfl | (simp [*]; done)))) rfl rfl (by first | (simp only [List.map_toArray, List.map_cons, List.map_nil, Act.eval, Array.getD_eq_getD_getElem?, Option.getD_some, e35, e37, e34]; done) | (simp only [List.map_toArray, List.map_cons, List.map_nil, Act.eval, Array.getD_eq_getD_getElem?, Option.getD_some, e35, e37, e34]; rfl)) ?_
   with_reducible refine (nat_Nat_Cmp.calls k _ _ t801 _ _ t839 t842 _ ?side1 ?side2 ?side3 ?side4 A10.out).mono ?_
   (case side1 => exact cv HO803.out)
   (case side2 => exact (Kd.V_reads' HO803.out).2.1)
   (case side3 => exact cv HO841.out)
   (case side4 => exact (Kd.V_reads' HO841.out).2.1)
   rintro e w80 ⟨rfl, hb⟩
   refine ⟨_, rfl, ?_⟩
   replace HO791 := Aside0.mk (rb HO791.out hb)
   replace HO794 := Aside0.mk (vb HO794.out hb)
   replace HO797 := Aside0.mk (rb HO797.out hb)
   replace HO800 := Aside0.mk (vb HO800.out hb)
   replace HO803 := Aside0.mk (vb HO803.out hb)
   replace HO806 := Aside0.mk (vb HO806.out hb)
   replace HO812 := Aside0.mk (rb HO812.out hb)
   replace HO815 := Aside0.mk (vb HO815.out hb)
   replace HO818 := Aside0.mk (vb HO818.out hb)
   replace HO821 := Aside0.mk (vb HO821.out hb)
   replace HO827 := Aside0.mk (rb HO827.out hb)
   replace HO830 := Aside0.mk (vb HO830.out hb)
   replace HO833 := Aside0.mk (vb HO833.out hb)
   replace HO838 := Aside0.mk (rb HO838.out hb)
   replace HO841 := Aside0.mk (vb HO841.out hb)
   replace BK808 := Aside0.mk (bb BK808.out hb)
   replace BK809 := Aside0.mk (bb BK809.out hb)
   replace BK823 := Aside0.mk (bb BK823.out hb)
   replace BK824 := Aside0.mk (bb BK824.out hb)
   replace BK835 := Aside0.mk (bb BK835.out hb)
   replace HB := Aside0.mk (bs HB.out hb)
   (try clear hb)
   (try clear hb2)
   (try clear hk)
   (try clear hi)
   refine hK.out _ _ ⟨v837, .slice Ao79 t839.length co79, v844, v847, v851, v854, v857, v860, v863, v866, v869, m5_, m12_, m22_, m24_, m25_, m27_, (by rw [ha.out]; exact putSel_upk 5 hb_ rfl rfl rfl), HO791.out, HO794.out, HO797.out, HO800.out, HO803.out, HO806.out, HO812.out, HO815.out, HO818.out, HO821.out, HO827.out, HO830.out, HO833.out, BK808.out, BK809.out, BK823.out, BK824.out, BK835.out, (by repeat (first | (with_reducible first | exact HB.out | apply below_alloc | apply pw_below_drewN | apply below_drew1 | refine below_set ?_ GE808.out | refine below_set ?_ GE809.out | refine below_set ?_ GE823.out | refine below_set ?_ GE824.out | refine below_set ?_ GE835.out) | exact HB.out)), fun _ => HO838.out, fun _ => HO841.out, ab0 (hoff 11 (by kernel_rfl)), ab0 (hoff 12 (by kernel_rfl)), ab0 (hoff 21 (by kernel_rfl)), ab0 (hoff 22 (by kernel_rfl)), ab0 (hoff 23 (by kernel_rfl)), ab0 (hoff 24 (by kernel_rfl)), ab0 (hoff 25 (by kernel_rfl)), ab0 (hoff 26 (by kernel_rfl)), ab0 (hoff 27 (by kernel_rfl)), Q_X5_, ab0 (hoff 12 (by kernel_rfl)), ab0 (hoff 22 (by kernel_rfl)), ab0 (hoff 24 (by kernel_rfl)), ab0 (hoff 25 (by kernel_rfl)), ab0 (hoff 27 (by kernel_rfl))⟩
  refine steps_cons ?_ ?_
  ·intro b a w' hx0_ hb_ hon hoff
   refine ex8_ hx0_ fun v837 v840 v844 v847 v851 v854 v857 v860 hx1_ => ex8_ hx1_ fun v863 v866 v869 m5_ m12_ m22_ m24_ m25_ hx2_ => ex1_ hx2_ fun m27_ hx3_ => and8A hx3_ fun ha HO791 HO794 HO797 HO800 HO803 HO806 hy1_ => and8A hy1_ fun HO812 HO815 HO818 HO821 HO827 HO830 HO833 hy2_ => and7A hy2_ fun BK808 BK809 BK823 BK824 BK835 HB hy3_ => and8 hy3_ fun Q_HO838 Q_HO841 Q_HO845 Q_HO848 Q_HO852 Q_HO855 Q_HO858 hy4_ => and8 hy4_ fun Q_HO861 Q_HO864 Q_HO867 Q_HO870 Q_X5_ Q_X12_ Q_X22_ hy5_ => ?_
   have Q_X24_ := hy5_.1; have Q_X25_ := hy5_.2.1; have Q_X27_ := hy5_.2.2; clear hx0_ hx1_ hx2_ hx3_ hy1_ hy2_ hy3_ hy4_ hy5_
   refine ⟨_, rfl, fun K hK => ?_⟩
   have e38 : a.tmps[38]? = some (.int .i64 t842) := by rw [ha.out]; exact putSel_on (e := (6, 38, .int .i64 t842)) 5 rfl rfl (hon 6 (by kernel_rfl)) rfl
   have e34 : a.tmps[34]? = some (.bool (t807 == 0)) := by rw [ha.out]; exact putSel_on (e := (2, 34, .bool (t807 == 0))) 1 rfl rfl (hon 2 (by kernel_rfl)) rfl
   have HO838 := Aside0.mk (Q_HO838 (hon 4 (by kernel_rfl)))
   have HO841 := Aside0.mk (Q_HO841 (hon 5 (by kernel_rfl)))
   refine value_ (w1 := w') (v := .bool (t842 == 0)) (wanted_on rfl rfl rfl (e34.trans (by first | rfl | (simp [*]; done)))) rfl ?_ ?_
   ·go_simp
    (try simp only [i64_w])
    try rfl
   refine hK.out _ _ ⟨v837, v840, v844, v847, v851, v854, v857, v860, v863, v866, v869, m5_, m12_, m22_, m24_, m25_, m27_, (by rw [ha.out]; exact putSel_upk 6 hb_ rfl rfl rfl), HO791.out, HO794.out, HO797.out, HO800.out, HO803.out, HO806.out, HO812.out, HO815.out, HO818.out, HO821.out, HO827.out, HO830.out, HO833.out, BK808.out, BK809.out, BK823.out, BK824.out, BK835.out, HB.out, Q_HO838, Q_HO841, ab0 (hoff 11 (by kernel_rfl)), ab0 (hoff 12 (by kernel_rfl)), ab0 (hoff 21 (by kernel_rfl)), ab0 (hoff 22 (by kernel_rfl)), ab0 (hoff 23 (by kernel_rfl)), ab0 (hoff 24 (by kernel_rfl)), ab0 (hoff 25 (by kernel_rfl)), ab0 (hoff 26 (by kernel_rfl)), ab0 (hoff 27 (by kernel_rfl)), Q_X5_, ab0 (hoff 12 (by kernel_rfl)), ab0 (hoff 22 (by kernel_rfl)), ab0 (hoff 24 (by kernel_rfl)), ab0 (hoff 25 (by kernel_rfl)), ab0 (hoff 27 (by kernel_rfl))⟩
  refine steps_cons ?_ ?_
  ·intro b a w' hx0_ hb_ hon hoff
   refine ex8_ hx0_ fun v837 v840 v844 v847 v851 v854 v857 v860 hx1_ => ex8_ hx1_ fun v863 v866 v869 m5_ m12_ m22_ m24_ m25_ hx2_ => ex1_ hx2_ fun m27_ hx3_ => and8A hx3_ fun ha HO791 HO794 HO797 HO800 HO803 HO806 hy1_ => and8A hy1_ fun HO812 HO815 HO818 HO821 HO827 HO830 HO833 hy2_ => and7A hy2_ fun BK808 BK809 BK823 BK824 BK835 HB hy3_ => and8 hy3_ fun Q_HO838 Q_HO841 Q_HO845 Q_HO848 Q_HO852 Q_HO855 Q_HO858 hy4_ => and8 hy4_ fun Q_HO861 Q_HO864 Q_HO867 Q_HO870 Q_X5_ Q_X12_ Q_X22_ hy5_ => ?_
   have Q_X24_ := hy5_.1; have Q_X25_ := hy5_.2.1; have Q_X27_ := hy5_.2.2; clear hx0_ hx1_ hx2_ hx3_ hy1_ hy2_ hy3_ hy4_ hy5_
   refine ⟨_, rfl, fun K hK => ?_⟩
   have e34 : a.tmps[34]? = some (.bool (t807 == 0)) := by rw [ha.out]; exact putSel_on (e := (2, 34, .bool (t807 == 0))) 1 rfl rfl (hon 2 (by kernel_rfl)) rfl
   have e39 : a.tmps[39]? = some (.bool (t842 == 0)) := by rw [ha.out]; exact putSel_on (e := (7, 39, .bool (t842 == 0))) 6 rfl rfl (hon 7 (by kernel_rfl)) rfl
   have HO838 := Aside0.mk (Q_HO838 (hon 4 (by kernel_rfl)))
   have HO841 := Aside0.mk (Q_HO841 (hon 5 (by kernel_rfl)))
   refine value_ (w1 := w') (v := .bool (t842 == 0)) (by rfl) rfl ?_ ?_
   ·go_simp
    (try simp only [i64_w])
    try rfl
   refine hK.out _ _ ⟨v837, v840, v844, v847, v851, v854, v857, v860, v863, v866, v869, m5_, m12_, m22_, m24_, m25_, m27_, (by rw [ha.out]; exact putSel_upk 7 hb_ rfl rfl rfl), HO791.out, HO794.out, HO797.out, HO800.out, HO803.out, HO806.out, HO812.out, HO815.out, HO818.out, HO821.out, HO827.out, HO830.out, HO833.out, BK808.out, BK809.out, BK823.out, BK824.out, BK835.out, HB.out, Q_HO838, Q_HO841, ab0 (hoff 11 (by kernel_rfl)), ab0 (hoff 12 (by kernel_rfl)), ab0 (hoff 21 (by kernel_rfl)), ab0 (hoff 22 (by kernel_rfl)), ab0 (hoff 23 (by kernel_rfl)), ab0 (hoff 24 (by kernel_rfl)), ab0 (hoff 25 (by kernel_rfl)), ab0 (hoff 26 (by kernel_rfl)), ab0 (hoff 27 (by kernel_rfl)), Q_X5_, ab0 (hoff 12 (by kernel_rfl)), ab0 (hoff 22 (by kernel_rfl)), ab0 (hoff 24 (by kernel_rfl)), ab0 (hoff 25 (by kernel_rfl)), ab0 (hoff 27 (by kernel_rfl))⟩
  refine steps_cons ?_ ?_
  ·intro b a w' hx0_ hb_ hon hoff
   refine ex8_ hx0_ fun v837 v840 v844 v847 v851 v854 v857 v860 hx1_ => ex8_ hx1_ fun v863 v866 v869 m5_ m12_ m22_ m24_ m25_ hx2_ => ex1_ hx2_ fun m27_ hx3_ => and8A hx3_ fun ha HO791 HO794 HO797 HO800 HO803 HO806 hy1_ => and8A hy1_ fun HO812 HO815 HO818 HO821 HO827 HO830 HO833 hy2_ => and7A hy2_ fun BK808 BK809 BK823 BK824 BK835 HB hy3_ => and8 hy3_ fun Q_HO838 Q_HO841 Q_HO845 Q_HO848 Q_HO852 Q_HO855 Q_HO858 hy4_ => and8 hy4_ fun Q_HO861 Q_HO864 Q_HO867 Q_HO870 Q_X5_ Q_X12_ Q_X22_ hy5_ => ?_
   have Q_X24_ := hy5_.1; have Q_X25_ := hy5_.2.1; have Q_X27_ := hy5_.2.2; clear hx0_ hx1_ hx2_ hx3_ hy1_ hy2_ hy3_ hy4_ hy5_
   refine ⟨_, rfl, fun K hK => ?_⟩
   have e40 : a.tmps[40]? = some (.bool (t842 == 0)) := by rw [ha.out]; exact putSel_on (e := (8, 40, .bool (t842 == 0))) 7 rfl rfl (hon 8 (by kernel_rfl)) rfl
   have HO838 := Aside0.mk (Q_HO838 (hon 4 (by kernel_rfl)))
   have HO841 := Aside0.mk (Q_HO841 (hon 5 (by kernel_rfl)))
   refine value_ (w1 := w') (v := .bool (t842 == 0)) (by rfl) rfl ?_ ?_
   ·go_simp
    (try simp only [i64_w])
    try rfl
   refine hK.out _ _ ⟨v837, v840, v844, v847, v851, v854, v857, v860, v863, v866, v869, m5_, m12_, m22_, m24_, m25_, m27_, (by rw [ha.out]; exact putSel_upk 8 hb_ rfl rfl rfl), HO791.out, HO794.out, HO797.out, HO800.out, HO803.out, HO806.out, HO812.out, HO815.out, HO818.out, HO821.out, HO827.out, HO830.out, HO833.out, BK808.out, BK809.out, BK823.out, BK824.out, BK835.out, HB.out, Q_HO838, Q_HO841, ab0 (hoff 11 (by kernel_rfl)), ab0 (hoff 12 (by kernel_rfl)), ab0 (hoff 21 (by kernel_rfl)), ab0 (hoff 22 (by kernel_rfl)), ab0 (hoff 23 (by kernel_rfl)), ab0 (hoff 24 (by kernel_rfl)), ab0 (hoff 25 (by kernel_rfl)), ab0 (hoff 26 (by kernel_rfl)), ab0 (hoff 27 (by kernel_rfl)), Q_X5_, ab0 (hoff 12 (by kernel_rfl)), ab0 (hoff 22 (by kernel_rfl)), ab0 (hoff 24 (by kernel_rfl)), ab0 (hoff 25 (by kernel_rfl)), ab0 (hoff 27 (by kernel_rfl))⟩
  refine steps_cons ?_ ?_
  ·intro b a w' hx0_ hb_ hon hoff
   refine ex8_ hx0_ fun v837 v840 v844 v847 v851 v854 v857 v860 hx1_ => ex8_ hx1_ fun v863 v866 v869 m5_ m12_ m22_ m24_ m25_ hx2_ => ex1_ hx2_ fun m27_ hx3_ => and8A hx3_ fun ha HO791 HO794 HO797 HO800 HO803 HO806 hy1_ => and8A hy1_ fun HO812 HO815 HO818 HO821 HO827 HO830 HO833 hy2_ => and7A hy2_ fun BK808 BK809 BK823 BK824 BK835 HB hy3_ => and8 hy3_ fun Q_HO838 Q_HO841 Q_HO845 Q_HO848 Q_HO852 Q_HO855 Q_HO858 hy4_ => and8 hy4_ fun Q_HO861 Q_HO864 Q_HO867 Q_HO870 Q_X5_ Q_X12_ Q_X22_ hy5_ => ?_
   have Q_X24_ := hy5_.1; have Q_X25_ := hy5_.2.1; have Q_X27_ := hy5_.2.2; clear hx0_ hx1_ hx2_ hx3_ hy1_ hy2_ hy3_ hy4_ hy5_
   refine ⟨_, rfl, fun K hK => ?_⟩
   have e2 : a.tmps[2]? = some (.pointer (some ⟨gb809, 0, none⟩)) := by rw [ha.out]; exact (putSel_off rfl).trans rfl
   have e41 : a.tmps[41]? = some (.bool (t842 == 0)) := by rw [ha.out]; exact putSel_on (e := (9, 41, .bool (t842 == 0))) 8 rfl rfl (hon 9 (by kernel_rfl)) rfl
   have HO838 := Aside0.mk (Q_HO838 (hon 4 (by kernel_rfl)))
   have HO841 := Aside0.mk (Q_HO841 (hon 5 (by kernel_rfl)))
   have hc0_ : w'.cell? ⟨gb809, 0, none⟩ = some (.slice Ao40 t804.length co40) := (blk_cell BK809.out 0).trans rfl
   refine value_ (w1 := w') (v := .agg #[.slice Ao40 t804.length co40]) (wanted_on rfl rfl rfl (e41.trans (by first | rfl | (simp [*]; done)))) rfl ?_ ?_
   ·go_simp
    (try simp only [i64_w])
    try rfl
   refine hK.out _ _ ⟨v837, v840, v844, v847, v851, v854, v857, v860, v863, v866, v869, m5_, m12_, m22_, m24_, m25_, m27_, (by rw [ha.out]; exact putSel_upk 9 hb_ rfl rfl rfl), HO791.out, HO794.out, HO797.out, HO800.out, HO803.out, HO806.out, HO812.out, HO815.out, HO818.out, HO821.out, HO827.out, HO830.out, HO833.out, BK808.out, BK809.out, BK823.out, BK824.out, BK835.out, HB.out, Q_HO838, Q_HO841, Q_HO845, Q_HO848, ab0 (hoff 21 (by kernel_rfl)), ab0 (hoff 22 (by kernel_rfl)), ab0 (hoff 23 (by kernel_rfl)), ab0 (hoff 24 (by kernel_rfl)), ab0 (hoff 25 (by kernel_rfl)), ab0 (hoff 26 (by kernel_rfl)), ab0 (hoff 27 (by kernel_rfl)), Q_X5_, Q_X12_, ab0 (hoff 22 (by kernel_rfl)), ab0 (hoff 24 (by kernel_rfl)), ab0 (hoff 25 (by kernel_rfl)), ab0 (hoff 27 (by kernel_rfl))⟩
  refine steps_cons ?_ ?_
  ·intro b a w' hx0_ hb_ hon hoff
   refine ex8_ hx0_ fun v837 v840 v844 v847 v851 v854 v857 v860 hx1_ => ex8_ hx1_ fun v863 v866 v869 m5_ m12_ m22_ m24_ m25_ hx2_ => ex1_ hx2_ fun m27_ hx3_ => and8A hx3_ fun ha HO791 HO794 HO797 HO800 HO803 HO806 hy1_ => and8A hy1_ fun HO812 HO815 HO818 HO821 HO827 HO830 HO833 hy2_ => and7A hy2_ fun BK808 BK809 BK823 BK824 BK835 HB hy3_ => and8 hy3_ fun Q_HO838 Q_HO841 Q_HO845 Q_HO848 Q_HO852 Q_HO855 Q_HO858 hy4_ => and8 hy4_ fun Q_HO861 Q_HO864 Q_HO867 Q_HO870 Q_X5_ Q_X12_ Q_X22_ hy5_ => ?_
   have Q_X24_ := hy5_.1; have Q_X25_ := hy5_.2.1; have Q_X27_ := hy5_.2.2; clear hx0_ hx1_ hx2_ hx3_ hy1_ hy2_ hy3_ hy4_ hy5_
   refine ⟨_, rfl, fun K hK => ?_⟩
   have e41 : a.tmps[41]? = some (.bool (t842 == 0)) := by rw [ha.out]; exact putSel_on (e := (9, 41, .bool (t842 == 0))) 8 rfl rfl (hon 9 (by kernel_rfl)) rfl
   have HO838 := Aside0.mk (Q_HO838 (hon 4 (by kernel_rfl)))
   have HO841 := Aside0.mk (Q_HO841 (hon 5 (by kernel_rfl)))
   refine Kd.R_lit_step (Kd.int .u64) _ 27 ?hg (N := 43) ?hd (xs := ([2] : List Int)) (inner := [.int .u64 2]) (ok := fun _ => True) (okp := fun _ => True) ?hr ?hp (fun _ hk => hk) trivial (Below.refl _ _) (Nat.le_refl _) (by simp) ?_; (case hd => rfl); (case hg => exact (wanted_on rfl rfl rfl (e41.trans (by first | rfl | (simp [*]; done))))); (case hr => first | (go_simp; done) | (go_simp; rfl)); (case hp => exact (Reps.one (show Kd.M (Kd.int .u64) _ _ _ 2 [.int .u64 2] from rfl) (Reps.none _ _)))
   intro v844 w81 ho82 hb hg_ hnew_
   clear hg_ hnew_
   (first | rw [← Ny843.out] at ho82 | (simp only [Int.reduceToNat] at ho82; rw [← Ny843.out] at ho82))
   have n0_ := Aside0.mk (Kd.R_elder' HO791.out (Kd.R_base ho82) hb)
   have n1_ := Aside0.mk (Kd.V_elder' HO794.out (Kd.R_base ho82) hb)
   have n2_ := Aside0.mk (Kd.R_elder' HO797.out (Kd.R_base ho82) hb)
   have n3_ := Aside0.mk (Kd.V_elder' HO800.out (Kd.R_base ho82) hb)
   have n4_ := Aside0.mk (Kd.V_elder' HO803.out (Kd.R_base ho82) hb)
   have n5_ := Aside0.mk (Kd.V_elder' HO806.out (Kd.R_base ho82) hb)
   have n6_ := Aside0.mk (Kd.R_elder' HO812.out (Kd.R_base ho82) hb)
   have n7_ := Aside0.mk (Kd.V_elder' HO815.out (Kd.R_base ho82) hb)
   have n8_ := Aside0.mk (Kd.V_elder' HO818.out (Kd.R_base ho82) hb)
   have n9_ := Aside0.mk (Kd.V_elder' HO821.out (Kd.R_base ho82) hb)
   have n10_ := Aside0.mk (Kd.R_elder' HO827.out (Kd.R_base ho82) hb)
   have n11_ := Aside0.mk (Kd.V_elder' HO830.out (Kd.R_base ho82) hb)
   have n12_ := Aside0.mk (Kd.V_elder' HO833.out (Kd.R_base ho82) hb)
   have n13_ := Aside0.mk (Kd.R_elder' HO838.out (Kd.R_base ho82) hb)
   have n14_ := Aside0.mk (Kd.V_elder' HO841.out (Kd.R_base ho82) hb)
   have n15_ := Aside0.mk (Kd.R_lower (Kd.R_new' (Kd.R_new' (Kd.R_new' (Kd.R_new' (Kd.R_new' ho82 (Kd.R_lt HO791.out)) (Kd.R_lt HO797.out)) (Kd.R_lt HO812.out)) (Kd.R_lt HO827.out)) (Kd.R_lt HO838.out)) (bz HB.out))
   have n16_ := Aside0.mk (bb BK808.out hb)
   have n17_ := Aside0.mk (bb BK809.out hb)
   have n18_ := Aside0.mk (bb BK823.out hb)
   have n19_ := Aside0.mk (bb BK824.out hb)
   have n20_ := Aside0.mk (bb BK835.out hb)
   have n21_ := Aside0.mk (bs HB.out hb)
   clear HO791
   clear HO794
   clear HO797
   clear HO800
   clear HO803
   clear HO806
   clear HO812
   clear HO815
   clear HO818
   clear HO821
   clear HO827
   clear HO830
   clear HO833
   clear HO838
   clear HO841
   clear BK808
   clear BK809
   clear BK823
   clear BK824
   clear BK835
   clear HB
   have HO791 := n0_
   have HO794 := n1_
   have HO797 := n2_
   have HO800 := n3_
   have HO803 := n4_
   have HO806 := n5_
   have HO812 := n6_
   have HO815 := n7_
   have HO818 := n8_
   have HO821 := n9_
   have HO827 := n10_
   have HO830 := n11_
   have HO833 := n12_
   have HO838 := n13_
   have HO841 := n14_
   have HO845 := n15_
   have BK808 := n16_
   have BK809 := n17_
   have BK823 := n18_
   have BK824 := n19_
   have BK835 := n20_
   have HB := n21_
   clear n0_ n1_ n2_ n3_ n4_ n5_ n6_ n7_ n8_ n9_ n10_ n11_ n12_ n13_ n14_ n15_ n16_ n17_ n18_ n19_ n20_ n21_
   clear hb ho82
   refine hK.out _ _ ⟨v837, v840, v844, v847, v851, v854, v857, v860, v863, v866, v869, m5_, m12_, m22_, m24_, m25_, m27_, (by rw [ha.out]; exact putSel_upk 10 hb_ rfl rfl rfl), (Kd.R_mono HO791.out (fun _ hk => ⟨hk.1.1, ⟨hk.1.2.1, hk.1.2.2⟩⟩)), (Kd.V_mono HO794.out (fun _ hk => ⟨hk.1.1, ⟨hk.1.2.1, ⟨hk.1.2.2.1, ⟨hk.1.2.2.2.1, ⟨hk.1.2.2.2.2.1, ⟨hk.1.2.2.2.2.2.1, ⟨hk.1.2.2.2.2.2.2.1, ⟨hk.1.2.2.2.2.2.2.2.1, hk.1.2.2.2.2.2.2.2.2⟩⟩⟩⟩⟩⟩⟩⟩)), (Kd.R_mono HO797.out (fun _ hk => ⟨hk.1.1, ⟨hk.1.2.1, hk.1.2.2⟩⟩)), (Kd.V_mono HO800.out (fun _ hk => ⟨hk.1.1, ⟨hk.1.2.1, ⟨hk.1.2.2.1, ⟨hk.1.2.2.2.1, ⟨hk.1.2.2.2.2.1, ⟨hk.1.2.2.2.2.2.1, ⟨hk.1.2.2.2.2.2.2.1, ⟨hk.1.2.2.2.2.2.2.2.1, hk.1.2.2.2.2.2.2.2.2⟩⟩⟩⟩⟩⟩⟩⟩)), (Kd.V_mono HO803.out (fun _ hk => ⟨hk.1.1, ⟨hk.1.2.1, ⟨hk.1.2.2.1, ⟨hk.1.2.2.2.1, ⟨hk.1.2.2.2.2.1, ⟨hk.1.2.2.2.2.2.1, ⟨hk.1.2.2.2.2.2.2.1, ⟨hk.1.2.2.2.2.2.2.2.1, hk.1.2.2.2.2.2.2.2.2⟩⟩⟩⟩⟩⟩⟩⟩)), (Kd.V_mono HO806.out (fun _ hk => ⟨hk.1.1, ⟨hk.1.2.1, ⟨hk.1.2.2.1, ⟨hk.1.2.2.2.1, ⟨hk.1.2.2.2.2.1, ⟨hk.1.2.2.2.2.2.1, ⟨hk.1.2.2.2.2.2.2.1, ⟨hk.1.2.2.2.2.2.2.2.1, hk.1.2.2.2.2.2.2.2.2⟩⟩⟩⟩⟩⟩⟩⟩)), (Kd.R_mono HO812.out (fun _ hk => ⟨hk.1.1, ⟨hk.1.2.1, hk.1.2.2⟩⟩)), (Kd.V_mono HO815.out (fun _ hk => ⟨hk.1.1, ⟨hk.1.2.1, ⟨hk.1.2.2.1, ⟨hk.1.2.2.2.1, ⟨hk.1.2.2.2.2.1, ⟨hk.1.2.2.2.2.2.1, ⟨hk.1.2.2.2.2.2.2.1, ⟨hk.1.2.2.2.2.2.2.2.1, hk.1.2.2.2.2.2.2.2.2⟩⟩⟩⟩⟩⟩⟩⟩)), (Kd.V_mono HO818.out (fun _ hk => ⟨hk.1.1, ⟨hk.1.2.1, ⟨hk.1.2.2.1, ⟨hk.1.2.2.2.1, ⟨hk.1.2.2.2.2.1, ⟨hk.1.2.2.2.2.2.1, ⟨hk.1.2.2.2.2.2.2.1, ⟨hk.1.2.2.2.2.2.2.2.1, hk.1.2.2.2.2.2.2.2.2⟩⟩⟩⟩⟩⟩⟩⟩)), (Kd.V_mono HO821.out (fun _ hk => ⟨hk.1.1, ⟨hk.1.2.1, ⟨hk.1.2.2.1, ⟨hk.1.2.2.2.1, ⟨hk.1.2.2.2.2.1, ⟨hk.1.2.2.2.2.2.1, ⟨hk.1.2.2.2.2.2.2.1, ⟨hk.1.2.2.2.2.2.2.2.1, hk.1.2.2.2.2.2.2.2.2⟩⟩⟩⟩⟩⟩⟩⟩)), (Kd.R_mono HO827.out (fun _ hk => ⟨hk.1.1, ⟨hk.1.2.1, hk.1.2.2⟩⟩)), (Kd.V_mono HO830.out (fun _ hk => ⟨hk.1.1, ⟨hk.1.2.1, ⟨hk.1.2.2.1, ⟨hk.1.2.2.2.1, ⟨hk.1.2.2.2.2.1, ⟨hk.1.2.2.2.2.2.1, ⟨hk.1.2.2.2.2.2.2.1, ⟨hk.1.2.2.2.2.2.2.2.1, hk.1.2.2.2.2.2.2.2.2⟩⟩⟩⟩⟩⟩⟩⟩)), (Kd.V_mono HO833.out (fun _ hk => ⟨hk.1.1, ⟨hk.1.2.1, ⟨hk.1.2.2.1, ⟨hk.1.2.2.2.1, ⟨hk.1.2.2.2.2.1, ⟨hk.1.2.2.2.2.2.1, ⟨hk.1.2.2.2.2.2.2.1, ⟨hk.1.2.2.2.2.2.2.2.1, hk.1.2.2.2.2.2.2.2.2⟩⟩⟩⟩⟩⟩⟩⟩)), BK808.out, BK809.out, BK823.out, BK824.out, BK835.out, (by repeat (first | (with_reducible first | exact HB.out | apply below_alloc | apply pw_below_drewN | apply below_drew1 | refine below_set ?_ GE808.out | refine below_set ?_ GE809.out | refine below_set ?_ GE823.out | refine below_set ?_ GE824.out | refine below_set ?_ GE835.out) | exact HB.out)), fun _ => (Kd.R_mono HO838.out (fun _ hk => ⟨hk.1.1, ⟨hk.1.2.1, ⟨hk.1.2.2.1, hk.1.2.2.2⟩⟩⟩)), fun _ => (Kd.V_mono HO841.out (fun _ hk => ⟨hk.1.1, ⟨hk.1.2.1, ⟨hk.1.2.2.1, ⟨hk.1.2.2.2.1, ⟨hk.1.2.2.2.2.1, ⟨hk.1.2.2.2.2.2.1, ⟨hk.1.2.2.2.2.2.2.1, ⟨hk.1.2.2.2.2.2.2.2.1, hk.1.2.2.2.2.2.2.2.2⟩⟩⟩⟩⟩⟩⟩⟩)), fun _ => (Kd.R_mono HO845.out (fun _ hk => ⟨hk.1.1.1.1.2, ⟨hk.1.1.1.2, ⟨hk.1.1.2, hk.1.2⟩⟩⟩)), ab0 (hoff 12 (by kernel_rfl)), ab0 (hoff 21 (by kernel_rfl)), ab0 (hoff 22 (by kernel_rfl)), ab0 (hoff 23 (by kernel_rfl)), ab0 (hoff 24 (by kernel_rfl)), ab0 (hoff 25 (by kernel_rfl)), ab0 (hoff 26 (by kernel_rfl)), ab0 (hoff 27 (by kernel_rfl)), Q_X5_, ab0 (hoff 12 (by kernel_rfl)), ab0 (hoff 22 (by kernel_rfl)), ab0 (hoff 24 (by kernel_rfl)), ab0 (hoff 25 (by kernel_rfl)), ab0 (hoff 27 (by kernel_rfl))⟩
  refine steps_cons ?_ ?_
  ·intro b a w' hx0_ hb_ hon hoff
   refine ex8_ hx0_ fun v837 v840 v844 v847 v851 v854 v857 v860 hx1_ => ex8_ hx1_ fun v863 v866 v869 m5_ m12_ m22_ m24_ m25_ hx2_ => ex1_ hx2_ fun m27_ hx3_ => and8A hx3_ fun ha HO791 HO794 HO797 HO800 HO803 HO806 hy1_ => and8A hy1_ fun HO812 HO815 HO818 HO821 HO827 HO830 HO833 hy2_ => and7A hy2_ fun BK808 BK809 BK823 BK824 BK835 HB hy3_ => and8 hy3_ fun Q_HO838 Q_HO841 Q_HO845 Q_HO848 Q_HO852 Q_HO855 Q_HO858 hy4_ => and8 hy4_ fun Q_HO861 Q_HO864 Q_HO867 Q_HO870 Q_X5_ Q_X12_ Q_X22_ hy5_ => ?_
   have Q_X24_ := hy5_.1; have Q_X25_ := hy5_.2.1; have Q_X27_ := hy5_.2.2; clear hx0_ hx1_ hx2_ hx3_ hy1_ hy2_ hy3_ hy4_ hy5_
   refine ⟨_, rfl, fun K hK => ?_⟩
   have e43 : a.tmps[43]? = some (v844) := by rw [ha.out]; exact putSel_on (e := (11, 43, v844)) 10 rfl rfl (hon 11 (by kernel_rfl)) rfl
   have e41 : a.tmps[41]? = some (.bool (t842 == 0)) := by rw [ha.out]; exact putSel_on (e := (9, 41, .bool (t842 == 0))) 8 rfl rfl (hon 9 (by kernel_rfl)) rfl
   have HO838 := Aside0.mk (Q_HO838 (hon 4 (by kernel_rfl)))
   have HO841 := Aside0.mk (Q_HO841 (hon 5 (by kernel_rfl)))
   have HO845 := Aside0.mk (Q_HO845 (hon 11 (by kernel_rfl)))
   obtain ⟨Ao83, co83, eo83⟩ := Kd.R_slice HO845.out
   (first | subst eo83 | (injection eo83 with f1_ f2_ f3_; have f4_ := f1_.symm; have f5_ := f3_.symm; clear f1_ f2_ f3_; subst f4_; subst f5_))
   refine goes_ Try.func14 (by kernel_rfl) rfl #[.slice Ao83 y843.length co83] (wanted_on rfl rfl rfl (e41.trans (by first | rfl | (simp [*]; done)))) rfl rfl (by first | (simp only [List.map_toArray, List.map_cons, List.map_nil, Act.eval, Array.getD_eq_getD_getElem?, Option.getD_some, e43, e41]; done) | (simp only [List.map_toArray, List.map_cons, List.map_nil, Act.eval, Array.getD_eq_getD_getElem?, Option.getD_some, e43, e41]; rfl)) ?_
   with_reducible refine (nat_Of.calls k _ _ y843 t846 _ ?side1 ?side2 A12.out).mono ?_
   (case side1 => exact cr HO845.out)
   (case side2 => exact (Kd.R_reads' HO845.out).2.1)
   rintro e w84 ⟨v847, rfl, ho0, hb⟩
   refine ⟨_, rfl, ?_⟩
   have n0_ := Aside0.mk (rb HO791.out hb)
   have n1_ := Aside0.mk (vb HO794.out hb)
   have n2_ := Aside0.mk (rb HO797.out hb)
   have n3_ := Aside0.mk (vb HO800.out hb)
   have n4_ := Aside0.mk (vb HO803.out hb)
   have n5_ := Aside0.mk (vb HO806.out hb)
   have n6_ := Aside0.mk (rb HO812.out hb)
   have n7_ := Aside0.mk (vb HO815.out hb)
   have n8_ := Aside0.mk (vb HO818.out hb)
   have n9_ := Aside0.mk (vb HO821.out hb)
   have n10_ := Aside0.mk (rb HO827.out hb)
   have n11_ := Aside0.mk (vb HO830.out hb)
   have n12_ := Aside0.mk (vb HO833.out hb)
   have n13_ := Aside0.mk (rb HO838.out hb)
   have n14_ := Aside0.mk (vb HO841.out hb)
   have n15_ := Aside0.mk (rb HO845.out hb)
   have n16_ := Aside0.mk (Kd.V_lower (Kd.V_mono (ok' := fun k_ => OB Ao26 y789 co26 k_ ∧ OB Ao30 y795 co30 k_ ∧ OB Ao44 y810 co44 k_ ∧ OB Ao61 y825 co61 k_ ∧ some k_ ≠ (v837 : Value).ownBlock ∧ OB Ao83 y843 co83 k_ ∧ k_ ≠ gb808 ∧ k_ ≠ gb809 ∧ k_ ≠ gb823 ∧ k_ ≠ gb824 ∧ k_ ≠ gb835) ho0 (fun k_ hk_ => ⟨(Kd.fresh' (Kd.R_lt HO791.out) k_ hk_), (Kd.fresh' (Kd.R_lt HO797.out) k_ hk_), (Kd.fresh' (Kd.R_lt HO812.out) k_ hk_), (Kd.fresh' (Kd.R_lt HO827.out) k_ hk_), (Kd.fresh' (Kd.R_lt HO838.out) k_ hk_), (Kd.fresh' (Kd.R_lt HO845.out) k_ hk_), (fb BK808.out k_ hk_), (fb BK809.out k_ hk_), (fb BK823.out k_ hk_), (fb BK824.out k_ hk_), (fb BK835.out k_ hk_)⟩)) (bz HB.out))
   have n17_ := Aside0.mk (bb BK808.out hb)
   have n18_ := Aside0.mk (bb BK809.out hb)
   have n19_ := Aside0.mk (bb BK823.out hb)
   have n20_ := Aside0.mk (bb BK824.out hb)
   have n21_ := Aside0.mk (bb BK835.out hb)
   have n22_ := Aside0.mk (bs HB.out hb)
   clear HO791
   clear HO794
   clear HO797
   clear HO800
   clear HO803
   clear HO806
   clear HO812
   clear HO815
   clear HO818
   clear HO821
   clear HO827
   clear HO830
   clear HO833
   clear HO838
   clear HO841
   clear HO845
   clear BK808
   clear BK809
   clear BK823
   clear BK824
   clear BK835
   clear HB
   have HO791 := n0_
   have HO794 := n1_
   have HO797 := n2_
   have HO800 := n3_
   have HO803 := n4_
   have HO806 := n5_
   have HO812 := n6_
   have HO815 := n7_
   have HO818 := n8_
   have HO821 := n9_
   have HO827 := n10_
   have HO830 := n11_
   have HO833 := n12_
   have HO838 := n13_
   have HO841 := n14_
   have HO845 := n15_
   have HO848 := n16_
   have BK808 := n17_
   have BK809 := n18_
   have BK823 := n19_
   have BK824 := n20_
   have BK835 := n21_
   have HB := n22_
   clear n0_ n1_ n2_ n3_ n4_ n5_ n6_ n7_ n8_ n9_ n10_ n11_ n12_ n13_ n14_ n15_ n16_ n17_ n18_ n19_ n20_ n21_ n22_
   (try clear hb)
   (try clear hb2)
   (try clear hk)
   (try clear hi)
   (try clear ho0)
   refine hK.out _ _ ⟨v837, v840, .slice Ao83 y843.length co83, v847, v851, v854, v857, v860, v863, v866, v869, m5_, (.agg #[v847]), m22_, m24_, m25_, m27_, (by rw [ha.out]; exact putSel_upk 11 hb_ rfl rfl rfl), HO791.out, HO794.out, HO797.out, HO800.out, HO803.out, HO806.out, HO812.out, HO815.out, HO818.out, HO821.out, HO827.out, HO830.out, HO833.out, BK808.out, BK809.out, BK823.out, BK824.out, BK835.out, (by repeat (first | (with_reducible first | exact HB.out | apply below_alloc | apply pw_below_drewN | apply below_drew1 | refine below_set ?_ GE808.out | refine below_set ?_ GE809.out | refine below_set ?_ GE823.out | refine below_set ?_ GE824.out | refine below_set ?_ GE835.out) | exact HB.out)), fun _ => HO838.out, fun _ => HO841.out, fun _ => HO845.out, fun _ => (Kd.V_mono HO848.out (fun _ hk => ⟨hk.1, ⟨hk.2.1, ⟨hk.2.2.1, ⟨hk.2.2.2.1, ⟨hk.2.2.2.2.2.2.1, ⟨hk.2.2.2.2.2.2.2.1, ⟨hk.2.2.2.2.2.2.2.2.1, ⟨hk.2.2.2.2.2.2.2.2.2.1, hk.2.2.2.2.2.2.2.2.2.2⟩⟩⟩⟩⟩⟩⟩⟩)), ab0 (hoff 21 (by kernel_rfl)), ab0 (hoff 22 (by kernel_rfl)), ab0 (hoff 23 (by kernel_rfl)), ab0 (hoff 24 (by kernel_rfl)), ab0 (hoff 25 (by kernel_rfl)), ab0 (hoff 26 (by kernel_rfl)), ab0 (hoff 27 (by kernel_rfl)), Q_X5_, fun _ => rfl, ab0 (hoff 22 (by kernel_rfl)), ab0 (hoff 24 (by kernel_rfl)), ab0 (hoff 25 (by kernel_rfl)), ab0 (hoff 27 (by kernel_rfl))⟩
  refine steps_cons ?_ ?_
  ·intro b a w' hx0_ hb_ hon hoff
   refine ex8_ hx0_ fun v837 v840 v844 v847 v851 v854 v857 v860 hx1_ => ex8_ hx1_ fun v863 v866 v869 m5_ m12_ m22_ m24_ m25_ hx2_ => ex1_ hx2_ fun m27_ hx3_ => and8A hx3_ fun ha HO791 HO794 HO797 HO800 HO803 HO806 hy1_ => and8A hy1_ fun HO812 HO815 HO818 HO821 HO827 HO830 HO833 hy2_ => and7A hy2_ fun BK808 BK809 BK823 BK824 BK835 HB hy3_ => and8 hy3_ fun Q_HO838 Q_HO841 Q_HO845 Q_HO848 Q_HO852 Q_HO855 Q_HO858 hy4_ => and8 hy4_ fun Q_HO861 Q_HO864 Q_HO867 Q_HO870 Q_X5_ Q_X12_ Q_X22_ hy5_ => ?_
   have Q_X24_ := hy5_.1; have Q_X25_ := hy5_.2.1; have Q_X27_ := hy5_.2.2; clear hx0_ hx1_ hx2_ hx3_ hy1_ hy2_ hy3_ hy4_ hy5_
   refine ⟨_, rfl, fun K hK => ?_⟩
   have e42 : a.tmps[42]? = some (.agg #[.slice Ao40 t804.length co40]) := by rw [ha.out]; exact putSel_on (e := (10, 42, .agg #[.slice Ao40 t804.length co40])) 9 rfl rfl (hon 10 (by kernel_rfl)) rfl
   have e44 : a.tmps[44]? = some (m12_) := by rw [ha.out]; exact putSel_on (e := (12, 44, m12_)) 11 rfl rfl (hon 12 (by kernel_rfl)) rfl
   rw [Q_X12_ (hon 12 (by kernel_rfl))] at e44
   have e41 : a.tmps[41]? = some (.bool (t842 == 0)) := by rw [ha.out]; exact putSel_on (e := (9, 41, .bool (t842 == 0))) 8 rfl rfl (hon 9 (by kernel_rfl)) rfl
   have HO838 := Aside0.mk (Q_HO838 (hon 4 (by kernel_rfl)))
   have HO841 := Aside0.mk (Q_HO841 (hon 5 (by kernel_rfl)))
   have HO845 := Aside0.mk (Q_HO845 (hon 11 (by kernel_rfl)))
   have HO848 := Aside0.mk (Q_HO848 (hon 12 (by kernel_rfl)))
   obtain ⟨Ao85, co85, eo85⟩ := Kd.V_slice HO848.out
   (first | subst eo85 | (injection eo85 with f1_ f2_ f3_; have f4_ := f1_.symm; have f5_ := f3_.symm; clear f1_ f2_ f3_; subst f4_; subst f5_))
   refine goes_ Try.func21 (by kernel_rfl) rfl #[.agg #[.slice Ao40 t804.length co40], .agg #[.slice Ao85 t846.length co85]] (wanted_on rfl rfl rfl (e41.trans (by first | rfl | (simp [*]; done)))) rfl rfl (by first | (simp only [List.map_toArray, List.map_cons, List.map_nil, Act.eval, Array.getD_eq_getD_getElem?, Option.getD_some, e42, e44, e41]; done) | (simp only [List.map_toArray, List.map_cons, List.map_nil, Act.eval, Array.getD_eq_getD_getElem?, Option.getD_some, e42, e44, e41]; rfl)) ?_
   with_reducible refine (nat_Nat_Cmp.calls k _ _ t804 _ _ t846 t849 _ ?side1 ?side2 ?side3 ?side4 A13.out).mono ?_
   (case side1 => exact cv HO806.out)
   (case side2 => exact (Kd.V_reads' HO806.out).2.1)
   (case side3 => exact cv HO848.out)
   (case side4 => exact (Kd.V_reads' HO848.out).2.1)
   rintro e w86 ⟨rfl, hb⟩
   refine ⟨_, rfl, ?_⟩
   replace HO791 := Aside0.mk (rb HO791.out hb)
   replace HO794 := Aside0.mk (vb HO794.out hb)
   replace HO797 := Aside0.mk (rb HO797.out hb)
   replace HO800 := Aside0.mk (vb HO800.out hb)
   replace HO803 := Aside0.mk (vb HO803.out hb)
   replace HO806 := Aside0.mk (vb HO806.out hb)
   replace HO812 := Aside0.mk (rb HO812.out hb)
   replace HO815 := Aside0.mk (vb HO815.out hb)
   replace HO818 := Aside0.mk (vb HO818.out hb)
   replace HO821 := Aside0.mk (vb HO821.out hb)
   replace HO827 := Aside0.mk (rb HO827.out hb)
   replace HO830 := Aside0.mk (vb HO830.out hb)
   replace HO833 := Aside0.mk (vb HO833.out hb)
   replace HO838 := Aside0.mk (rb HO838.out hb)
   replace HO841 := Aside0.mk (vb HO841.out hb)
   replace HO845 := Aside0.mk (rb HO845.out hb)
   replace HO848 := Aside0.mk (vb HO848.out hb)
   replace BK808 := Aside0.mk (bb BK808.out hb)
   replace BK809 := Aside0.mk (bb BK809.out hb)
   replace BK823 := Aside0.mk (bb BK823.out hb)
   replace BK824 := Aside0.mk (bb BK824.out hb)
   replace BK835 := Aside0.mk (bb BK835.out hb)
   replace HB := Aside0.mk (bs HB.out hb)
   (try clear hb)
   (try clear hb2)
   (try clear hk)
   (try clear hi)
   refine hK.out _ _ ⟨v837, v840, v844, .slice Ao85 t846.length co85, v851, v854, v857, v860, v863, v866, v869, m5_, m12_, m22_, m24_, m25_, m27_, (by rw [ha.out]; exact putSel_upk 12 hb_ rfl rfl rfl), HO791.out, HO794.out, HO797.out, HO800.out, HO803.out, HO806.out, HO812.out, HO815.out, HO818.out, HO821.out, HO827.out, HO830.out, HO833.out, BK808.out, BK809.out, BK823.out, BK824.out, BK835.out, (by repeat (first | (with_reducible first | exact HB.out | apply below_alloc | apply pw_below_drewN | apply below_drew1 | refine below_set ?_ GE808.out | refine below_set ?_ GE809.out | refine below_set ?_ GE823.out | refine below_set ?_ GE824.out | refine below_set ?_ GE835.out) | exact HB.out)), fun _ => HO838.out, fun _ => HO841.out, fun _ => HO845.out, fun _ => HO848.out, ab0 (hoff 21 (by kernel_rfl)), ab0 (hoff 22 (by kernel_rfl)), ab0 (hoff 23 (by kernel_rfl)), ab0 (hoff 24 (by kernel_rfl)), ab0 (hoff 25 (by kernel_rfl)), ab0 (hoff 26 (by kernel_rfl)), ab0 (hoff 27 (by kernel_rfl)), Q_X5_, Q_X12_, ab0 (hoff 22 (by kernel_rfl)), ab0 (hoff 24 (by kernel_rfl)), ab0 (hoff 25 (by kernel_rfl)), ab0 (hoff 27 (by kernel_rfl))⟩
  refine steps_cons ?_ ?_
  ·intro b a w' hx0_ hb_ hon hoff
   refine ex8_ hx0_ fun v837 v840 v844 v847 v851 v854 v857 v860 hx1_ => ex8_ hx1_ fun v863 v866 v869 m5_ m12_ m22_ m24_ m25_ hx2_ => ex1_ hx2_ fun m27_ hx3_ => and8A hx3_ fun ha HO791 HO794 HO797 HO800 HO803 HO806 hy1_ => and8A hy1_ fun HO812 HO815 HO818 HO821 HO827 HO830 HO833 hy2_ => and7A hy2_ fun BK808 BK809 BK823 BK824 BK835 HB hy3_ => and8 hy3_ fun Q_HO838 Q_HO841 Q_HO845 Q_HO848 Q_HO852 Q_HO855 Q_HO858 hy4_ => and8 hy4_ fun Q_HO861 Q_HO864 Q_HO867 Q_HO870 Q_X5_ Q_X12_ Q_X22_ hy5_ => ?_
   have Q_X24_ := hy5_.1; have Q_X25_ := hy5_.2.1; have Q_X27_ := hy5_.2.2; clear hx0_ hx1_ hx2_ hx3_ hy1_ hy2_ hy3_ hy4_ hy5_
   refine ⟨_, rfl, fun K hK => ?_⟩
   have e45 : a.tmps[45]? = some (.int .i64 t849) := by rw [ha.out]; exact putSel_on (e := (13, 45, .int .i64 t849)) 12 rfl rfl (hon 13 (by kernel_rfl)) rfl
   have e41 : a.tmps[41]? = some (.bool (t842 == 0)) := by rw [ha.out]; exact putSel_on (e := (9, 41, .bool (t842 == 0))) 8 rfl rfl (hon 9 (by kernel_rfl)) rfl
   have HO838 := Aside0.mk (Q_HO838 (hon 4 (by kernel_rfl)))
   have HO841 := Aside0.mk (Q_HO841 (hon 5 (by kernel_rfl)))
   have HO845 := Aside0.mk (Q_HO845 (hon 11 (by kernel_rfl)))
   have HO848 := Aside0.mk (Q_HO848 (hon 12 (by kernel_rfl)))
   refine value_ (w1 := w') (v := .bool (t849 == 0)) (wanted_on rfl rfl rfl (e41.trans (by first | rfl | (simp [*]; done)))) rfl ?_ ?_
   ·go_simp
    (try simp only [i64_w])
    try rfl
   refine hK.out _ _ ⟨v837, v840, v844, v847, v851, v854, v857, v860, v863, v866, v869, m5_, m12_, m22_, m24_, m25_, m27_, (by rw [ha.out]; exact putSel_upk 13 hb_ rfl rfl rfl), HO791.out, HO794.out, HO797.out, HO800.out, HO803.out, HO806.out, HO812.out, HO815.out, HO818.out, HO821.out, HO827.out, HO830.out, HO833.out, BK808.out, BK809.out, BK823.out, BK824.out, BK835.out, HB.out, Q_HO838, Q_HO841, Q_HO845, Q_HO848, ab0 (hoff 21 (by kernel_rfl)), ab0 (hoff 22 (by kernel_rfl)), ab0 (hoff 23 (by kernel_rfl)), ab0 (hoff 24 (by kernel_rfl)), ab0 (hoff 25 (by kernel_rfl)), ab0 (hoff 26 (by kernel_rfl)), ab0 (hoff 27 (by kernel_rfl)), Q_X5_, Q_X12_, ab0 (hoff 22 (by kernel_rfl)), ab0 (hoff 24 (by kernel_rfl)), ab0 (hoff 25 (by kernel_rfl)), ab0 (hoff 27 (by kernel_rfl))⟩
  refine steps_cons ?_ ?_
  ·intro b a w' hx0_ hb_ hon hoff
   refine ex8_ hx0_ fun v837 v840 v844 v847 v851 v854 v857 v860 hx1_ => ex8_ hx1_ fun v863 v866 v869 m5_ m12_ m22_ m24_ m25_ hx2_ => ex1_ hx2_ fun m27_ hx3_ => and8A hx3_ fun ha HO791 HO794 HO797 HO800 HO803 HO806 hy1_ => and8A hy1_ fun HO812 HO815 HO818 HO821 HO827 HO830 HO833 hy2_ => and7A hy2_ fun BK808 BK809 BK823 BK824 BK835 HB hy3_ => and8 hy3_ fun Q_HO838 Q_HO841 Q_HO845 Q_HO848 Q_HO852 Q_HO855 Q_HO858 hy4_ => and8 hy4_ fun Q_HO861 Q_HO864 Q_HO867 Q_HO870 Q_X5_ Q_X12_ Q_X22_ hy5_ => ?_
   have Q_X24_ := hy5_.1; have Q_X25_ := hy5_.2.1; have Q_X27_ := hy5_.2.2; clear hx0_ hx1_ hx2_ hx3_ hy1_ hy2_ hy3_ hy4_ hy5_
   refine ⟨_, rfl, fun K hK => ?_⟩
   have e41 : a.tmps[41]? = some (.bool (t842 == 0)) := by rw [ha.out]; exact putSel_on (e := (9, 41, .bool (t842 == 0))) 8 rfl rfl (hon 9 (by kernel_rfl)) rfl
   have e46 : a.tmps[46]? = some (.bool (t849 == 0)) := by rw [ha.out]; exact putSel_on (e := (14, 46, .bool (t849 == 0))) 13 rfl rfl (hon 14 (by kernel_rfl)) rfl
   have HO838 := Aside0.mk (Q_HO838 (hon 4 (by kernel_rfl)))
   have HO841 := Aside0.mk (Q_HO841 (hon 5 (by kernel_rfl)))
   have HO845 := Aside0.mk (Q_HO845 (hon 11 (by kernel_rfl)))
   have HO848 := Aside0.mk (Q_HO848 (hon 12 (by kernel_rfl)))
   refine value_ (w1 := w') (v := .bool (t849 == 0)) (by rfl) rfl ?_ ?_
   ·go_simp
    (try simp only [i64_w])
    try rfl
   refine hK.out _ _ ⟨v837, v840, v844, v847, v851, v854, v857, v860, v863, v866, v869, m5_, m12_, m22_, m24_, m25_, m27_, (by rw [ha.out]; exact putSel_upk 14 hb_ rfl rfl rfl), HO791.out, HO794.out, HO797.out, HO800.out, HO803.out, HO806.out, HO812.out, HO815.out, HO818.out, HO821.out, HO827.out, HO830.out, HO833.out, BK808.out, BK809.out, BK823.out, BK824.out, BK835.out, HB.out, Q_HO838, Q_HO841, Q_HO845, Q_HO848, ab0 (hoff 21 (by kernel_rfl)), ab0 (hoff 22 (by kernel_rfl)), ab0 (hoff 23 (by kernel_rfl)), ab0 (hoff 24 (by kernel_rfl)), ab0 (hoff 25 (by kernel_rfl)), ab0 (hoff 26 (by kernel_rfl)), ab0 (hoff 27 (by kernel_rfl)), Q_X5_, Q_X12_, ab0 (hoff 22 (by kernel_rfl)), ab0 (hoff 24 (by kernel_rfl)), ab0 (hoff 25 (by kernel_rfl)), ab0 (hoff 27 (by kernel_rfl))⟩
  refine steps_cons ?_ ?_
  ·intro b a w' hx0_ hb_ hon hoff
   refine ex8_ hx0_ fun v837 v840 v844 v847 v851 v854 v857 v860 hx1_ => ex8_ hx1_ fun v863 v866 v869 m5_ m12_ m22_ m24_ m25_ hx2_ => ex1_ hx2_ fun m27_ hx3_ => and8A hx3_ fun ha HO791 HO794 HO797 HO800 HO803 HO806 hy1_ => and8A hy1_ fun HO812 HO815 HO818 HO821 HO827 HO830 HO833 hy2_ => and7A hy2_ fun BK808 BK809 BK823 BK824 BK835 HB hy3_ => and8 hy3_ fun Q_HO838 Q_HO841 Q_HO845 Q_HO848 Q_HO852 Q_HO855 Q_HO858 hy4_ => and8 hy4_ fun Q_HO861 Q_HO864 Q_HO867 Q_HO870 Q_X5_ Q_X12_ Q_X22_ hy5_ => ?_
   have Q_X24_ := hy5_.1; have Q_X25_ := hy5_.2.1; have Q_X27_ := hy5_.2.2; clear hx0_ hx1_ hx2_ hx3_ hy1_ hy2_ hy3_ hy4_ hy5_
   refine ⟨_, rfl, fun K hK => ?_⟩
   have e47 : a.tmps[47]? = some (.bool (t849 == 0)) := by rw [ha.out]; exact putSel_on (e := (15, 47, .bool (t849 == 0))) 14 rfl rfl (hon 15 (by kernel_rfl)) rfl
   have HO838 := Aside0.mk (Q_HO838 (hon 4 (by kernel_rfl)))
   have HO841 := Aside0.mk (Q_HO841 (hon 5 (by kernel_rfl)))
   have HO845 := Aside0.mk (Q_HO845 (hon 11 (by kernel_rfl)))
   have HO848 := Aside0.mk (Q_HO848 (hon 12 (by kernel_rfl)))
   refine value_ (w1 := w') (v := .bool (t849 == 0)) (by rfl) rfl ?_ ?_
   ·go_simp
    (try simp only [i64_w])
    try rfl
   refine hK.out _ _ ⟨v837, v840, v844, v847, v851, v854, v857, v860, v863, v866, v869, m5_, m12_, m22_, m24_, m25_, m27_, (by rw [ha.out]; exact putSel_upk 15 hb_ rfl rfl rfl), HO791.out, HO794.out, HO797.out, HO800.out, HO803.out, HO806.out, HO812.out, HO815.out, HO818.out, HO821.out, HO827.out, HO830.out, HO833.out, BK808.out, BK809.out, BK823.out, BK824.out, BK835.out, HB.out, Q_HO838, Q_HO841, Q_HO845, Q_HO848, ab0 (hoff 21 (by kernel_rfl)), ab0 (hoff 22 (by kernel_rfl)), ab0 (hoff 23 (by kernel_rfl)), ab0 (hoff 24 (by kernel_rfl)), ab0 (hoff 25 (by kernel_rfl)), ab0 (hoff 26 (by kernel_rfl)), ab0 (hoff 27 (by kernel_rfl)), Q_X5_, Q_X12_, ab0 (hoff 22 (by kernel_rfl)), ab0 (hoff 24 (by kernel_rfl)), ab0 (hoff 25 (by kernel_rfl)), ab0 (hoff 27 (by kernel_rfl))⟩
  refine steps_cons ?_ ?_
  ·intro b a w' hx0_ hb_ hon hoff
   refine ex8_ hx0_ fun v837 v840 v844 v847 v851 v854 v857 v860 hx1_ => ex8_ hx1_ fun v863 v866 v869 m5_ m12_ m22_ m24_ m25_ hx2_ => ex1_ hx2_ fun m27_ hx3_ => and8A hx3_ fun ha HO791 HO794 HO797 HO800 HO803 HO806 hy1_ => and8A hy1_ fun HO812 HO815 HO818 HO821 HO827 HO830 HO833 hy2_ => and7A hy2_ fun BK808 BK809 BK823 BK824 BK835 HB hy3_ => and8 hy3_ fun Q_HO838 Q_HO841 Q_HO845 Q_HO848 Q_HO852 Q_HO855 Q_HO858 hy4_ => and8 hy4_ fun Q_HO861 Q_HO864 Q_HO867 Q_HO870 Q_X5_ Q_X12_ Q_X22_ hy5_ => ?_
   have Q_X24_ := hy5_.1; have Q_X25_ := hy5_.2.1; have Q_X27_ := hy5_.2.2; clear hx0_ hx1_ hx2_ hx3_ hy1_ hy2_ hy3_ hy4_ hy5_
   refine ⟨_, rfl, fun K hK => ?_⟩
   have e6 : a.tmps[6]? = some (.int .i64 t822) := by rw [ha.out]; exact (putSel_off rfl).trans rfl
   have e48 : a.tmps[48]? = some (.bool (t849 == 0)) := by rw [ha.out]; exact putSel_on (e := (16, 48, .bool (t849 == 0))) 15 rfl rfl (hon 16 (by kernel_rfl)) rfl
   have HO838 := Aside0.mk (Q_HO838 (hon 4 (by kernel_rfl)))
   have HO841 := Aside0.mk (Q_HO841 (hon 5 (by kernel_rfl)))
   have HO845 := Aside0.mk (Q_HO845 (hon 11 (by kernel_rfl)))
   have HO848 := Aside0.mk (Q_HO848 (hon 12 (by kernel_rfl)))
   refine value_ (w1 := w') (v := .int .i64 t822) (wanted_on rfl rfl rfl (e48.trans (by first | rfl | (simp [*]; done)))) rfl ?_ ?_
   ·go_simp
    (try simp only [i64_w])
    try rfl
   refine hK.out _ _ ⟨v837, v840, v844, v847, v851, v854, v857, v860, v863, v866, v869, m5_, m12_, m22_, m24_, m25_, m27_, (by rw [ha.out]; exact putSel_upk 16 hb_ rfl rfl rfl), HO791.out, HO794.out, HO797.out, HO800.out, HO803.out, HO806.out, HO812.out, HO815.out, HO818.out, HO821.out, HO827.out, HO830.out, HO833.out, BK808.out, BK809.out, BK823.out, BK824.out, BK835.out, HB.out, Q_HO838, Q_HO841, Q_HO845, Q_HO848, ab0 (hoff 21 (by kernel_rfl)), ab0 (hoff 22 (by kernel_rfl)), ab0 (hoff 23 (by kernel_rfl)), ab0 (hoff 24 (by kernel_rfl)), ab0 (hoff 25 (by kernel_rfl)), ab0 (hoff 26 (by kernel_rfl)), ab0 (hoff 27 (by kernel_rfl)), Q_X5_, Q_X12_, ab0 (hoff 22 (by kernel_rfl)), ab0 (hoff 24 (by kernel_rfl)), ab0 (hoff 25 (by kernel_rfl)), ab0 (hoff 27 (by kernel_rfl))⟩
  refine steps_cons ?_ ?_
  ·intro b a w' hx0_ hb_ hon hoff
   refine ex8_ hx0_ fun v837 v840 v844 v847 v851 v854 v857 v860 hx1_ => ex8_ hx1_ fun v863 v866 v869 m5_ m12_ m22_ m24_ m25_ hx2_ => ex1_ hx2_ fun m27_ hx3_ => and8A hx3_ fun ha HO791 HO794 HO797 HO800 HO803 HO806 hy1_ => and8A hy1_ fun HO812 HO815 HO818 HO821 HO827 HO830 HO833 hy2_ => and7A hy2_ fun BK808 BK809 BK823 BK824 BK835 HB hy3_ => and8 hy3_ fun Q_HO838 Q_HO841 Q_HO845 Q_HO848 Q_HO852 Q_HO855 Q_HO858 hy4_ => and8 hy4_ fun Q_HO861 Q_HO864 Q_HO867 Q_HO870 Q_X5_ Q_X12_ Q_X22_ hy5_ => ?_
   have Q_X24_ := hy5_.1; have Q_X25_ := hy5_.2.1; have Q_X27_ := hy5_.2.2; clear hx0_ hx1_ hx2_ hx3_ hy1_ hy2_ hy3_ hy4_ hy5_
   refine ⟨_, rfl, fun K hK => ?_⟩
   have e49 : a.tmps[49]? = some (.int .i64 t822) := by rw [ha.out]; exact putSel_on (e := (17, 49, .int .i64 t822)) 16 rfl rfl (hon 17 (by kernel_rfl)) rfl
   have e48 : a.tmps[48]? = some (.bool (t849 == 0)) := by rw [ha.out]; exact putSel_on (e := (16, 48, .bool (t849 == 0))) 15 rfl rfl (hon 16 (by kernel_rfl)) rfl
   have HO838 := Aside0.mk (Q_HO838 (hon 4 (by kernel_rfl)))
   have HO841 := Aside0.mk (Q_HO841 (hon 5 (by kernel_rfl)))
   have HO845 := Aside0.mk (Q_HO845 (hon 11 (by kernel_rfl)))
   have HO848 := Aside0.mk (Q_HO848 (hon 12 (by kernel_rfl)))
   refine value_ (w1 := w') (v := .bool (t822 == 8)) (wanted_on rfl rfl rfl (e48.trans (by first | rfl | (simp [*]; done)))) rfl ?_ ?_
   ·go_simp
    (try simp only [i64_w])
    try rfl
   refine hK.out _ _ ⟨v837, v840, v844, v847, v851, v854, v857, v860, v863, v866, v869, m5_, m12_, m22_, m24_, m25_, m27_, (by rw [ha.out]; exact putSel_upk 17 hb_ rfl rfl rfl), HO791.out, HO794.out, HO797.out, HO800.out, HO803.out, HO806.out, HO812.out, HO815.out, HO818.out, HO821.out, HO827.out, HO830.out, HO833.out, BK808.out, BK809.out, BK823.out, BK824.out, BK835.out, HB.out, Q_HO838, Q_HO841, Q_HO845, Q_HO848, ab0 (hoff 21 (by kernel_rfl)), ab0 (hoff 22 (by kernel_rfl)), ab0 (hoff 23 (by kernel_rfl)), ab0 (hoff 24 (by kernel_rfl)), ab0 (hoff 25 (by kernel_rfl)), ab0 (hoff 26 (by kernel_rfl)), ab0 (hoff 27 (by kernel_rfl)), Q_X5_, Q_X12_, ab0 (hoff 22 (by kernel_rfl)), ab0 (hoff 24 (by kernel_rfl)), ab0 (hoff 25 (by kernel_rfl)), ab0 (hoff 27 (by kernel_rfl))⟩
  refine steps_cons ?_ ?_
  ·intro b a w' hx0_ hb_ hon hoff
   refine ex8_ hx0_ fun v837 v840 v844 v847 v851 v854 v857 v860 hx1_ => ex8_ hx1_ fun v863 v866 v869 m5_ m12_ m22_ m24_ m25_ hx2_ => ex1_ hx2_ fun m27_ hx3_ => and8A hx3_ fun ha HO791 HO794 HO797 HO800 HO803 HO806 hy1_ => and8A hy1_ fun HO812 HO815 HO818 HO821 HO827 HO830 HO833 hy2_ => and7A hy2_ fun BK808 BK809 BK823 BK824 BK835 HB hy3_ => and8 hy3_ fun Q_HO838 Q_HO841 Q_HO845 Q_HO848 Q_HO852 Q_HO855 Q_HO858 hy4_ => and8 hy4_ fun Q_HO861 Q_HO864 Q_HO867 Q_HO870 Q_X5_ Q_X12_ Q_X22_ hy5_ => ?_
   have Q_X24_ := hy5_.1; have Q_X25_ := hy5_.2.1; have Q_X27_ := hy5_.2.2; clear hx0_ hx1_ hx2_ hx3_ hy1_ hy2_ hy3_ hy4_ hy5_
   refine ⟨_, rfl, fun K hK => ?_⟩
   have e48 : a.tmps[48]? = some (.bool (t849 == 0)) := by rw [ha.out]; exact putSel_on (e := (16, 48, .bool (t849 == 0))) 15 rfl rfl (hon 16 (by kernel_rfl)) rfl
   have e50 : a.tmps[50]? = some (.bool (t822 == 8)) := by rw [ha.out]; exact putSel_on (e := (18, 50, .bool (t822 == 8))) 17 rfl rfl (hon 18 (by kernel_rfl)) rfl
   have HO838 := Aside0.mk (Q_HO838 (hon 4 (by kernel_rfl)))
   have HO841 := Aside0.mk (Q_HO841 (hon 5 (by kernel_rfl)))
   have HO845 := Aside0.mk (Q_HO845 (hon 11 (by kernel_rfl)))
   have HO848 := Aside0.mk (Q_HO848 (hon 12 (by kernel_rfl)))
   refine value_ (w1 := w') (v := .bool (t822 == 8)) (by rfl) rfl ?_ ?_
   ·go_simp
    (try simp only [i64_w])
    try rfl
   refine hK.out _ _ ⟨v837, v840, v844, v847, v851, v854, v857, v860, v863, v866, v869, m5_, m12_, m22_, m24_, m25_, m27_, (by rw [ha.out]; exact putSel_upk 18 hb_ rfl rfl rfl), HO791.out, HO794.out, HO797.out, HO800.out, HO803.out, HO806.out, HO812.out, HO815.out, HO818.out, HO821.out, HO827.out, HO830.out, HO833.out, BK808.out, BK809.out, BK823.out, BK824.out, BK835.out, HB.out, Q_HO838, Q_HO841, Q_HO845, Q_HO848, ab0 (hoff 21 (by kernel_rfl)), ab0 (hoff 22 (by kernel_rfl)), ab0 (hoff 23 (by kernel_rfl)), ab0 (hoff 24 (by kernel_rfl)), ab0 (hoff 25 (by kernel_rfl)), ab0 (hoff 26 (by kernel_rfl)), ab0 (hoff 27 (by kernel_rfl)), Q_X5_, Q_X12_, ab0 (hoff 22 (by kernel_rfl)), ab0 (hoff 24 (by kernel_rfl)), ab0 (hoff 25 (by kernel_rfl)), ab0 (hoff 27 (by kernel_rfl))⟩
  refine steps_cons ?_ ?_
  ·intro b a w' hx0_ hb_ hon hoff
   refine ex8_ hx0_ fun v837 v840 v844 v847 v851 v854 v857 v860 hx1_ => ex8_ hx1_ fun v863 v866 v869 m5_ m12_ m22_ m24_ m25_ hx2_ => ex1_ hx2_ fun m27_ hx3_ => and8A hx3_ fun ha HO791 HO794 HO797 HO800 HO803 HO806 hy1_ => and8A hy1_ fun HO812 HO815 HO818 HO821 HO827 HO830 HO833 hy2_ => and7A hy2_ fun BK808 BK809 BK823 BK824 BK835 HB hy3_ => and8 hy3_ fun Q_HO838 Q_HO841 Q_HO845 Q_HO848 Q_HO852 Q_HO855 Q_HO858 hy4_ => and8 hy4_ fun Q_HO861 Q_HO864 Q_HO867 Q_HO870 Q_X5_ Q_X12_ Q_X22_ hy5_ => ?_
   have Q_X24_ := hy5_.1; have Q_X25_ := hy5_.2.1; have Q_X27_ := hy5_.2.2; clear hx0_ hx1_ hx2_ hx3_ hy1_ hy2_ hy3_ hy4_ hy5_
   refine ⟨_, rfl, fun K hK => ?_⟩
   have e51 : a.tmps[51]? = some (.bool (t822 == 8)) := by rw [ha.out]; exact putSel_on (e := (19, 51, .bool (t822 == 8))) 18 rfl rfl (hon 19 (by kernel_rfl)) rfl
   have HO838 := Aside0.mk (Q_HO838 (hon 4 (by kernel_rfl)))
   have HO841 := Aside0.mk (Q_HO841 (hon 5 (by kernel_rfl)))
   have HO845 := Aside0.mk (Q_HO845 (hon 11 (by kernel_rfl)))
   have HO848 := Aside0.mk (Q_HO848 (hon 12 (by kernel_rfl)))
   refine value_ (w1 := w') (v := .bool (t822 == 8)) (by rfl) rfl ?_ ?_
   ·go_simp
    (try simp only [i64_w])
    try rfl
   refine hK.out _ _ ⟨v837, v840, v844, v847, v851, v854, v857, v860, v863, v866, v869, m5_, m12_, m22_, m24_, m25_, m27_, (by rw [ha.out]; exact putSel_upk 19 hb_ rfl rfl rfl), HO791.out, HO794.out, HO797.out, HO800.out, HO803.out, HO806.out, HO812.out, HO815.out, HO818.out, HO821.out, HO827.out, HO830.out, HO833.out, BK808.out, BK809.out, BK823.out, BK824.out, BK835.out, HB.out, Q_HO838, Q_HO841, Q_HO845, Q_HO848, ab0 (hoff 21 (by kernel_rfl)), ab0 (hoff 22 (by kernel_rfl)), ab0 (hoff 23 (by kernel_rfl)), ab0 (hoff 24 (by kernel_rfl)), ab0 (hoff 25 (by kernel_rfl)), ab0 (hoff 26 (by kernel_rfl)), ab0 (hoff 27 (by kernel_rfl)), Q_X5_, Q_X12_, ab0 (hoff 22 (by kernel_rfl)), ab0 (hoff 24 (by kernel_rfl)), ab0 (hoff 25 (by kernel_rfl)), ab0 (hoff 27 (by kernel_rfl))⟩
  refine steps_cons ?_ ?_
  ·intro b a w' hx0_ hb_ hon hoff
   refine ex8_ hx0_ fun v837 v840 v844 v847 v851 v854 v857 v860 hx1_ => ex8_ hx1_ fun v863 v866 v869 m5_ m12_ m22_ m24_ m25_ hx2_ => ex1_ hx2_ fun m27_ hx3_ => and8A hx3_ fun ha HO791 HO794 HO797 HO800 HO803 HO806 hy1_ => and8A hy1_ fun HO812 HO815 HO818 HO821 HO827 HO830 HO833 hy2_ => and7A hy2_ fun BK808 BK809 BK823 BK824 BK835 HB hy3_ => and8 hy3_ fun Q_HO838 Q_HO841 Q_HO845 Q_HO848 Q_HO852 Q_HO855 Q_HO858 hy4_ => and8 hy4_ fun Q_HO861 Q_HO864 Q_HO867 Q_HO870 Q_X5_ Q_X12_ Q_X22_ hy5_ => ?_
   have Q_X24_ := hy5_.1; have Q_X25_ := hy5_.2.1; have Q_X27_ := hy5_.2.2; clear hx0_ hx1_ hx2_ hx3_ hy1_ hy2_ hy3_ hy4_ hy5_
   refine ⟨_, rfl, fun K hK => ?_⟩
   have e52 : a.tmps[52]? = some (.bool (t822 == 8)) := by rw [ha.out]; exact putSel_on (e := (20, 52, .bool (t822 == 8))) 19 rfl rfl (hon 20 (by kernel_rfl)) rfl
   have HO838 := Aside0.mk (Q_HO838 (hon 4 (by kernel_rfl)))
   have HO841 := Aside0.mk (Q_HO841 (hon 5 (by kernel_rfl)))
   have HO845 := Aside0.mk (Q_HO845 (hon 11 (by kernel_rfl)))
   have HO848 := Aside0.mk (Q_HO848 (hon 12 (by kernel_rfl)))
   refine Kd.R_lit_step (Kd.int .u64) _ 27 ?hg (N := 53) ?hd (xs := ([12] : List Int)) (inner := [.int .u64 12]) (ok := fun _ => True) (okp := fun _ => True) ?hr ?hp (fun _ hk => hk) trivial (Below.refl _ _) (Nat.le_refl _) (by simp) ?_; (case hd => rfl); (case hg => exact (wanted_on rfl rfl rfl (e52.trans (by first | rfl | (simp [*]; done))))); (case hr => first | (go_simp; done) | (go_simp; rfl)); (case hp => exact (Reps.one (show Kd.M (Kd.int .u64) _ _ _ 12 [.int .u64 12] from rfl) (Reps.none _ _)))
   intro v851 w87 ho88 hb hg_ hnew_
   clear hg_ hnew_
   (first | rw [← Ny850.out] at ho88 | (simp only [Int.reduceToNat] at ho88; rw [← Ny850.out] at ho88))
   have n0_ := Aside0.mk (Kd.R_elder' HO791.out (Kd.R_base ho88) hb)
   have n1_ := Aside0.mk (Kd.V_elder' HO794.out (Kd.R_base ho88) hb)
   have n2_ := Aside0.mk (Kd.R_elder' HO797.out (Kd.R_base ho88) hb)
   have n3_ := Aside0.mk (Kd.V_elder' HO800.out (Kd.R_base ho88) hb)
   have n4_ := Aside0.mk (Kd.V_elder' HO803.out (Kd.R_base ho88) hb)
   have n5_ := Aside0.mk (Kd.V_elder' HO806.out (Kd.R_base ho88) hb)
   have n6_ := Aside0.mk (Kd.R_elder' HO812.out (Kd.R_base ho88) hb)
   have n7_ := Aside0.mk (Kd.V_elder' HO815.out (Kd.R_base ho88) hb)
   have n8_ := Aside0.mk (Kd.V_elder' HO818.out (Kd.R_base ho88) hb)
   have n9_ := Aside0.mk (Kd.V_elder' HO821.out (Kd.R_base ho88) hb)
   have n10_ := Aside0.mk (Kd.R_elder' HO827.out (Kd.R_base ho88) hb)
   have n11_ := Aside0.mk (Kd.V_elder' HO830.out (Kd.R_base ho88) hb)
   have n12_ := Aside0.mk (Kd.V_elder' HO833.out (Kd.R_base ho88) hb)
   have n13_ := Aside0.mk (Kd.R_elder' HO838.out (Kd.R_base ho88) hb)
   have n14_ := Aside0.mk (Kd.V_elder' HO841.out (Kd.R_base ho88) hb)
   have n15_ := Aside0.mk (Kd.R_elder' HO845.out (Kd.R_base ho88) hb)
   have n16_ := Aside0.mk (Kd.V_elder' HO848.out (Kd.R_base ho88) hb)
   have n17_ := Aside0.mk (Kd.R_lower (Kd.R_new' (Kd.R_new' (Kd.R_new' (Kd.R_new' (Kd.R_new' (Kd.R_new' ho88 (Kd.R_lt HO791.out)) (Kd.R_lt HO797.out)) (Kd.R_lt HO812.out)) (Kd.R_lt HO827.out)) (Kd.R_lt HO838.out)) (Kd.R_lt HO845.out)) (bz HB.out))
   have n18_ := Aside0.mk (bb BK808.out hb)
   have n19_ := Aside0.mk (bb BK809.out hb)
   have n20_ := Aside0.mk (bb BK823.out hb)
   have n21_ := Aside0.mk (bb BK824.out hb)
   have n22_ := Aside0.mk (bb BK835.out hb)
   have n23_ := Aside0.mk (bs HB.out hb)
   have z_HO858 := fun (h0_ : b 23 = true) => (show Kd.R (Kd.int .u64) 27 w87 w.heap.size (fun k_ => OB Ao26 y789 co26 k_ ∧ OB Ao30 y795 co30 k_ ∧ OB Ao44 y810 co44 k_ ∧ OB Ao61 y825 co61 k_) v857 y856 from by first | exact (Kd.R_elder' ((Q_HO858 h0_)) (Kd.R_base ho88) hb) | exact Kd.R_mono (Kd.R_elder' ((Q_HO858 h0_)) (Kd.R_base ho88) hb) (fun _ h_ => by first | trivial | exact h_ | exact h_.1))
   have z_HO867 := fun (h0_ : b 26 = true) => (show Kd.R (Kd.int .u64) 27 w87 w.heap.size (fun k_ => OB Ao26 y789 co26 k_ ∧ OB Ao30 y795 co30 k_ ∧ OB Ao44 y810 co44 k_ ∧ OB Ao61 y825 co61 k_) v866 y865 from by first | exact (Kd.R_elder' ((Q_HO867 h0_)) (Kd.R_base ho88) hb) | exact Kd.R_mono (Kd.R_elder' ((Q_HO867 h0_)) (Kd.R_base ho88) hb) (fun _ h_ => by first | trivial | exact h_ | exact h_.1))
   clear HO791
   clear HO794
   clear HO797
   clear HO800
   clear HO803
   clear HO806
   clear HO812
   clear HO815
   clear HO818
   clear HO821
   clear HO827
   clear HO830
   clear HO833
   clear HO838
   clear HO841
   clear HO845
   clear HO848
   clear BK808
   clear BK809
   clear BK823
   clear BK824
   clear BK835
   clear HB
   have HO791 := n0_
   have HO794 := n1_
   have HO797 := n2_
   have HO800 := n3_
   have HO803 := n4_
   have HO806 := n5_
   have HO812 := n6_
   have HO815 := n7_
   have HO818 := n8_
   have HO821 := n9_
   have HO827 := n10_
   have HO830 := n11_
   have HO833 := n12_
   have HO838 := n13_
   have HO841 := n14_
   have HO845 := n15_
   have HO848 := n16_
   have HO852 := n17_
   have BK808 := n18_
   have BK809 := n19_
   have BK823 := n20_
   have BK824 := n21_
   have BK835 := n22_
   have HB := n23_
   clear n0_ n1_ n2_ n3_ n4_ n5_ n6_ n7_ n8_ n9_ n10_ n11_ n12_ n13_ n14_ n15_ n16_ n17_ n18_ n19_ n20_ n21_ n22_ n23_
   clear hb ho88
   refine hK.out _ _ ⟨v837, v840, v844, v847, v851, v854, v857, v860, v863, v866, v869, m5_, m12_, m22_, m24_, m25_, m27_, (by rw [ha.out]; exact putSel_upk 20 hb_ rfl rfl rfl), (Kd.R_mono HO791.out (fun _ hk => ⟨hk.1.1, ⟨hk.1.2.1, hk.1.2.2⟩⟩)), (Kd.V_mono HO794.out (fun _ hk => ⟨hk.1.1, ⟨hk.1.2.1, ⟨hk.1.2.2.1, ⟨hk.1.2.2.2.1, ⟨hk.1.2.2.2.2.1, ⟨hk.1.2.2.2.2.2.1, ⟨hk.1.2.2.2.2.2.2.1, ⟨hk.1.2.2.2.2.2.2.2.1, hk.1.2.2.2.2.2.2.2.2⟩⟩⟩⟩⟩⟩⟩⟩)), (Kd.R_mono HO797.out (fun _ hk => ⟨hk.1.1, ⟨hk.1.2.1, hk.1.2.2⟩⟩)), (Kd.V_mono HO800.out (fun _ hk => ⟨hk.1.1, ⟨hk.1.2.1, ⟨hk.1.2.2.1, ⟨hk.1.2.2.2.1, ⟨hk.1.2.2.2.2.1, ⟨hk.1.2.2.2.2.2.1, ⟨hk.1.2.2.2.2.2.2.1, ⟨hk.1.2.2.2.2.2.2.2.1, hk.1.2.2.2.2.2.2.2.2⟩⟩⟩⟩⟩⟩⟩⟩)), (Kd.V_mono HO803.out (fun _ hk => ⟨hk.1.1, ⟨hk.1.2.1, ⟨hk.1.2.2.1, ⟨hk.1.2.2.2.1, ⟨hk.1.2.2.2.2.1, ⟨hk.1.2.2.2.2.2.1, ⟨hk.1.2.2.2.2.2.2.1, ⟨hk.1.2.2.2.2.2.2.2.1, hk.1.2.2.2.2.2.2.2.2⟩⟩⟩⟩⟩⟩⟩⟩)), (Kd.V_mono HO806.out (fun _ hk => ⟨hk.1.1, ⟨hk.1.2.1, ⟨hk.1.2.2.1, ⟨hk.1.2.2.2.1, ⟨hk.1.2.2.2.2.1, ⟨hk.1.2.2.2.2.2.1, ⟨hk.1.2.2.2.2.2.2.1, ⟨hk.1.2.2.2.2.2.2.2.1, hk.1.2.2.2.2.2.2.2.2⟩⟩⟩⟩⟩⟩⟩⟩)), (Kd.R_mono HO812.out (fun _ hk => ⟨hk.1.1, ⟨hk.1.2.1, hk.1.2.2⟩⟩)), (Kd.V_mono HO815.out (fun _ hk => ⟨hk.1.1, ⟨hk.1.2.1, ⟨hk.1.2.2.1, ⟨hk.1.2.2.2.1, ⟨hk.1.2.2.2.2.1, ⟨hk.1.2.2.2.2.2.1, ⟨hk.1.2.2.2.2.2.2.1, ⟨hk.1.2.2.2.2.2.2.2.1, hk.1.2.2.2.2.2.2.2.2⟩⟩⟩⟩⟩⟩⟩⟩)), (Kd.V_mono HO818.out (fun _ hk => ⟨hk.1.1, ⟨hk.1.2.1, ⟨hk.1.2.2.1, ⟨hk.1.2.2.2.1, ⟨hk.1.2.2.2.2.1, ⟨hk.1.2.2.2.2.2.1, ⟨hk.1.2.2.2.2.2.2.1, ⟨hk.1.2.2.2.2.2.2.2.1, hk.1.2.2.2.2.2.2.2.2⟩⟩⟩⟩⟩⟩⟩⟩)), (Kd.V_mono HO821.out (fun _ hk => ⟨hk.1.1, ⟨hk.1.2.1, ⟨hk.1.2.2.1, ⟨hk.1.2.2.2.1, ⟨hk.1.2.2.2.2.1, ⟨hk.1.2.2.2.2.2.1, ⟨hk.1.2.2.2.2.2.2.1, ⟨hk.1.2.2.2.2.2.2.2.1, hk.1.2.2.2.2.2.2.2.2⟩⟩⟩⟩⟩⟩⟩⟩)), (Kd.R_mono HO827.out (fun _ hk => ⟨hk.1.1, ⟨hk.1.2.1, hk.1.2.2⟩⟩)), (Kd.V_mono HO830.out (fun _ hk => ⟨hk.1.1, ⟨hk.1.2.1, ⟨hk.1.2.2.1, ⟨hk.1.2.2.2.1, ⟨hk.1.2.2.2.2.1, ⟨hk.1.2.2.2.2.2.1, ⟨hk.1.2.2.2.2.2.2.1, ⟨hk.1.2.2.2.2.2.2.2.1, hk.1.2.2.2.2.2.2.2.2⟩⟩⟩⟩⟩⟩⟩⟩)), (Kd.V_mono HO833.out (fun _ hk => ⟨hk.1.1, ⟨hk.1.2.1, ⟨hk.1.2.2.1, ⟨hk.1.2.2.2.1, ⟨hk.1.2.2.2.2.1, ⟨hk.1.2.2.2.2.2.1, ⟨hk.1.2.2.2.2.2.2.1, ⟨hk.1.2.2.2.2.2.2.2.1, hk.1.2.2.2.2.2.2.2.2⟩⟩⟩⟩⟩⟩⟩⟩)), BK808.out, BK809.out, BK823.out, BK824.out, BK835.out, (by repeat (first | (with_reducible first | exact HB.out | apply below_alloc | apply pw_below_drewN | apply below_drew1 | refine below_set ?_ GE808.out | refine below_set ?_ GE809.out | refine below_set ?_ GE823.out | refine below_set ?_ GE824.out | refine below_set ?_ GE835.out) | exact HB.out)), fun _ => (Kd.R_mono HO838.out (fun _ hk => ⟨hk.1.1, ⟨hk.1.2.1, ⟨hk.1.2.2.1, hk.1.2.2.2⟩⟩⟩)), fun _ => (Kd.V_mono HO841.out (fun _ hk => ⟨hk.1.1, ⟨hk.1.2.1, ⟨hk.1.2.2.1, ⟨hk.1.2.2.2.1, ⟨hk.1.2.2.2.2.1, ⟨hk.1.2.2.2.2.2.1, ⟨hk.1.2.2.2.2.2.2.1, ⟨hk.1.2.2.2.2.2.2.2.1, hk.1.2.2.2.2.2.2.2.2⟩⟩⟩⟩⟩⟩⟩⟩)), fun _ => (Kd.R_mono HO845.out (fun _ hk => ⟨hk.1.1, ⟨hk.1.2.1, ⟨hk.1.2.2.1, hk.1.2.2.2⟩⟩⟩)), fun _ => (Kd.V_mono HO848.out (fun _ hk => ⟨hk.1.1, ⟨hk.1.2.1, ⟨hk.1.2.2.1, ⟨hk.1.2.2.2.1, ⟨hk.1.2.2.2.2.1, ⟨hk.1.2.2.2.2.2.1, ⟨hk.1.2.2.2.2.2.2.1, ⟨hk.1.2.2.2.2.2.2.2.1, hk.1.2.2.2.2.2.2.2.2⟩⟩⟩⟩⟩⟩⟩⟩)), fun _ => (Kd.R_mono HO852.out (fun _ hk => ⟨hk.1.1.1.1.1.2, ⟨hk.1.1.1.1.2, ⟨hk.1.1.1.2, hk.1.1.2⟩⟩⟩)), ab0 (hoff 22 (by kernel_rfl)), z_HO858, ab0 (hoff 24 (by kernel_rfl)), ab0 (hoff 25 (by kernel_rfl)), z_HO867, ab0 (hoff 27 (by kernel_rfl)), Q_X5_, Q_X12_, ab0 (hoff 22 (by kernel_rfl)), ab0 (hoff 24 (by kernel_rfl)), ab0 (hoff 25 (by kernel_rfl)), ab0 (hoff 27 (by kernel_rfl))⟩
  refine steps_cons ?_ ?_
  ·intro b a w' hx0_ hb_ hon hoff
   refine ex8_ hx0_ fun v837 v840 v844 v847 v851 v854 v857 v860 hx1_ => ex8_ hx1_ fun v863 v866 v869 m5_ m12_ m22_ m24_ m25_ hx2_ => ex1_ hx2_ fun m27_ hx3_ => and8A hx3_ fun ha HO791 HO794 HO797 HO800 HO803 HO806 hy1_ => and8A hy1_ fun HO812 HO815 HO818 HO821 HO827 HO830 HO833 hy2_ => and7A hy2_ fun BK808 BK809 BK823 BK824 BK835 HB hy3_ => and8 hy3_ fun Q_HO838 Q_HO841 Q_HO845 Q_HO848 Q_HO852 Q_HO855 Q_HO858 hy4_ => and8 hy4_ fun Q_HO861 Q_HO864 Q_HO867 Q_HO870 Q_X5_ Q_X12_ Q_X22_ hy5_ => ?_
   have Q_X24_ := hy5_.1; have Q_X25_ := hy5_.2.1; have Q_X27_ := hy5_.2.2; clear hx0_ hx1_ hx2_ hx3_ hy1_ hy2_ hy3_ hy4_ hy5_
   refine ⟨_, rfl, fun K hK => ?_⟩
   have e53 : a.tmps[53]? = some (v851) := by rw [ha.out]; exact putSel_on (e := (21, 53, v851)) 20 rfl rfl (hon 21 (by kernel_rfl)) rfl
   have e52 : a.tmps[52]? = some (.bool (t822 == 8)) := by rw [ha.out]; exact putSel_on (e := (20, 52, .bool (t822 == 8))) 19 rfl rfl (hon 20 (by kernel_rfl)) rfl
   have HO838 := Aside0.mk (Q_HO838 (hon 4 (by kernel_rfl)))
   have HO841 := Aside0.mk (Q_HO841 (hon 5 (by kernel_rfl)))
   have HO845 := Aside0.mk (Q_HO845 (hon 11 (by kernel_rfl)))
   have HO848 := Aside0.mk (Q_HO848 (hon 12 (by kernel_rfl)))
   have HO852 := Aside0.mk (Q_HO852 (hon 21 (by kernel_rfl)))
   obtain ⟨Ao89, co89, eo89⟩ := Kd.R_slice HO852.out
   (first | subst eo89 | (injection eo89 with f1_ f2_ f3_; have f4_ := f1_.symm; have f5_ := f3_.symm; clear f1_ f2_ f3_; subst f4_; subst f5_))
   refine goes_ Try.func14 (by kernel_rfl) rfl #[.slice Ao89 y850.length co89] (wanted_on rfl rfl rfl (e52.trans (by first | rfl | (simp [*]; done)))) rfl rfl (by first | (simp only [List.map_toArray, List.map_cons, List.map_nil, Act.eval, Array.getD_eq_getD_getElem?, Option.getD_some, e53, e52]; done) | (simp only [List.map_toArray, List.map_cons, List.map_nil, Act.eval, Array.getD_eq_getD_getElem?, Option.getD_some, e53, e52]; rfl)) ?_
   with_reducible refine (nat_Of.calls k _ _ y850 t853 _ ?side1 ?side2 A16.out).mono ?_
   (case side1 => exact cr HO852.out)
   (case side2 => exact (Kd.R_reads' HO852.out).2.1)
   rintro e w90 ⟨v854, rfl, ho0, hb⟩
   refine ⟨_, rfl, ?_⟩
   have n0_ := Aside0.mk (rb HO791.out hb)
   have n1_ := Aside0.mk (vb HO794.out hb)
   have n2_ := Aside0.mk (rb HO797.out hb)
   have n3_ := Aside0.mk (vb HO800.out hb)
   have n4_ := Aside0.mk (vb HO803.out hb)
   have n5_ := Aside0.mk (vb HO806.out hb)
   have n6_ := Aside0.mk (rb HO812.out hb)
   have n7_ := Aside0.mk (vb HO815.out hb)
   have n8_ := Aside0.mk (vb HO818.out hb)
   have n9_ := Aside0.mk (vb HO821.out hb)
   have n10_ := Aside0.mk (rb HO827.out hb)
   have n11_ := Aside0.mk (vb HO830.out hb)
   have n12_ := Aside0.mk (vb HO833.out hb)
   have n13_ := Aside0.mk (rb HO838.out hb)
   have n14_ := Aside0.mk (vb HO841.out hb)
   have n15_ := Aside0.mk (rb HO845.out hb)
   have n16_ := Aside0.mk (vb HO848.out hb)
   have n17_ := Aside0.mk (rb HO852.out hb)
   have n18_ := Aside0.mk (Kd.V_lower (Kd.V_mono (ok' := fun k_ => OB Ao26 y789 co26 k_ ∧ OB Ao30 y795 co30 k_ ∧ OB Ao44 y810 co44 k_ ∧ OB Ao61 y825 co61 k_ ∧ some k_ ≠ (v837 : Value).ownBlock ∧ some k_ ≠ (v844 : Value).ownBlock ∧ OB Ao89 y850 co89 k_ ∧ k_ ≠ gb808 ∧ k_ ≠ gb809 ∧ k_ ≠ gb823 ∧ k_ ≠ gb824 ∧ k_ ≠ gb835) ho0 (fun k_ hk_ => ⟨(Kd.fresh' (Kd.R_lt HO791.out) k_ hk_), (Kd.fresh' (Kd.R_lt HO797.out) k_ hk_), (Kd.fresh' (Kd.R_lt HO812.out) k_ hk_), (Kd.fresh' (Kd.R_lt HO827.out) k_ hk_), (Kd.fresh' (Kd.R_lt HO838.out) k_ hk_), (Kd.fresh' (Kd.R_lt HO845.out) k_ hk_), (Kd.fresh' (Kd.R_lt HO852.out) k_ hk_), (fb BK808.out k_ hk_), (fb BK809.out k_ hk_), (fb BK823.out k_ hk_), (fb BK824.out k_ hk_), (fb BK835.out k_ hk_)⟩)) (bz HB.out))
   have n19_ := Aside0.mk (bb BK808.out hb)
   have n20_ := Aside0.mk (bb BK809.out hb)
   have n21_ := Aside0.mk (bb BK823.out hb)
   have n22_ := Aside0.mk (bb BK824.out hb)
   have n23_ := Aside0.mk (bb BK835.out hb)
   have n24_ := Aside0.mk (bs HB.out hb)
   have z_HO858 := fun (h0_ : b 23 = true) => (show Kd.R (Kd.int .u64) 27 w90 w.heap.size (fun k_ => OB Ao26 y789 co26 k_ ∧ OB Ao30 y795 co30 k_ ∧ OB Ao44 y810 co44 k_ ∧ OB Ao61 y825 co61 k_) v857 y856 from by first | exact (Kd.R_below ((Q_HO858 h0_)) hb) | exact Kd.R_mono (Kd.R_below ((Q_HO858 h0_)) hb) (fun _ h_ => by first | trivial | exact h_ | exact h_.1))
   have z_HO867 := fun (h0_ : b 26 = true) => (show Kd.R (Kd.int .u64) 27 w90 w.heap.size (fun k_ => OB Ao26 y789 co26 k_ ∧ OB Ao30 y795 co30 k_ ∧ OB Ao44 y810 co44 k_ ∧ OB Ao61 y825 co61 k_) v866 y865 from by first | exact (Kd.R_below ((Q_HO867 h0_)) hb) | exact Kd.R_mono (Kd.R_below ((Q_HO867 h0_)) hb) (fun _ h_ => by first | trivial | exact h_ | exact h_.1))
   clear HO791
   clear HO794
   clear HO797
   clear HO800
   clear HO803
   clear HO806
   clear HO812
   clear HO815
   clear HO818
   clear HO821
   clear HO827
   clear HO830
   clear HO833
   clear HO838
   clear HO841
   clear HO845
   clear HO848
   clear HO852
   clear BK808
   clear BK809
   clear BK823
   clear BK824
   clear BK835
   clear HB
   have HO791 := n0_
   have HO794 := n1_
   have HO797 := n2_
   have HO800 := n3_
   have HO803 := n4_
   have HO806 := n5_
   have HO812 := n6_
   have HO815 := n7_
   have HO818 := n8_
   have HO821 := n9_
   have HO827 := n10_
   have HO830 := n11_
   have HO833 := n12_
   have HO838 := n13_
   have HO841 := n14_
   have HO845 := n15_
   have HO848 := n16_
   have HO852 := n17_
   have HO855 := n18_
   have BK808 := n19_
   have BK809 := n20_
   have BK823 := n21_
   have BK824 := n22_
   have BK835 := n23_
   have HB := n24_
   clear n0_ n1_ n2_ n3_ n4_ n5_ n6_ n7_ n8_ n9_ n10_ n11_ n12_ n13_ n14_ n15_ n16_ n17_ n18_ n19_ n20_ n21_ n22_ n23_ n24_
   (try clear hb)
   (try clear hb2)
   (try clear hk)
   (try clear hi)
   (try clear ho0)
   refine hK.out _ _ ⟨v837, v840, v844, v847, .slice Ao89 y850.length co89, v854, v857, v860, v863, v866, v869, m5_, m12_, (.agg #[v854]), m24_, m25_, m27_, (by rw [ha.out]; exact putSel_upk 21 hb_ rfl rfl rfl), HO791.out, HO794.out, HO797.out, HO800.out, HO803.out, HO806.out, HO812.out, HO815.out, HO818.out, HO821.out, HO827.out, HO830.out, HO833.out, BK808.out, BK809.out, BK823.out, BK824.out, BK835.out, (by repeat (first | (with_reducible first | exact HB.out | apply below_alloc | apply pw_below_drewN | apply below_drew1 | refine below_set ?_ GE808.out | refine below_set ?_ GE809.out | refine below_set ?_ GE823.out | refine below_set ?_ GE824.out | refine below_set ?_ GE835.out) | exact HB.out)), fun _ => HO838.out, fun _ => HO841.out, fun _ => HO845.out, fun _ => HO848.out, fun _ => HO852.out, fun _ => (Kd.V_mono HO855.out (fun _ hk => ⟨hk.1, ⟨hk.2.1, ⟨hk.2.2.1, ⟨hk.2.2.2.1, ⟨hk.2.2.2.2.2.2.2.1, ⟨hk.2.2.2.2.2.2.2.2.1, ⟨hk.2.2.2.2.2.2.2.2.2.1, ⟨hk.2.2.2.2.2.2.2.2.2.2.1, hk.2.2.2.2.2.2.2.2.2.2.2⟩⟩⟩⟩⟩⟩⟩⟩)), z_HO858, ab0 (hoff 24 (by kernel_rfl)), ab0 (hoff 25 (by kernel_rfl)), z_HO867, ab0 (hoff 27 (by kernel_rfl)), Q_X5_, Q_X12_, fun _ => rfl, ab0 (hoff 24 (by kernel_rfl)), ab0 (hoff 25 (by kernel_rfl)), ab0 (hoff 27 (by kernel_rfl))⟩
  refine steps_cons ?_ ?_
  ·intro b a w' hx0_ hb_ hon hoff
   refine ex8_ hx0_ fun v837 v840 v844 v847 v851 v854 v857 v860 hx1_ => ex8_ hx1_ fun v863 v866 v869 m5_ m12_ m22_ m24_ m25_ hx2_ => ex1_ hx2_ fun m27_ hx3_ => and8A hx3_ fun ha HO791 HO794 HO797 HO800 HO803 HO806 hy1_ => and8A hy1_ fun HO812 HO815 HO818 HO821 HO827 HO830 HO833 hy2_ => and7A hy2_ fun BK808 BK809 BK823 BK824 BK835 HB hy3_ => and8 hy3_ fun Q_HO838 Q_HO841 Q_HO845 Q_HO848 Q_HO852 Q_HO855 Q_HO858 hy4_ => and8 hy4_ fun Q_HO861 Q_HO864 Q_HO867 Q_HO870 Q_X5_ Q_X12_ Q_X22_ hy5_ => ?_
   have Q_X24_ := hy5_.1; have Q_X25_ := hy5_.2.1; have Q_X27_ := hy5_.2.2; clear hx0_ hx1_ hx2_ hx3_ hy1_ hy2_ hy3_ hy4_ hy5_
   refine ⟨_, rfl, fun K hK => ?_⟩
   have e52 : a.tmps[52]? = some (.bool (t822 == 8)) := by rw [ha.out]; exact putSel_on (e := (20, 52, .bool (t822 == 8))) 19 rfl rfl (hon 20 (by kernel_rfl)) rfl
   have HO838 := Aside0.mk (Q_HO838 (hon 4 (by kernel_rfl)))
   have HO841 := Aside0.mk (Q_HO841 (hon 5 (by kernel_rfl)))
   have HO845 := Aside0.mk (Q_HO845 (hon 11 (by kernel_rfl)))
   have HO848 := Aside0.mk (Q_HO848 (hon 12 (by kernel_rfl)))
   refine Kd.R_lit_step (Kd.int .u64) _ 27 ?hg (N := 55) ?hd (xs := ([18] : List Int)) (inner := [.int .u64 18]) (ok := fun _ => True) (okp := fun _ => True) ?hr ?hp (fun _ hk => hk) trivial (Below.refl _ _) (Nat.le_refl _) (by simp) ?_; (case hd => rfl); (case hg => exact (wanted_on rfl rfl rfl (e52.trans (by first | rfl | (simp [*]; done))))); (case hr => first | (go_simp; done) | (go_simp; rfl)); (case hp => exact (Reps.one (show Kd.M (Kd.int .u64) _ _ _ 18 [.int .u64 18] from rfl) (Reps.none _ _)))
   intro v857 w87 ho88 hb hg_ hnew_
   clear hg_ hnew_
   (first | rw [← Ny856.out] at ho88 | (simp only [Int.reduceToNat] at ho88; rw [← Ny856.out] at ho88))
   have n0_ := Aside0.mk (Kd.R_elder' HO791.out (Kd.R_base ho88) hb)
   have n1_ := Aside0.mk (Kd.V_elder' HO794.out (Kd.R_base ho88) hb)
   have n2_ := Aside0.mk (Kd.R_elder' HO797.out (Kd.R_base ho88) hb)
   have n3_ := Aside0.mk (Kd.V_elder' HO800.out (Kd.R_base ho88) hb)
   have n4_ := Aside0.mk (Kd.V_elder' HO803.out (Kd.R_base ho88) hb)
   have n5_ := Aside0.mk (Kd.V_elder' HO806.out (Kd.R_base ho88) hb)
   have n6_ := Aside0.mk (Kd.R_elder' HO812.out (Kd.R_base ho88) hb)
   have n7_ := Aside0.mk (Kd.V_elder' HO815.out (Kd.R_base ho88) hb)
   have n8_ := Aside0.mk (Kd.V_elder' HO818.out (Kd.R_base ho88) hb)
   have n9_ := Aside0.mk (Kd.V_elder' HO821.out (Kd.R_base ho88) hb)
   have n10_ := Aside0.mk (Kd.R_elder' HO827.out (Kd.R_base ho88) hb)
   have n11_ := Aside0.mk (Kd.V_elder' HO830.out (Kd.R_base ho88) hb)
   have n12_ := Aside0.mk (Kd.V_elder' HO833.out (Kd.R_base ho88) hb)
   have n13_ := Aside0.mk (Kd.R_elder' HO838.out (Kd.R_base ho88) hb)
   have n14_ := Aside0.mk (Kd.V_elder' HO841.out (Kd.R_base ho88) hb)
   have n15_ := Aside0.mk (Kd.R_elder' HO845.out (Kd.R_base ho88) hb)
   have n16_ := Aside0.mk (Kd.V_elder' HO848.out (Kd.R_base ho88) hb)
   have n17_ := Aside0.mk (Kd.R_lower (Kd.R_new' (Kd.R_new' (Kd.R_new' (Kd.R_new' (Kd.R_new' (Kd.R_new' ho88 (Kd.R_lt HO791.out)) (Kd.R_lt HO797.out)) (Kd.R_lt HO812.out)) (Kd.R_lt HO827.out)) (Kd.R_lt HO838.out)) (Kd.R_lt HO845.out)) (bz HB.out))
   have n18_ := Aside0.mk (bb BK808.out hb)
   have n19_ := Aside0.mk (bb BK809.out hb)
   have n20_ := Aside0.mk (bb BK823.out hb)
   have n21_ := Aside0.mk (bb BK824.out hb)
   have n22_ := Aside0.mk (bb BK835.out hb)
   have n23_ := Aside0.mk (bs HB.out hb)
   have z_HO852 := fun (h0_ : b 21 = true) => (show Kd.R (Kd.int .u64) 27 w87 w.heap.size (fun k_ => OB Ao26 y789 co26 k_ ∧ OB Ao30 y795 co30 k_ ∧ OB Ao44 y810 co44 k_ ∧ OB Ao61 y825 co61 k_) v851 y850 from by first | exact (Kd.R_elder' ((Q_HO852 h0_)) (Kd.R_base ho88) hb) | exact Kd.R_mono (Kd.R_elder' ((Q_HO852 h0_)) (Kd.R_base ho88) hb) (fun _ h_ => by first | trivial | exact h_ | exact h_.1))
   have z_HO855 := fun (h0_ : b 22 = true) => (show Kd.V (Kd.int .u64) 27 w87 w.heap.size (fun k_ => OB Ao26 y789 co26 k_ ∧ OB Ao30 y795 co30 k_ ∧ OB Ao44 y810 co44 k_ ∧ OB Ao61 y825 co61 k_ ∧ k_ ≠ gb808 ∧ k_ ≠ gb809 ∧ k_ ≠ gb823 ∧ k_ ≠ gb824 ∧ k_ ≠ gb835) v854 t853 from by first | exact (Kd.V_elder' ((Q_HO855 h0_)) (Kd.R_base ho88) hb) | exact Kd.V_mono (Kd.V_elder' ((Q_HO855 h0_)) (Kd.R_base ho88) hb) (fun _ h_ => by first | trivial | exact h_ | exact h_.1))
   have z_HO867 := fun (h0_ : b 26 = true) => (show Kd.R (Kd.int .u64) 27 w87 w.heap.size (fun k_ => OB Ao26 y789 co26 k_ ∧ OB Ao30 y795 co30 k_ ∧ OB Ao44 y810 co44 k_ ∧ OB Ao61 y825 co61 k_) v866 y865 from by first | exact (Kd.R_elder' ((Q_HO867 h0_)) (Kd.R_base ho88) hb) | exact Kd.R_mono (Kd.R_elder' ((Q_HO867 h0_)) (Kd.R_base ho88) hb) (fun _ h_ => by first | trivial | exact h_ | exact h_.1))
   clear HO791
   clear HO794
   clear HO797
   clear HO800
   clear HO803
   clear HO806
   clear HO812
   clear HO815
   clear HO818
   clear HO821
   clear HO827
   clear HO830
   clear HO833
   clear HO838
   clear HO841
   clear HO845
   clear HO848
   clear BK808
   clear BK809
   clear BK823
   clear BK824
   clear BK835
   clear HB
   have HO791 := n0_
   have HO794 := n1_
   have HO797 := n2_
   have HO800 := n3_
   have HO803 := n4_
   have HO806 := n5_
   have HO812 := n6_
   have HO815 := n7_
   have HO818 := n8_
   have HO821 := n9_
   have HO827 := n10_
   have HO830 := n11_
   have HO833 := n12_
   have HO838 := n13_
   have HO841 := n14_
   have HO845 := n15_
   have HO848 := n16_
   have HO858 := n17_
   have BK808 := n18_
   have BK809 := n19_
   have BK823 := n20_
   have BK824 := n21_
   have BK835 := n22_
   have HB := n23_
   clear n0_ n1_ n2_ n3_ n4_ n5_ n6_ n7_ n8_ n9_ n10_ n11_ n12_ n13_ n14_ n15_ n16_ n17_ n18_ n19_ n20_ n21_ n22_ n23_
   clear hb ho88
   refine hK.out _ _ ⟨v837, v840, v844, v847, v851, v854, v857, v860, v863, v866, v869, m5_, m12_, m22_, m24_, m25_, m27_, (by rw [ha.out]; exact putSel_upk 22 hb_ rfl rfl rfl), (Kd.R_mono HO791.out (fun _ hk => ⟨hk.1.1, ⟨hk.1.2.1, hk.1.2.2⟩⟩)), (Kd.V_mono HO794.out (fun _ hk => ⟨hk.1.1, ⟨hk.1.2.1, ⟨hk.1.2.2.1, ⟨hk.1.2.2.2.1, ⟨hk.1.2.2.2.2.1, ⟨hk.1.2.2.2.2.2.1, ⟨hk.1.2.2.2.2.2.2.1, ⟨hk.1.2.2.2.2.2.2.2.1, hk.1.2.2.2.2.2.2.2.2⟩⟩⟩⟩⟩⟩⟩⟩)), (Kd.R_mono HO797.out (fun _ hk => ⟨hk.1.1, ⟨hk.1.2.1, hk.1.2.2⟩⟩)), (Kd.V_mono HO800.out (fun _ hk => ⟨hk.1.1, ⟨hk.1.2.1, ⟨hk.1.2.2.1, ⟨hk.1.2.2.2.1, ⟨hk.1.2.2.2.2.1, ⟨hk.1.2.2.2.2.2.1, ⟨hk.1.2.2.2.2.2.2.1, ⟨hk.1.2.2.2.2.2.2.2.1, hk.1.2.2.2.2.2.2.2.2⟩⟩⟩⟩⟩⟩⟩⟩)), (Kd.V_mono HO803.out (fun _ hk => ⟨hk.1.1, ⟨hk.1.2.1, ⟨hk.1.2.2.1, ⟨hk.1.2.2.2.1, ⟨hk.1.2.2.2.2.1, ⟨hk.1.2.2.2.2.2.1, ⟨hk.1.2.2.2.2.2.2.1, ⟨hk.1.2.2.2.2.2.2.2.1, hk.1.2.2.2.2.2.2.2.2⟩⟩⟩⟩⟩⟩⟩⟩)), (Kd.V_mono HO806.out (fun _ hk => ⟨hk.1.1, ⟨hk.1.2.1, ⟨hk.1.2.2.1, ⟨hk.1.2.2.2.1, ⟨hk.1.2.2.2.2.1, ⟨hk.1.2.2.2.2.2.1, ⟨hk.1.2.2.2.2.2.2.1, ⟨hk.1.2.2.2.2.2.2.2.1, hk.1.2.2.2.2.2.2.2.2⟩⟩⟩⟩⟩⟩⟩⟩)), (Kd.R_mono HO812.out (fun _ hk => ⟨hk.1.1, ⟨hk.1.2.1, hk.1.2.2⟩⟩)), (Kd.V_mono HO815.out (fun _ hk => ⟨hk.1.1, ⟨hk.1.2.1, ⟨hk.1.2.2.1, ⟨hk.1.2.2.2.1, ⟨hk.1.2.2.2.2.1, ⟨hk.1.2.2.2.2.2.1, ⟨hk.1.2.2.2.2.2.2.1, ⟨hk.1.2.2.2.2.2.2.2.1, hk.1.2.2.2.2.2.2.2.2⟩⟩⟩⟩⟩⟩⟩⟩)), (Kd.V_mono HO818.out (fun _ hk => ⟨hk.1.1, ⟨hk.1.2.1, ⟨hk.1.2.2.1, ⟨hk.1.2.2.2.1, ⟨hk.1.2.2.2.2.1, ⟨hk.1.2.2.2.2.2.1, ⟨hk.1.2.2.2.2.2.2.1, ⟨hk.1.2.2.2.2.2.2.2.1, hk.1.2.2.2.2.2.2.2.2⟩⟩⟩⟩⟩⟩⟩⟩)), (Kd.V_mono HO821.out (fun _ hk => ⟨hk.1.1, ⟨hk.1.2.1, ⟨hk.1.2.2.1, ⟨hk.1.2.2.2.1, ⟨hk.1.2.2.2.2.1, ⟨hk.1.2.2.2.2.2.1, ⟨hk.1.2.2.2.2.2.2.1, ⟨hk.1.2.2.2.2.2.2.2.1, hk.1.2.2.2.2.2.2.2.2⟩⟩⟩⟩⟩⟩⟩⟩)), (Kd.R_mono HO827.out (fun _ hk => ⟨hk.1.1, ⟨hk.1.2.1, hk.1.2.2⟩⟩)), (Kd.V_mono HO830.out (fun _ hk => ⟨hk.1.1, ⟨hk.1.2.1, ⟨hk.1.2.2.1, ⟨hk.1.2.2.2.1, ⟨hk.1.2.2.2.2.1, ⟨hk.1.2.2.2.2.2.1, ⟨hk.1.2.2.2.2.2.2.1, ⟨hk.1.2.2.2.2.2.2.2.1, hk.1.2.2.2.2.2.2.2.2⟩⟩⟩⟩⟩⟩⟩⟩)), (Kd.V_mono HO833.out (fun _ hk => ⟨hk.1.1, ⟨hk.1.2.1, ⟨hk.1.2.2.1, ⟨hk.1.2.2.2.1, ⟨hk.1.2.2.2.2.1, ⟨hk.1.2.2.2.2.2.1, ⟨hk.1.2.2.2.2.2.2.1, ⟨hk.1.2.2.2.2.2.2.2.1, hk.1.2.2.2.2.2.2.2.2⟩⟩⟩⟩⟩⟩⟩⟩)), BK808.out, BK809.out, BK823.out, BK824.out, BK835.out, (by repeat (first | (with_reducible first | exact HB.out | apply below_alloc | apply pw_below_drewN | apply below_drew1 | refine below_set ?_ GE808.out | refine below_set ?_ GE809.out | refine below_set ?_ GE823.out | refine below_set ?_ GE824.out | refine below_set ?_ GE835.out) | exact HB.out)), fun _ => (Kd.R_mono HO838.out (fun _ hk => ⟨hk.1.1, ⟨hk.1.2.1, ⟨hk.1.2.2.1, hk.1.2.2.2⟩⟩⟩)), fun _ => (Kd.V_mono HO841.out (fun _ hk => ⟨hk.1.1, ⟨hk.1.2.1, ⟨hk.1.2.2.1, ⟨hk.1.2.2.2.1, ⟨hk.1.2.2.2.2.1, ⟨hk.1.2.2.2.2.2.1, ⟨hk.1.2.2.2.2.2.2.1, ⟨hk.1.2.2.2.2.2.2.2.1, hk.1.2.2.2.2.2.2.2.2⟩⟩⟩⟩⟩⟩⟩⟩)), fun _ => (Kd.R_mono HO845.out (fun _ hk => ⟨hk.1.1, ⟨hk.1.2.1, ⟨hk.1.2.2.1, hk.1.2.2.2⟩⟩⟩)), fun _ => (Kd.V_mono HO848.out (fun _ hk => ⟨hk.1.1, ⟨hk.1.2.1, ⟨hk.1.2.2.1, ⟨hk.1.2.2.2.1, ⟨hk.1.2.2.2.2.1, ⟨hk.1.2.2.2.2.2.1, ⟨hk.1.2.2.2.2.2.2.1, ⟨hk.1.2.2.2.2.2.2.2.1, hk.1.2.2.2.2.2.2.2.2⟩⟩⟩⟩⟩⟩⟩⟩)), z_HO852, z_HO855, fun _ => (Kd.R_mono HO858.out (fun _ hk => ⟨hk.1.1.1.1.1.2, ⟨hk.1.1.1.1.2, ⟨hk.1.1.1.2, hk.1.1.2⟩⟩⟩)), ab0 (hoff 24 (by kernel_rfl)), ab0 (hoff 25 (by kernel_rfl)), z_HO867, ab0 (hoff 27 (by kernel_rfl)), Q_X5_, Q_X12_, Q_X22_, ab0 (hoff 24 (by kernel_rfl)), ab0 (hoff 25 (by kernel_rfl)), ab0 (hoff 27 (by kernel_rfl))⟩
  refine steps_cons ?_ ?_
  ·intro b a w' hx0_ hb_ hon hoff
   refine ex8_ hx0_ fun v837 v840 v844 v847 v851 v854 v857 v860 hx1_ => ex8_ hx1_ fun v863 v866 v869 m5_ m12_ m22_ m24_ m25_ hx2_ => ex1_ hx2_ fun m27_ hx3_ => and8A hx3_ fun ha HO791 HO794 HO797 HO800 HO803 HO806 hy1_ => and8A hy1_ fun HO812 HO815 HO818 HO821 HO827 HO830 HO833 hy2_ => and7A hy2_ fun BK808 BK809 BK823 BK824 BK835 HB hy3_ => and8 hy3_ fun Q_HO838 Q_HO841 Q_HO845 Q_HO848 Q_HO852 Q_HO855 Q_HO858 hy4_ => and8 hy4_ fun Q_HO861 Q_HO864 Q_HO867 Q_HO870 Q_X5_ Q_X12_ Q_X22_ hy5_ => ?_
   have Q_X24_ := hy5_.1; have Q_X25_ := hy5_.2.1; have Q_X27_ := hy5_.2.2; clear hx0_ hx1_ hx2_ hx3_ hy1_ hy2_ hy3_ hy4_ hy5_
   refine ⟨_, rfl, fun K hK => ?_⟩
   have e55 : a.tmps[55]? = some (v857) := by rw [ha.out]; exact putSel_on (e := (23, 55, v857)) 22 rfl rfl (hon 23 (by kernel_rfl)) rfl
   have e52 : a.tmps[52]? = some (.bool (t822 == 8)) := by rw [ha.out]; exact putSel_on (e := (20, 52, .bool (t822 == 8))) 19 rfl rfl (hon 20 (by kernel_rfl)) rfl
   have HO838 := Aside0.mk (Q_HO838 (hon 4 (by kernel_rfl)))
   have HO841 := Aside0.mk (Q_HO841 (hon 5 (by kernel_rfl)))
   have HO845 := Aside0.mk (Q_HO845 (hon 11 (by kernel_rfl)))
   have HO848 := Aside0.mk (Q_HO848 (hon 12 (by kernel_rfl)))
   have HO852 := Aside0.mk (Q_HO852 (hon 21 (by kernel_rfl)))
   have HO855 := Aside0.mk (Q_HO855 (hon 22 (by kernel_rfl)))
   have HO858 := Aside0.mk (Q_HO858 (hon 23 (by kernel_rfl)))
   obtain ⟨Ao93, co93, eo93⟩ := Kd.R_slice HO858.out
   (first | subst eo93 | (injection eo93 with f1_ f2_ f3_; have f4_ := f1_.symm; have f5_ := f3_.symm; clear f1_ f2_ f3_; subst f4_; subst f5_))
   refine goes_ Try.func14 (by kernel_rfl) rfl #[.slice Ao93 y856.length co93] (wanted_on rfl rfl rfl (e52.trans (by first | rfl | (simp [*]; done)))) rfl rfl (by first | (simp only [List.map_toArray, List.map_cons, List.map_nil, Act.eval, Array.getD_eq_getD_getElem?, Option.getD_some, e55, e52]; done) | (simp only [List.map_toArray, List.map_cons, List.map_nil, Act.eval, Array.getD_eq_getD_getElem?, Option.getD_some, e55, e52]; rfl)) ?_
   with_reducible refine (nat_Of.calls k _ _ y856 t859 _ ?side1 ?side2 A17.out).mono ?_
   (case side1 => exact cr HO858.out)
   (case side2 => exact (Kd.R_reads' HO858.out).2.1)
   rintro e w94 ⟨v860, rfl, ho0, hb⟩
   refine ⟨_, rfl, ?_⟩
   have n0_ := Aside0.mk (rb HO791.out hb)
   have n1_ := Aside0.mk (vb HO794.out hb)
   have n2_ := Aside0.mk (rb HO797.out hb)
   have n3_ := Aside0.mk (vb HO800.out hb)
   have n4_ := Aside0.mk (vb HO803.out hb)
   have n5_ := Aside0.mk (vb HO806.out hb)
   have n6_ := Aside0.mk (rb HO812.out hb)
   have n7_ := Aside0.mk (vb HO815.out hb)
   have n8_ := Aside0.mk (vb HO818.out hb)
   have n9_ := Aside0.mk (vb HO821.out hb)
   have n10_ := Aside0.mk (rb HO827.out hb)
   have n11_ := Aside0.mk (vb HO830.out hb)
   have n12_ := Aside0.mk (vb HO833.out hb)
   have n13_ := Aside0.mk (rb HO838.out hb)
   have n14_ := Aside0.mk (vb HO841.out hb)
   have n15_ := Aside0.mk (rb HO845.out hb)
   have n16_ := Aside0.mk (vb HO848.out hb)
   have n17_ := Aside0.mk (rb HO852.out hb)
   have n18_ := Aside0.mk (vb HO855.out hb)
   have n19_ := Aside0.mk (rb HO858.out hb)
   have n20_ := Aside0.mk (Kd.V_lower (Kd.V_mono (ok' := fun k_ => OB Ao26 y789 co26 k_ ∧ OB Ao30 y795 co30 k_ ∧ OB Ao44 y810 co44 k_ ∧ OB Ao61 y825 co61 k_ ∧ some k_ ≠ (v837 : Value).ownBlock ∧ some k_ ≠ (v844 : Value).ownBlock ∧ some k_ ≠ (v851 : Value).ownBlock ∧ OB Ao93 y856 co93 k_ ∧ k_ ≠ gb808 ∧ k_ ≠ gb809 ∧ k_ ≠ gb823 ∧ k_ ≠ gb824 ∧ k_ ≠ gb835) ho0 (fun k_ hk_ => ⟨(Kd.fresh' (Kd.R_lt HO791.out) k_ hk_), (Kd.fresh' (Kd.R_lt HO797.out) k_ hk_), (Kd.fresh' (Kd.R_lt HO812.out) k_ hk_), (Kd.fresh' (Kd.R_lt HO827.out) k_ hk_), (Kd.fresh' (Kd.R_lt HO838.out) k_ hk_), (Kd.fresh' (Kd.R_lt HO845.out) k_ hk_), (Kd.fresh' (Kd.R_lt HO852.out) k_ hk_), (Kd.fresh' (Kd.R_lt HO858.out) k_ hk_), (fb BK808.out k_ hk_), (fb BK809.out k_ hk_), (fb BK823.out k_ hk_), (fb BK824.out k_ hk_), (fb BK835.out k_ hk_)⟩)) (bz HB.out))
   have n21_ := Aside0.mk (bb BK808.out hb)
   have n22_ := Aside0.mk (bb BK809.out hb)
   have n23_ := Aside0.mk (bb BK823.out hb)
   have n24_ := Aside0.mk (bb BK824.out hb)
   have n25_ := Aside0.mk (bb BK835.out hb)
   have n26_ := Aside0.mk (bs HB.out hb)
   have z_HO867 := fun (h0_ : b 26 = true) => (show Kd.R (Kd.int .u64) 27 w94 w.heap.size (fun k_ => OB Ao26 y789 co26 k_ ∧ OB Ao30 y795 co30 k_ ∧ OB Ao44 y810 co44 k_ ∧ OB Ao61 y825 co61 k_) v866 y865 from by first | exact (Kd.R_below ((Q_HO867 h0_)) hb) | exact Kd.R_mono (Kd.R_below ((Q_HO867 h0_)) hb) (fun _ h_ => by first | trivial | exact h_ | exact h_.1))
   clear HO791
   clear HO794
   clear HO797
   clear HO800
   clear HO803
   clear HO806
   clear HO812
   clear HO815
   clear HO818
   clear HO821
   clear HO827
   clear HO830
   clear HO833
   clear HO838
   clear HO841
   clear HO845
   clear HO848
   clear HO852
   clear HO855
   clear HO858
   clear BK808
   clear BK809
   clear BK823
   clear BK824
   clear BK835
   clear HB
   have HO791 := n0_
   have HO794 := n1_
   have HO797 := n2_
   have HO800 := n3_
   have HO803 := n4_
   have HO806 := n5_
   have HO812 := n6_
   have HO815 := n7_
   have HO818 := n8_
   have HO821 := n9_
   have HO827 := n10_
   have HO830 := n11_
   have HO833 := n12_
   have HO838 := n13_
   have HO841 := n14_
   have HO845 := n15_
   have HO848 := n16_
   have HO852 := n17_
   have HO855 := n18_
   have HO858 := n19_
   have HO861 := n20_
   have BK808 := n21_
   have BK809 := n22_
   have BK823 := n23_
   have BK824 := n24_
   have BK835 := n25_
   have HB := n26_
   clear n0_ n1_ n2_ n3_ n4_ n5_ n6_ n7_ n8_ n9_ n10_ n11_ n12_ n13_ n14_ n15_ n16_ n17_ n18_ n19_ n20_ n21_ n22_ n23_ n24_ n25_ n26_
   (try clear hb)
   (try clear hb2)
   (try clear hk)
   (try clear hi)
   (try clear ho0)
   refine hK.out _ _ ⟨v837, v840, v844, v847, v851, v854, .slice Ao93 y856.length co93, v860, v863, v866, v869, m5_, m12_, m22_, (.agg #[v860]), m25_, m27_, (by rw [ha.out]; exact putSel_upk 23 hb_ rfl rfl rfl), HO791.out, HO794.out, HO797.out, HO800.out, HO803.out, HO806.out, HO812.out, HO815.out, HO818.out, HO821.out, HO827.out, HO830.out, HO833.out, BK808.out, BK809.out, BK823.out, BK824.out, BK835.out, (by repeat (first | (with_reducible first | exact HB.out | apply below_alloc | apply pw_below_drewN | apply below_drew1 | refine below_set ?_ GE808.out | refine below_set ?_ GE809.out | refine below_set ?_ GE823.out | refine below_set ?_ GE824.out | refine below_set ?_ GE835.out) | exact HB.out)), fun _ => HO838.out, fun _ => HO841.out, fun _ => HO845.out, fun _ => HO848.out, fun _ => HO852.out, fun _ => HO855.out, fun _ => HO858.out, fun _ => (Kd.V_mono HO861.out (fun _ hk => ⟨hk.1, ⟨hk.2.1, ⟨hk.2.2.1, ⟨hk.2.2.2.1, ⟨hk.2.2.2.2.2.2.2.2.1, ⟨hk.2.2.2.2.2.2.2.2.2.1, ⟨hk.2.2.2.2.2.2.2.2.2.2.1, ⟨hk.2.2.2.2.2.2.2.2.2.2.2.1, hk.2.2.2.2.2.2.2.2.2.2.2.2⟩⟩⟩⟩⟩⟩⟩⟩)), ab0 (hoff 25 (by kernel_rfl)), z_HO867, ab0 (hoff 27 (by kernel_rfl)), Q_X5_, Q_X12_, Q_X22_, fun _ => rfl, ab0 (hoff 25 (by kernel_rfl)), ab0 (hoff 27 (by kernel_rfl))⟩
  refine steps_cons ?_ ?_
  ·intro b a w' hx0_ hb_ hon hoff
   refine ex8_ hx0_ fun v837 v840 v844 v847 v851 v854 v857 v860 hx1_ => ex8_ hx1_ fun v863 v866 v869 m5_ m12_ m22_ m24_ m25_ hx2_ => ex1_ hx2_ fun m27_ hx3_ => and8A hx3_ fun ha HO791 HO794 HO797 HO800 HO803 HO806 hy1_ => and8A hy1_ fun HO812 HO815 HO818 HO821 HO827 HO830 HO833 hy2_ => and7A hy2_ fun BK808 BK809 BK823 BK824 BK835 HB hy3_ => and8 hy3_ fun Q_HO838 Q_HO841 Q_HO845 Q_HO848 Q_HO852 Q_HO855 Q_HO858 hy4_ => and8 hy4_ fun Q_HO861 Q_HO864 Q_HO867 Q_HO870 Q_X5_ Q_X12_ Q_X22_ hy5_ => ?_
   have Q_X24_ := hy5_.1; have Q_X25_ := hy5_.2.1; have Q_X27_ := hy5_.2.2; clear hx0_ hx1_ hx2_ hx3_ hy1_ hy2_ hy3_ hy4_ hy5_
   refine ⟨_, rfl, fun K hK => ?_⟩
   have e54 : a.tmps[54]? = some (m22_) := by rw [ha.out]; exact putSel_on (e := (22, 54, m22_)) 21 rfl rfl (hon 22 (by kernel_rfl)) rfl
   rw [Q_X22_ (hon 22 (by kernel_rfl))] at e54
   have e56 : a.tmps[56]? = some (m24_) := by rw [ha.out]; exact putSel_on (e := (24, 56, m24_)) 23 rfl rfl (hon 24 (by kernel_rfl)) rfl
   rw [Q_X24_ (hon 24 (by kernel_rfl))] at e56
   have e52 : a.tmps[52]? = some (.bool (t822 == 8)) := by rw [ha.out]; exact putSel_on (e := (20, 52, .bool (t822 == 8))) 19 rfl rfl (hon 20 (by kernel_rfl)) rfl
   have HO838 := Aside0.mk (Q_HO838 (hon 4 (by kernel_rfl)))
   have HO841 := Aside0.mk (Q_HO841 (hon 5 (by kernel_rfl)))
   have HO845 := Aside0.mk (Q_HO845 (hon 11 (by kernel_rfl)))
   have HO848 := Aside0.mk (Q_HO848 (hon 12 (by kernel_rfl)))
   have HO852 := Aside0.mk (Q_HO852 (hon 21 (by kernel_rfl)))
   have HO855 := Aside0.mk (Q_HO855 (hon 22 (by kernel_rfl)))
   have HO858 := Aside0.mk (Q_HO858 (hon 23 (by kernel_rfl)))
   have HO861 := Aside0.mk (Q_HO861 (hon 24 (by kernel_rfl)))
   obtain ⟨Ao95, co95, eo95⟩ := Kd.V_slice HO855.out
   (first | subst eo95 | (injection eo95 with f1_ f2_ f3_; have f4_ := f1_.symm; have f5_ := f3_.symm; clear f1_ f2_ f3_; subst f4_; subst f5_))
   obtain ⟨Ao96, co96, eo96⟩ := Kd.V_slice HO861.out
   (first | subst eo96 | (injection eo96 with f1_ f2_ f3_; have f4_ := f1_.symm; have f5_ := f3_.symm; clear f1_ f2_ f3_; subst f4_; subst f5_))
   refine goes_ Try.func40 (by kernel_rfl) rfl #[.agg #[.slice Ao95 t853.length co95], .agg #[.slice Ao96 t859.length co96]] (wanted_on rfl rfl rfl (e52.trans (by first | rfl | (simp [*]; done)))) rfl rfl (by first | (simp only [List.map_toArray, List.map_cons, List.map_nil, Act.eval, Array.getD_eq_getD_getElem?, Option.getD_some, e54, e56, e52]; done) | (simp only [List.map_toArray, List.map_cons, List.map_nil, Act.eval, Array.getD_eq_getD_getElem?, Option.getD_some, e54, e56, e52]; rfl)) ?_
   with_reducible refine (quot_Gcd.calls k (fun k_ => (OB Ao26 y789 co26 k_ ∧ (OB Ao30 y795 co30 k_ ∧ (OB Ao44 y810 co44 k_ ∧ (OB Ao61 y825 co61 k_ ∧ (k_ ≠ gb808 ∧ (k_ ≠ gb809 ∧ (k_ ≠ gb823 ∧ (k_ ≠ gb824 ∧ k_ ≠ gb835))))))))) _ _ t853 (fun k_ => (OB Ao26 y789 co26 k_ ∧ (OB Ao30 y795 co30 k_ ∧ (OB Ao44 y810 co44 k_ ∧ (OB Ao61 y825 co61 k_ ∧ (k_ ≠ gb808 ∧ (k_ ≠ gb809 ∧ (k_ ≠ gb823 ∧ (k_ ≠ gb824 ∧ k_ ≠ gb835))))))))) _ _ t859 t862 _ ?side1 ?side2 A18.out).mono ?_
   (case side1 => exact HO855.out)
   (case side2 => exact HO861.out)
   rintro e w97 ⟨v863, rfl, ho0, hb⟩
   refine ⟨_, rfl, ?_⟩
   have n0_ := Aside0.mk (rb HO791.out hb)
   have n1_ := Aside0.mk (vb HO794.out hb)
   have n2_ := Aside0.mk (rb HO797.out hb)
   have n3_ := Aside0.mk (vb HO800.out hb)
   have n4_ := Aside0.mk (vb HO803.out hb)
   have n5_ := Aside0.mk (vb HO806.out hb)
   have n6_ := Aside0.mk (rb HO812.out hb)
   have n7_ := Aside0.mk (vb HO815.out hb)
   have n8_ := Aside0.mk (vb HO818.out hb)
   have n9_ := Aside0.mk (vb HO821.out hb)
   have n10_ := Aside0.mk (rb HO827.out hb)
   have n11_ := Aside0.mk (vb HO830.out hb)
   have n12_ := Aside0.mk (vb HO833.out hb)
   have n13_ := Aside0.mk (rb HO838.out hb)
   have n14_ := Aside0.mk (vb HO841.out hb)
   have n15_ := Aside0.mk (rb HO845.out hb)
   have n16_ := Aside0.mk (vb HO848.out hb)
   have n17_ := Aside0.mk (rb HO852.out hb)
   have n18_ := Aside0.mk (vb HO855.out hb)
   have n19_ := Aside0.mk (rb HO858.out hb)
   have n20_ := Aside0.mk (vb HO861.out hb)
   have n21_ := Aside0.mk (Kd.V_lower (Kd.V_mono (ok' := fun k_ => OB Ao26 y789 co26 k_ ∧ OB Ao30 y795 co30 k_ ∧ OB Ao44 y810 co44 k_ ∧ OB Ao61 y825 co61 k_ ∧ k_ ≠ gb808 ∧ k_ ≠ gb809 ∧ k_ ≠ gb823 ∧ k_ ≠ gb824 ∧ k_ ≠ gb835) ho0 (fun k_ hk_ => ⟨Or.elim hk_ (fun hs_ => Or.elim hs_ (fun hs_ => hs_.1) (fun hs_ => hs_.1)) (fun hn_ => (Kd.fresh' (Kd.R_lt HO791.out) k_ hn_)), Or.elim hk_ (fun hs_ => Or.elim hs_ (fun hs_ => hs_.2.1) (fun hs_ => hs_.2.1)) (fun hn_ => (Kd.fresh' (Kd.R_lt HO797.out) k_ hn_)), Or.elim hk_ (fun hs_ => Or.elim hs_ (fun hs_ => hs_.2.2.1) (fun hs_ => hs_.2.2.1)) (fun hn_ => (Kd.fresh' (Kd.R_lt HO812.out) k_ hn_)), Or.elim hk_ (fun hs_ => Or.elim hs_ (fun hs_ => hs_.2.2.2.1) (fun hs_ => hs_.2.2.2.1)) (fun hn_ => (Kd.fresh' (Kd.R_lt HO827.out) k_ hn_)), Or.elim hk_ (fun hs_ => Or.elim hs_ (fun hs_ => hs_.2.2.2.2.1) (fun hs_ => hs_.2.2.2.2.1)) (fun hn_ => (fb BK808.out k_ hn_)), Or.elim hk_ (fun hs_ => Or.elim hs_ (fun hs_ => hs_.2.2.2.2.2.1) (fun hs_ => hs_.2.2.2.2.2.1)) (fun hn_ => (fb BK809.out k_ hn_)), Or.elim hk_ (fun hs_ => Or.elim hs_ (fun hs_ => hs_.2.2.2.2.2.2.1) (fun hs_ => hs_.2.2.2.2.2.2.1)) (fun hn_ => (fb BK823.out k_ hn_)), Or.elim hk_ (fun hs_ => Or.elim hs_ (fun hs_ => hs_.2.2.2.2.2.2.2.1) (fun hs_ => hs_.2.2.2.2.2.2.2.1)) (fun hn_ => (fb BK824.out k_ hn_)), Or.elim hk_ (fun hs_ => Or.elim hs_ (fun hs_ => hs_.2.2.2.2.2.2.2.2) (fun hs_ => hs_.2.2.2.2.2.2.2.2)) (fun hn_ => (fb BK835.out k_ hn_))⟩)) (bz HB.out))
   have n22_ := Aside0.mk (bb BK808.out hb)
   have n23_ := Aside0.mk (bb BK809.out hb)
   have n24_ := Aside0.mk (bb BK823.out hb)
   have n25_ := Aside0.mk (bb BK824.out hb)
   have n26_ := Aside0.mk (bb BK835.out hb)
   have n27_ := Aside0.mk (bs HB.out hb)
   have z_HO867 := fun (h0_ : b 26 = true) => (show Kd.R (Kd.int .u64) 27 w97 w.heap.size (fun k_ => OB Ao26 y789 co26 k_ ∧ OB Ao30 y795 co30 k_ ∧ OB Ao44 y810 co44 k_ ∧ OB Ao61 y825 co61 k_) v866 y865 from by first | exact (Kd.R_below ((Q_HO867 h0_)) hb) | exact Kd.R_mono (Kd.R_below ((Q_HO867 h0_)) hb) (fun _ h_ => by first | trivial | exact h_ | exact h_.1))
   clear HO791
   clear HO794
   clear HO797
   clear HO800
   clear HO803
   clear HO806
   clear HO812
   clear HO815
   clear HO818
   clear HO821
   clear HO827
   clear HO830
   clear HO833
   clear HO838
   clear HO841
   clear HO845
   clear HO848
   clear HO852
   clear HO855
   clear HO858
   clear HO861
   clear BK808
   clear BK809
   clear BK823
   clear BK824
   clear BK835
   clear HB
   have HO791 := n0_
   have HO794 := n1_
   have HO797 := n2_
   have HO800 := n3_
   have HO803 := n4_
   have HO806 := n5_
   have HO812 := n6_
   have HO815 := n7_
   have HO818 := n8_
   have HO821 := n9_
   have HO827 := n10_
   have HO830 := n11_
   have HO833 := n12_
   have HO838 := n13_
   have HO841 := n14_
   have HO845 := n15_
   have HO848 := n16_
   have HO852 := n17_
   have HO855 := n18_
   have HO858 := n19_
   have HO861 := n20_
   have HO864 := n21_
   have BK808 := n22_
   have BK809 := n23_
   have BK823 := n24_
   have BK824 := n25_
   have BK835 := n26_
   have HB := n27_
   clear n0_ n1_ n2_ n3_ n4_ n5_ n6_ n7_ n8_ n9_ n10_ n11_ n12_ n13_ n14_ n15_ n16_ n17_ n18_ n19_ n20_ n21_ n22_ n23_ n24_ n25_ n26_ n27_
   (try clear hb)
   (try clear hb2)
   (try clear hk)
   (try clear hi)
   (try clear ho0)
   refine hK.out _ _ ⟨v837, v840, v844, v847, v851, .slice Ao95 t853.length co95, v857, .slice Ao96 t859.length co96, v863, v866, v869, m5_, m12_, m22_, m24_, (.agg #[v863]), m27_, (by rw [ha.out]; exact putSel_upk 24 hb_ rfl rfl rfl), HO791.out, HO794.out, HO797.out, HO800.out, HO803.out, HO806.out, HO812.out, HO815.out, HO818.out, HO821.out, HO827.out, HO830.out, HO833.out, BK808.out, BK809.out, BK823.out, BK824.out, BK835.out, (by repeat (first | (with_reducible first | exact HB.out | apply below_alloc | apply pw_below_drewN | apply below_drew1 | refine below_set ?_ GE808.out | refine below_set ?_ GE809.out | refine below_set ?_ GE823.out | refine below_set ?_ GE824.out | refine below_set ?_ GE835.out) | exact HB.out)), fun _ => HO838.out, fun _ => HO841.out, fun _ => HO845.out, fun _ => HO848.out, fun _ => HO852.out, fun _ => HO855.out, fun _ => HO858.out, fun _ => HO861.out, fun _ => HO864.out, z_HO867, ab0 (hoff 27 (by kernel_rfl)), Q_X5_, Q_X12_, Q_X22_, Q_X24_, fun _ => rfl, ab0 (hoff 27 (by kernel_rfl))⟩
  refine steps_cons ?_ ?_
  ·intro b a w' hx0_ hb_ hon hoff
   refine ex8_ hx0_ fun v837 v840 v844 v847 v851 v854 v857 v860 hx1_ => ex8_ hx1_ fun v863 v866 v869 m5_ m12_ m22_ m24_ m25_ hx2_ => ex1_ hx2_ fun m27_ hx3_ => and8A hx3_ fun ha HO791 HO794 HO797 HO800 HO803 HO806 hy1_ => and8A hy1_ fun HO812 HO815 HO818 HO821 HO827 HO830 HO833 hy2_ => and7A hy2_ fun BK808 BK809 BK823 BK824 BK835 HB hy3_ => and8 hy3_ fun Q_HO838 Q_HO841 Q_HO845 Q_HO848 Q_HO852 Q_HO855 Q_HO858 hy4_ => and8 hy4_ fun Q_HO861 Q_HO864 Q_HO867 Q_HO870 Q_X5_ Q_X12_ Q_X22_ hy5_ => ?_
   have Q_X24_ := hy5_.1; have Q_X25_ := hy5_.2.1; have Q_X27_ := hy5_.2.2; clear hx0_ hx1_ hx2_ hx3_ hy1_ hy2_ hy3_ hy4_ hy5_
   refine ⟨_, rfl, fun K hK => ?_⟩
   have e52 : a.tmps[52]? = some (.bool (t822 == 8)) := by rw [ha.out]; exact putSel_on (e := (20, 52, .bool (t822 == 8))) 19 rfl rfl (hon 20 (by kernel_rfl)) rfl
   have HO838 := Aside0.mk (Q_HO838 (hon 4 (by kernel_rfl)))
   have HO841 := Aside0.mk (Q_HO841 (hon 5 (by kernel_rfl)))
   have HO845 := Aside0.mk (Q_HO845 (hon 11 (by kernel_rfl)))
   have HO848 := Aside0.mk (Q_HO848 (hon 12 (by kernel_rfl)))
   refine Kd.R_lit_step (Kd.int .u64) _ 27 ?hg (N := 58) ?hd (xs := ([6] : List Int)) (inner := [.int .u64 6]) (ok := fun _ => True) (okp := fun _ => True) ?hr ?hp (fun _ hk => hk) trivial (Below.refl _ _) (Nat.le_refl _) (by simp) ?_; (case hd => rfl); (case hg => exact (wanted_on rfl rfl rfl (e52.trans (by first | rfl | (simp [*]; done))))); (case hr => first | (go_simp; done) | (go_simp; rfl)); (case hp => exact (Reps.one (show Kd.M (Kd.int .u64) _ _ _ 6 [.int .u64 6] from rfl) (Reps.none _ _)))
   intro v866 w87 ho88 hb hg_ hnew_
   clear hg_ hnew_
   (first | rw [← Ny865.out] at ho88 | (simp only [Int.reduceToNat] at ho88; rw [← Ny865.out] at ho88))
   have n0_ := Aside0.mk (Kd.R_elder' HO791.out (Kd.R_base ho88) hb)
   have n1_ := Aside0.mk (Kd.V_elder' HO794.out (Kd.R_base ho88) hb)
   have n2_ := Aside0.mk (Kd.R_elder' HO797.out (Kd.R_base ho88) hb)
   have n3_ := Aside0.mk (Kd.V_elder' HO800.out (Kd.R_base ho88) hb)
   have n4_ := Aside0.mk (Kd.V_elder' HO803.out (Kd.R_base ho88) hb)
   have n5_ := Aside0.mk (Kd.V_elder' HO806.out (Kd.R_base ho88) hb)
   have n6_ := Aside0.mk (Kd.R_elder' HO812.out (Kd.R_base ho88) hb)
   have n7_ := Aside0.mk (Kd.V_elder' HO815.out (Kd.R_base ho88) hb)
   have n8_ := Aside0.mk (Kd.V_elder' HO818.out (Kd.R_base ho88) hb)
   have n9_ := Aside0.mk (Kd.V_elder' HO821.out (Kd.R_base ho88) hb)
   have n10_ := Aside0.mk (Kd.R_elder' HO827.out (Kd.R_base ho88) hb)
   have n11_ := Aside0.mk (Kd.V_elder' HO830.out (Kd.R_base ho88) hb)
   have n12_ := Aside0.mk (Kd.V_elder' HO833.out (Kd.R_base ho88) hb)
   have n13_ := Aside0.mk (Kd.R_elder' HO838.out (Kd.R_base ho88) hb)
   have n14_ := Aside0.mk (Kd.V_elder' HO841.out (Kd.R_base ho88) hb)
   have n15_ := Aside0.mk (Kd.R_elder' HO845.out (Kd.R_base ho88) hb)
   have n16_ := Aside0.mk (Kd.V_elder' HO848.out (Kd.R_base ho88) hb)
   have n17_ := Aside0.mk (Kd.R_lower (Kd.R_new' (Kd.R_new' (Kd.R_new' (Kd.R_new' (Kd.R_new' (Kd.R_new' ho88 (Kd.R_lt HO791.out)) (Kd.R_lt HO797.out)) (Kd.R_lt HO812.out)) (Kd.R_lt HO827.out)) (Kd.R_lt HO838.out)) (Kd.R_lt HO845.out)) (bz HB.out))
   have n18_ := Aside0.mk (bb BK808.out hb)
   have n19_ := Aside0.mk (bb BK809.out hb)
   have n20_ := Aside0.mk (bb BK823.out hb)
   have n21_ := Aside0.mk (bb BK824.out hb)
   have n22_ := Aside0.mk (bb BK835.out hb)
   have n23_ := Aside0.mk (bs HB.out hb)
   have z_HO852 := fun (h0_ : b 21 = true) => (show Kd.R (Kd.int .u64) 27 w87 w.heap.size (fun k_ => OB Ao26 y789 co26 k_ ∧ OB Ao30 y795 co30 k_ ∧ OB Ao44 y810 co44 k_ ∧ OB Ao61 y825 co61 k_) v851 y850 from by first | exact (Kd.R_elder' ((Q_HO852 h0_)) (Kd.R_base ho88) hb) | exact Kd.R_mono (Kd.R_elder' ((Q_HO852 h0_)) (Kd.R_base ho88) hb) (fun _ h_ => by first | trivial | exact h_ | exact h_.1))
   have z_HO855 := fun (h0_ : b 22 = true) => (show Kd.V (Kd.int .u64) 27 w87 w.heap.size (fun k_ => OB Ao26 y789 co26 k_ ∧ OB Ao30 y795 co30 k_ ∧ OB Ao44 y810 co44 k_ ∧ OB Ao61 y825 co61 k_ ∧ k_ ≠ gb808 ∧ k_ ≠ gb809 ∧ k_ ≠ gb823 ∧ k_ ≠ gb824 ∧ k_ ≠ gb835) v854 t853 from by first | exact (Kd.V_elder' ((Q_HO855 h0_)) (Kd.R_base ho88) hb) | exact Kd.V_mono (Kd.V_elder' ((Q_HO855 h0_)) (Kd.R_base ho88) hb) (fun _ h_ => by first | trivial | exact h_ | exact h_.1))
   have z_HO858 := fun (h0_ : b 23 = true) => (show Kd.R (Kd.int .u64) 27 w87 w.heap.size (fun k_ => OB Ao26 y789 co26 k_ ∧ OB Ao30 y795 co30 k_ ∧ OB Ao44 y810 co44 k_ ∧ OB Ao61 y825 co61 k_) v857 y856 from by first | exact (Kd.R_elder' ((Q_HO858 h0_)) (Kd.R_base ho88) hb) | exact Kd.R_mono (Kd.R_elder' ((Q_HO858 h0_)) (Kd.R_base ho88) hb) (fun _ h_ => by first | trivial | exact h_ | exact h_.1))
   have z_HO861 := fun (h0_ : b 24 = true) => (show Kd.V (Kd.int .u64) 27 w87 w.heap.size (fun k_ => OB Ao26 y789 co26 k_ ∧ OB Ao30 y795 co30 k_ ∧ OB Ao44 y810 co44 k_ ∧ OB Ao61 y825 co61 k_ ∧ k_ ≠ gb808 ∧ k_ ≠ gb809 ∧ k_ ≠ gb823 ∧ k_ ≠ gb824 ∧ k_ ≠ gb835) v860 t859 from by first | exact (Kd.V_elder' ((Q_HO861 h0_)) (Kd.R_base ho88) hb) | exact Kd.V_mono (Kd.V_elder' ((Q_HO861 h0_)) (Kd.R_base ho88) hb) (fun _ h_ => by first | trivial | exact h_ | exact h_.1))
   have z_HO864 := fun (h0_ : b 25 = true) => (show Kd.V (Kd.int .u64) 27 w87 w.heap.size (fun k_ => OB Ao26 y789 co26 k_ ∧ OB Ao30 y795 co30 k_ ∧ OB Ao44 y810 co44 k_ ∧ OB Ao61 y825 co61 k_ ∧ k_ ≠ gb808 ∧ k_ ≠ gb809 ∧ k_ ≠ gb823 ∧ k_ ≠ gb824 ∧ k_ ≠ gb835) v863 t862 from by first | exact (Kd.V_elder' ((Q_HO864 h0_)) (Kd.R_base ho88) hb) | exact Kd.V_mono (Kd.V_elder' ((Q_HO864 h0_)) (Kd.R_base ho88) hb) (fun _ h_ => by first | trivial | exact h_ | exact h_.1))
   clear HO791
   clear HO794
   clear HO797
   clear HO800
   clear HO803
   clear HO806
   clear HO812
   clear HO815
   clear HO818
   clear HO821
   clear HO827
   clear HO830
   clear HO833
   clear HO838
   clear HO841
   clear HO845
   clear HO848
   clear BK808
   clear BK809
   clear BK823
   clear BK824
   clear BK835
   clear HB
   have HO791 := n0_
   have HO794 := n1_
   have HO797 := n2_
   have HO800 := n3_
   have HO803 := n4_
   have HO806 := n5_
   have HO812 := n6_
   have HO815 := n7_
   have HO818 := n8_
   have HO821 := n9_
   have HO827 := n10_
   have HO830 := n11_
   have HO833 := n12_
   have HO838 := n13_
   have HO841 := n14_
   have HO845 := n15_
   have HO848 := n16_
   have HO867 := n17_
   have BK808 := n18_
   have BK809 := n19_
   have BK823 := n20_
   have BK824 := n21_
   have BK835 := n22_
   have HB := n23_
   clear n0_ n1_ n2_ n3_ n4_ n5_ n6_ n7_ n8_ n9_ n10_ n11_ n12_ n13_ n14_ n15_ n16_ n17_ n18_ n19_ n20_ n21_ n22_ n23_
   clear hb ho88
   refine hK.out _ _ ⟨v837, v840, v844, v847, v851, v854, v857, v860, v863, v866, v869, m5_, m12_, m22_, m24_, m25_, m27_, (by rw [ha.out]; exact putSel_upk 25 hb_ rfl rfl rfl), (Kd.R_mono HO791.out (fun _ hk => ⟨hk.1.1, ⟨hk.1.2.1, hk.1.2.2⟩⟩)), (Kd.V_mono HO794.out (fun _ hk => ⟨hk.1.1, ⟨hk.1.2.1, ⟨hk.1.2.2.1, ⟨hk.1.2.2.2.1, ⟨hk.1.2.2.2.2.1, ⟨hk.1.2.2.2.2.2.1, ⟨hk.1.2.2.2.2.2.2.1, ⟨hk.1.2.2.2.2.2.2.2.1, hk.1.2.2.2.2.2.2.2.2⟩⟩⟩⟩⟩⟩⟩⟩)), (Kd.R_mono HO797.out (fun _ hk => ⟨hk.1.1, ⟨hk.1.2.1, hk.1.2.2⟩⟩)), (Kd.V_mono HO800.out (fun _ hk => ⟨hk.1.1, ⟨hk.1.2.1, ⟨hk.1.2.2.1, ⟨hk.1.2.2.2.1, ⟨hk.1.2.2.2.2.1, ⟨hk.1.2.2.2.2.2.1, ⟨hk.1.2.2.2.2.2.2.1, ⟨hk.1.2.2.2.2.2.2.2.1, hk.1.2.2.2.2.2.2.2.2⟩⟩⟩⟩⟩⟩⟩⟩)), (Kd.V_mono HO803.out (fun _ hk => ⟨hk.1.1, ⟨hk.1.2.1, ⟨hk.1.2.2.1, ⟨hk.1.2.2.2.1, ⟨hk.1.2.2.2.2.1, ⟨hk.1.2.2.2.2.2.1, ⟨hk.1.2.2.2.2.2.2.1, ⟨hk.1.2.2.2.2.2.2.2.1, hk.1.2.2.2.2.2.2.2.2⟩⟩⟩⟩⟩⟩⟩⟩)), (Kd.V_mono HO806.out (fun _ hk => ⟨hk.1.1, ⟨hk.1.2.1, ⟨hk.1.2.2.1, ⟨hk.1.2.2.2.1, ⟨hk.1.2.2.2.2.1, ⟨hk.1.2.2.2.2.2.1, ⟨hk.1.2.2.2.2.2.2.1, ⟨hk.1.2.2.2.2.2.2.2.1, hk.1.2.2.2.2.2.2.2.2⟩⟩⟩⟩⟩⟩⟩⟩)), (Kd.R_mono HO812.out (fun _ hk => ⟨hk.1.1, ⟨hk.1.2.1, hk.1.2.2⟩⟩)), (Kd.V_mono HO815.out (fun _ hk => ⟨hk.1.1, ⟨hk.1.2.1, ⟨hk.1.2.2.1, ⟨hk.1.2.2.2.1, ⟨hk.1.2.2.2.2.1, ⟨hk.1.2.2.2.2.2.1, ⟨hk.1.2.2.2.2.2.2.1, ⟨hk.1.2.2.2.2.2.2.2.1, hk.1.2.2.2.2.2.2.2.2⟩⟩⟩⟩⟩⟩⟩⟩)), (Kd.V_mono HO818.out (fun _ hk => ⟨hk.1.1, ⟨hk.1.2.1, ⟨hk.1.2.2.1, ⟨hk.1.2.2.2.1, ⟨hk.1.2.2.2.2.1, ⟨hk.1.2.2.2.2.2.1, ⟨hk.1.2.2.2.2.2.2.1, ⟨hk.1.2.2.2.2.2.2.2.1, hk.1.2.2.2.2.2.2.2.2⟩⟩⟩⟩⟩⟩⟩⟩)), (Kd.V_mono HO821.out (fun _ hk => ⟨hk.1.1, ⟨hk.1.2.1, ⟨hk.1.2.2.1, ⟨hk.1.2.2.2.1, ⟨hk.1.2.2.2.2.1, ⟨hk.1.2.2.2.2.2.1, ⟨hk.1.2.2.2.2.2.2.1, ⟨hk.1.2.2.2.2.2.2.2.1, hk.1.2.2.2.2.2.2.2.2⟩⟩⟩⟩⟩⟩⟩⟩)), (Kd.R_mono HO827.out (fun _ hk => ⟨hk.1.1, ⟨hk.1.2.1, hk.1.2.2⟩⟩)), (Kd.V_mono HO830.out (fun _ hk => ⟨hk.1.1, ⟨hk.1.2.1, ⟨hk.1.2.2.1, ⟨hk.1.2.2.2.1, ⟨hk.1.2.2.2.2.1, ⟨hk.1.2.2.2.2.2.1, ⟨hk.1.2.2.2.2.2.2.1, ⟨hk.1.2.2.2.2.2.2.2.1, hk.1.2.2.2.2.2.2.2.2⟩⟩⟩⟩⟩⟩⟩⟩)), (Kd.V_mono HO833.out (fun _ hk => ⟨hk.1.1, ⟨hk.1.2.1, ⟨hk.1.2.2.1, ⟨hk.1.2.2.2.1, ⟨hk.1.2.2.2.2.1, ⟨hk.1.2.2.2.2.2.1, ⟨hk.1.2.2.2.2.2.2.1, ⟨hk.1.2.2.2.2.2.2.2.1, hk.1.2.2.2.2.2.2.2.2⟩⟩⟩⟩⟩⟩⟩⟩)), BK808.out, BK809.out, BK823.out, BK824.out, BK835.out, (by repeat (first | (with_reducible first | exact HB.out | apply below_alloc | apply pw_below_drewN | apply below_drew1 | refine below_set ?_ GE808.out | refine below_set ?_ GE809.out | refine below_set ?_ GE823.out | refine below_set ?_ GE824.out | refine below_set ?_ GE835.out) | exact HB.out)), fun _ => (Kd.R_mono HO838.out (fun _ hk => ⟨hk.1.1, ⟨hk.1.2.1, ⟨hk.1.2.2.1, hk.1.2.2.2⟩⟩⟩)), fun _ => (Kd.V_mono HO841.out (fun _ hk => ⟨hk.1.1, ⟨hk.1.2.1, ⟨hk.1.2.2.1, ⟨hk.1.2.2.2.1, ⟨hk.1.2.2.2.2.1, ⟨hk.1.2.2.2.2.2.1, ⟨hk.1.2.2.2.2.2.2.1, ⟨hk.1.2.2.2.2.2.2.2.1, hk.1.2.2.2.2.2.2.2.2⟩⟩⟩⟩⟩⟩⟩⟩)), fun _ => (Kd.R_mono HO845.out (fun _ hk => ⟨hk.1.1, ⟨hk.1.2.1, ⟨hk.1.2.2.1, hk.1.2.2.2⟩⟩⟩)), fun _ => (Kd.V_mono HO848.out (fun _ hk => ⟨hk.1.1, ⟨hk.1.2.1, ⟨hk.1.2.2.1, ⟨hk.1.2.2.2.1, ⟨hk.1.2.2.2.2.1, ⟨hk.1.2.2.2.2.2.1, ⟨hk.1.2.2.2.2.2.2.1, ⟨hk.1.2.2.2.2.2.2.2.1, hk.1.2.2.2.2.2.2.2.2⟩⟩⟩⟩⟩⟩⟩⟩)), z_HO852, z_HO855, z_HO858, z_HO861, z_HO864, fun _ => (Kd.R_mono HO867.out (fun _ hk => ⟨hk.1.1.1.1.1.2, ⟨hk.1.1.1.1.2, ⟨hk.1.1.1.2, hk.1.1.2⟩⟩⟩)), ab0 (hoff 27 (by kernel_rfl)), Q_X5_, Q_X12_, Q_X22_, Q_X24_, Q_X25_, ab0 (hoff 27 (by kernel_rfl))⟩
  refine steps_cons ?_ ?_
  ·intro b a w' hx0_ hb_ hon hoff
   refine ex8_ hx0_ fun v837 v840 v844 v847 v851 v854 v857 v860 hx1_ => ex8_ hx1_ fun v863 v866 v869 m5_ m12_ m22_ m24_ m25_ hx2_ => ex1_ hx2_ fun m27_ hx3_ => and8A hx3_ fun ha HO791 HO794 HO797 HO800 HO803 HO806 hy1_ => and8A hy1_ fun HO812 HO815 HO818 HO821 HO827 HO830 HO833 hy2_ => and7A hy2_ fun BK808 BK809 BK823 BK824 BK835 HB hy3_ => and8 hy3_ fun Q_HO838 Q_HO841 Q_HO845 Q_HO848 Q_HO852 Q_HO855 Q_HO858 hy4_ => and8 hy4_ fun Q_HO861 Q_HO864 Q_HO867 Q_HO870 Q_X5_ Q_X12_ Q_X22_ hy5_ => ?_
   have Q_X24_ := hy5_.1; have Q_X25_ := hy5_.2.1; have Q_X27_ := hy5_.2.2; clear hx0_ hx1_ hx2_ hx3_ hy1_ hy2_ hy3_ hy4_ hy5_
   refine ⟨_, rfl, fun K hK => ?_⟩
   have e58 : a.tmps[58]? = some (v866) := by rw [ha.out]; exact putSel_on (e := (26, 58, v866)) 25 rfl rfl (hon 26 (by kernel_rfl)) rfl
   have e52 : a.tmps[52]? = some (.bool (t822 == 8)) := by rw [ha.out]; exact putSel_on (e := (20, 52, .bool (t822 == 8))) 19 rfl rfl (hon 20 (by kernel_rfl)) rfl
   have HO838 := Aside0.mk (Q_HO838 (hon 4 (by kernel_rfl)))
   have HO841 := Aside0.mk (Q_HO841 (hon 5 (by kernel_rfl)))
   have HO845 := Aside0.mk (Q_HO845 (hon 11 (by kernel_rfl)))
   have HO848 := Aside0.mk (Q_HO848 (hon 12 (by kernel_rfl)))
   have HO852 := Aside0.mk (Q_HO852 (hon 21 (by kernel_rfl)))
   have HO855 := Aside0.mk (Q_HO855 (hon 22 (by kernel_rfl)))
   have HO858 := Aside0.mk (Q_HO858 (hon 23 (by kernel_rfl)))
   have HO861 := Aside0.mk (Q_HO861 (hon 24 (by kernel_rfl)))
   have HO864 := Aside0.mk (Q_HO864 (hon 25 (by kernel_rfl)))
   have HO867 := Aside0.mk (Q_HO867 (hon 26 (by kernel_rfl)))
   obtain ⟨Ao100, co100, eo100⟩ := Kd.R_slice HO867.out
   (first | subst eo100 | (injection eo100 with f1_ f2_ f3_; have f4_ := f1_.symm; have f5_ := f3_.symm; clear f1_ f2_ f3_; subst f4_; subst f5_))
   refine goes_ Try.func14 (by kernel_rfl) rfl #[.slice Ao100 y865.length co100] (wanted_on rfl rfl rfl (e52.trans (by first | rfl | (simp [*]; done)))) rfl rfl (by first | (simp only [List.map_toArray, List.map_cons, List.map_nil, Act.eval, Array.getD_eq_getD_getElem?, Option.getD_some, e58, e52]; done) | (simp only [List.map_toArray, List.map_cons, List.map_nil, Act.eval, Array.getD_eq_getD_getElem?, Option.getD_some, e58, e52]; rfl)) ?_
   with_reducible refine (nat_Of.calls k _ _ y865 t868 _ ?side1 ?side2 A19.out).mono ?_
   (case side1 => exact cr HO867.out)
   (case side2 => exact (Kd.R_reads' HO867.out).2.1)
   rintro e w101 ⟨v869, rfl, ho0, hb⟩
   refine ⟨_, rfl, ?_⟩
   have n0_ := Aside0.mk (rb HO791.out hb)
   have n1_ := Aside0.mk (vb HO794.out hb)
   have n2_ := Aside0.mk (rb HO797.out hb)
   have n3_ := Aside0.mk (vb HO800.out hb)
   have n4_ := Aside0.mk (vb HO803.out hb)
   have n5_ := Aside0.mk (vb HO806.out hb)
   have n6_ := Aside0.mk (rb HO812.out hb)
   have n7_ := Aside0.mk (vb HO815.out hb)
   have n8_ := Aside0.mk (vb HO818.out hb)
   have n9_ := Aside0.mk (vb HO821.out hb)
   have n10_ := Aside0.mk (rb HO827.out hb)
   have n11_ := Aside0.mk (vb HO830.out hb)
   have n12_ := Aside0.mk (vb HO833.out hb)
   have n13_ := Aside0.mk (rb HO838.out hb)
   have n14_ := Aside0.mk (vb HO841.out hb)
   have n15_ := Aside0.mk (rb HO845.out hb)
   have n16_ := Aside0.mk (vb HO848.out hb)
   have n17_ := Aside0.mk (rb HO852.out hb)
   have n18_ := Aside0.mk (vb HO855.out hb)
   have n19_ := Aside0.mk (rb HO858.out hb)
   have n20_ := Aside0.mk (vb HO861.out hb)
   have n21_ := Aside0.mk (vb HO864.out hb)
   have n22_ := Aside0.mk (rb HO867.out hb)
   have n23_ := Aside0.mk (Kd.V_lower (Kd.V_mono (ok' := fun k_ => OB Ao26 y789 co26 k_ ∧ OB Ao30 y795 co30 k_ ∧ OB Ao44 y810 co44 k_ ∧ OB Ao61 y825 co61 k_ ∧ some k_ ≠ (v837 : Value).ownBlock ∧ some k_ ≠ (v844 : Value).ownBlock ∧ some k_ ≠ (v851 : Value).ownBlock ∧ some k_ ≠ (v857 : Value).ownBlock ∧ OB Ao100 y865 co100 k_ ∧ k_ ≠ gb808 ∧ k_ ≠ gb809 ∧ k_ ≠ gb823 ∧ k_ ≠ gb824 ∧ k_ ≠ gb835) ho0 (fun k_ hk_ => ⟨(Kd.fresh' (Kd.R_lt HO791.out) k_ hk_), (Kd.fresh' (Kd.R_lt HO797.out) k_ hk_), (Kd.fresh' (Kd.R_lt HO812.out) k_ hk_), (Kd.fresh' (Kd.R_lt HO827.out) k_ hk_), (Kd.fresh' (Kd.R_lt HO838.out) k_ hk_), (Kd.fresh' (Kd.R_lt HO845.out) k_ hk_), (Kd.fresh' (Kd.R_lt HO852.out) k_ hk_), (Kd.fresh' (Kd.R_lt HO858.out) k_ hk_), (Kd.fresh' (Kd.R_lt HO867.out) k_ hk_), (fb BK808.out k_ hk_), (fb BK809.out k_ hk_), (fb BK823.out k_ hk_), (fb BK824.out k_ hk_), (fb BK835.out k_ hk_)⟩)) (bz HB.out))
   have n24_ := Aside0.mk (bb BK808.out hb)
   have n25_ := Aside0.mk (bb BK809.out hb)
   have n26_ := Aside0.mk (bb BK823.out hb)
   have n27_ := Aside0.mk (bb BK824.out hb)
   have n28_ := Aside0.mk (bb BK835.out hb)
   have n29_ := Aside0.mk (bs HB.out hb)
   clear HO791
   clear HO794
   clear HO797
   clear HO800
   clear HO803
   clear HO806
   clear HO812
   clear HO815
   clear HO818
   clear HO821
   clear HO827
   clear HO830
   clear HO833
   clear HO838
   clear HO841
   clear HO845
   clear HO848
   clear HO852
   clear HO855
   clear HO858
   clear HO861
   clear HO864
   clear HO867
   clear BK808
   clear BK809
   clear BK823
   clear BK824
   clear BK835
   clear HB
   have HO791 := n0_
   have HO794 := n1_
   have HO797 := n2_
   have HO800 := n3_
   have HO803 := n4_
   have HO806 := n5_
   have HO812 := n6_
   have HO815 := n7_
   have HO818 := n8_
   have HO821 := n9_
   have HO827 := n10_
   have HO830 := n11_
   have HO833 := n12_
   have HO838 := n13_
   have HO841 := n14_
   have HO845 := n15_
   have HO848 := n16_
   have HO852 := n17_
   have HO855 := n18_
   have HO858 := n19_
   have HO861 := n20_
   have HO864 := n21_
   have HO867 := n22_
   have HO870 := n23_
   have BK808 := n24_
   have BK809 := n25_
   have BK823 := n26_
   have BK824 := n27_
   have BK835 := n28_
   have HB := n29_
   clear n0_ n1_ n2_ n3_ n4_ n5_ n6_ n7_ n8_ n9_ n10_ n11_ n12_ n13_ n14_ n15_ n16_ n17_ n18_ n19_ n20_ n21_ n22_ n23_ n24_ n25_ n26_ n27_ n28_ n29_
   (try clear hb)
   (try clear hb2)
   (try clear hk)
   (try clear hi)
   (try clear ho0)
   refine hK.out _ _ ⟨v837, v840, v844, v847, v851, v854, v857, v860, v863, .slice Ao100 y865.length co100, v869, m5_, m12_, m22_, m24_, m25_, (.agg #[v869]), (by rw [ha.out]; exact putSel_upk 26 hb_ rfl rfl rfl), HO791.out, HO794.out, HO797.out, HO800.out, HO803.out, HO806.out, HO812.out, HO815.out, HO818.out, HO821.out, HO827.out, HO830.out, HO833.out, BK808.out, BK809.out, BK823.out, BK824.out, BK835.out, (by repeat (first | (with_reducible first | exact HB.out | apply below_alloc | apply pw_below_drewN | apply below_drew1 | refine below_set ?_ GE808.out | refine below_set ?_ GE809.out | refine below_set ?_ GE823.out | refine below_set ?_ GE824.out | refine below_set ?_ GE835.out) | exact HB.out)), fun _ => HO838.out, fun _ => HO841.out, fun _ => HO845.out, fun _ => HO848.out, fun _ => HO852.out, fun _ => HO855.out, fun _ => HO858.out, fun _ => HO861.out, fun _ => HO864.out, fun _ => HO867.out, fun _ => (Kd.V_mono HO870.out (fun _ hk => ⟨hk.1, ⟨hk.2.1, ⟨hk.2.2.1, ⟨hk.2.2.2.1, ⟨hk.2.2.2.2.2.2.2.2.2.1, ⟨hk.2.2.2.2.2.2.2.2.2.2.1, ⟨hk.2.2.2.2.2.2.2.2.2.2.2.1, ⟨hk.2.2.2.2.2.2.2.2.2.2.2.2.1, hk.2.2.2.2.2.2.2.2.2.2.2.2.2⟩⟩⟩⟩⟩⟩⟩⟩)), Q_X5_, Q_X12_, Q_X22_, Q_X24_, Q_X25_, fun _ => rfl⟩
  refine steps_cons ?_ ?_
  ·intro b a w' hx0_ hb_ hon hoff
   refine ex8_ hx0_ fun v837 v840 v844 v847 v851 v854 v857 v860 hx1_ => ex8_ hx1_ fun v863 v866 v869 m5_ m12_ m22_ m24_ m25_ hx2_ => ex1_ hx2_ fun m27_ hx3_ => and8A hx3_ fun ha HO791 HO794 HO797 HO800 HO803 HO806 hy1_ => and8A hy1_ fun HO812 HO815 HO818 HO821 HO827 HO830 HO833 hy2_ => and7A hy2_ fun BK808 BK809 BK823 BK824 BK835 HB hy3_ => and8 hy3_ fun Q_HO838 Q_HO841 Q_HO845 Q_HO848 Q_HO852 Q_HO855 Q_HO858 hy4_ => and8 hy4_ fun Q_HO861 Q_HO864 Q_HO867 Q_HO870 Q_X5_ Q_X12_ Q_X22_ hy5_ => ?_
   have Q_X24_ := hy5_.1; have Q_X25_ := hy5_.2.1; have Q_X27_ := hy5_.2.2; clear hx0_ hx1_ hx2_ hx3_ hy1_ hy2_ hy3_ hy4_ hy5_
   refine ⟨_, rfl, fun K hK => ?_⟩
   have e57 : a.tmps[57]? = some (m25_) := by rw [ha.out]; exact putSel_on (e := (25, 57, m25_)) 24 rfl rfl (hon 25 (by kernel_rfl)) rfl
   rw [Q_X25_ (hon 25 (by kernel_rfl))] at e57
   have e59 : a.tmps[59]? = some (m27_) := by rw [ha.out]; exact putSel_on (e := (27, 59, m27_)) 26 rfl rfl (hon 27 (by kernel_rfl)) rfl
   rw [Q_X27_ (hon 27 (by kernel_rfl))] at e59
   have e52 : a.tmps[52]? = some (.bool (t822 == 8)) := by rw [ha.out]; exact putSel_on (e := (20, 52, .bool (t822 == 8))) 19 rfl rfl (hon 20 (by kernel_rfl)) rfl
   have HO838 := Aside0.mk (Q_HO838 (hon 4 (by kernel_rfl)))
   have HO841 := Aside0.mk (Q_HO841 (hon 5 (by kernel_rfl)))
   have HO845 := Aside0.mk (Q_HO845 (hon 11 (by kernel_rfl)))
   have HO848 := Aside0.mk (Q_HO848 (hon 12 (by kernel_rfl)))
   have HO852 := Aside0.mk (Q_HO852 (hon 21 (by kernel_rfl)))
   have HO855 := Aside0.mk (Q_HO855 (hon 22 (by kernel_rfl)))
   have HO858 := Aside0.mk (Q_HO858 (hon 23 (by kernel_rfl)))
   have HO861 := Aside0.mk (Q_HO861 (hon 24 (by kernel_rfl)))
   have HO864 := Aside0.mk (Q_HO864 (hon 25 (by kernel_rfl)))
   have HO867 := Aside0.mk (Q_HO867 (hon 26 (by kernel_rfl)))
   have HO870 := Aside0.mk (Q_HO870 (hon 27 (by kernel_rfl)))
   obtain ⟨Ao102, co102, eo102⟩ := Kd.V_slice HO864.out
   (first | subst eo102 | (injection eo102 with f1_ f2_ f3_; have f4_ := f1_.symm; have f5_ := f3_.symm; clear f1_ f2_ f3_; subst f4_; subst f5_))
   obtain ⟨Ao103, co103, eo103⟩ := Kd.V_slice HO870.out
   (first | subst eo103 | (injection eo103 with f1_ f2_ f3_; have f4_ := f1_.symm; have f5_ := f3_.symm; clear f1_ f2_ f3_; subst f4_; subst f5_))
   refine goes_ Try.func21 (by kernel_rfl) rfl #[.agg #[.slice Ao102 t862.length co102], .agg #[.slice Ao103 t868.length co103]] (wanted_on rfl rfl rfl (e52.trans (by first | rfl | (simp [*]; done)))) rfl rfl (by first | (simp only [List.map_toArray, List.map_cons, List.map_nil, Act.eval, Array.getD_eq_getD_getElem?, Option.getD_some, e57, e59, e52]; done) | (simp only [List.map_toArray, List.map_cons, List.map_nil, Act.eval, Array.getD_eq_getD_getElem?, Option.getD_some, e57, e59, e52]; rfl)) ?_
   with_reducible refine (nat_Nat_Cmp.calls k _ _ t862 _ _ t868 t871 _ ?side1 ?side2 ?side3 ?side4 A20.out).mono ?_
   (case side1 => exact cv HO864.out)
   (case side2 => exact (Kd.V_reads' HO864.out).2.1)
   (case side3 => exact cv HO870.out)
   (case side4 => exact (Kd.V_reads' HO870.out).2.1)
   rintro e w104 ⟨rfl, hb⟩
   refine ⟨_, rfl, ?_⟩
   replace HO791 := Aside0.mk (rb HO791.out hb)
   replace HO794 := Aside0.mk (vb HO794.out hb)
   replace HO797 := Aside0.mk (rb HO797.out hb)
   replace HO800 := Aside0.mk (vb HO800.out hb)
   replace HO803 := Aside0.mk (vb HO803.out hb)
   replace HO806 := Aside0.mk (vb HO806.out hb)
   replace HO812 := Aside0.mk (rb HO812.out hb)
   replace HO815 := Aside0.mk (vb HO815.out hb)
   replace HO818 := Aside0.mk (vb HO818.out hb)
   replace HO821 := Aside0.mk (vb HO821.out hb)
   replace HO827 := Aside0.mk (rb HO827.out hb)
   replace HO830 := Aside0.mk (vb HO830.out hb)
   replace HO833 := Aside0.mk (vb HO833.out hb)
   replace HO838 := Aside0.mk (rb HO838.out hb)
   replace HO841 := Aside0.mk (vb HO841.out hb)
   replace HO845 := Aside0.mk (rb HO845.out hb)
   replace HO848 := Aside0.mk (vb HO848.out hb)
   replace HO852 := Aside0.mk (rb HO852.out hb)
   replace HO855 := Aside0.mk (vb HO855.out hb)
   replace HO858 := Aside0.mk (rb HO858.out hb)
   replace HO861 := Aside0.mk (vb HO861.out hb)
   replace HO864 := Aside0.mk (vb HO864.out hb)
   replace HO867 := Aside0.mk (rb HO867.out hb)
   replace HO870 := Aside0.mk (vb HO870.out hb)
   replace BK808 := Aside0.mk (bb BK808.out hb)
   replace BK809 := Aside0.mk (bb BK809.out hb)
   replace BK823 := Aside0.mk (bb BK823.out hb)
   replace BK824 := Aside0.mk (bb BK824.out hb)
   replace BK835 := Aside0.mk (bb BK835.out hb)
   replace HB := Aside0.mk (bs HB.out hb)
   (try clear hb)
   (try clear hb2)
   (try clear hk)
   (try clear hi)
   refine hK.out _ _ ⟨v837, v840, v844, v847, v851, v854, v857, v860, .slice Ao102 t862.length co102, v866, .slice Ao103 t868.length co103, m5_, m12_, m22_, m24_, m25_, m27_, (by rw [ha.out]; exact putSel_upk 27 hb_ rfl rfl rfl), HO791.out, HO794.out, HO797.out, HO800.out, HO803.out, HO806.out, HO812.out, HO815.out, HO818.out, HO821.out, HO827.out, HO830.out, HO833.out, BK808.out, BK809.out, BK823.out, BK824.out, BK835.out, (by repeat (first | (with_reducible first | exact HB.out | apply below_alloc | apply pw_below_drewN | apply below_drew1 | refine below_set ?_ GE808.out | refine below_set ?_ GE809.out | refine below_set ?_ GE823.out | refine below_set ?_ GE824.out | refine below_set ?_ GE835.out) | exact HB.out)), fun _ => HO838.out, fun _ => HO841.out, fun _ => HO845.out, fun _ => HO848.out, fun _ => HO852.out, fun _ => HO855.out, fun _ => HO858.out, fun _ => HO861.out, fun _ => HO864.out, fun _ => HO867.out, fun _ => HO870.out, Q_X5_, Q_X12_, Q_X22_, Q_X24_, Q_X25_, Q_X27_⟩
  refine steps_cons ?_ ?_
  ·intro b a w' hx0_ hb_ hon hoff
   refine ex8_ hx0_ fun v837 v840 v844 v847 v851 v854 v857 v860 hx1_ => ex8_ hx1_ fun v863 v866 v869 m5_ m12_ m22_ m24_ m25_ hx2_ => ex1_ hx2_ fun m27_ hx3_ => and8A hx3_ fun ha HO791 HO794 HO797 HO800 HO803 HO806 hy1_ => and8A hy1_ fun HO812 HO815 HO818 HO821 HO827 HO830 HO833 hy2_ => and7A hy2_ fun BK808 BK809 BK823 BK824 BK835 HB hy3_ => and8 hy3_ fun Q_HO838 Q_HO841 Q_HO845 Q_HO848 Q_HO852 Q_HO855 Q_HO858 hy4_ => and8 hy4_ fun Q_HO861 Q_HO864 Q_HO867 Q_HO870 Q_X5_ Q_X12_ Q_X22_ hy5_ => ?_
   have Q_X24_ := hy5_.1; have Q_X25_ := hy5_.2.1; have Q_X27_ := hy5_.2.2; clear hx0_ hx1_ hx2_ hx3_ hy1_ hy2_ hy3_ hy4_ hy5_
   refine ⟨_, rfl, fun K hK => ?_⟩
   have e60 : a.tmps[60]? = some (.int .i64 t871) := by rw [ha.out]; exact putSel_on (e := (28, 60, .int .i64 t871)) 27 rfl rfl (hon 28 (by kernel_rfl)) rfl
   have e52 : a.tmps[52]? = some (.bool (t822 == 8)) := by rw [ha.out]; exact putSel_on (e := (20, 52, .bool (t822 == 8))) 19 rfl rfl (hon 20 (by kernel_rfl)) rfl
   have HO838 := Aside0.mk (Q_HO838 (hon 4 (by kernel_rfl)))
   have HO841 := Aside0.mk (Q_HO841 (hon 5 (by kernel_rfl)))
   have HO845 := Aside0.mk (Q_HO845 (hon 11 (by kernel_rfl)))
   have HO848 := Aside0.mk (Q_HO848 (hon 12 (by kernel_rfl)))
   have HO852 := Aside0.mk (Q_HO852 (hon 21 (by kernel_rfl)))
   have HO855 := Aside0.mk (Q_HO855 (hon 22 (by kernel_rfl)))
   have HO858 := Aside0.mk (Q_HO858 (hon 23 (by kernel_rfl)))
   have HO861 := Aside0.mk (Q_HO861 (hon 24 (by kernel_rfl)))
   have HO864 := Aside0.mk (Q_HO864 (hon 25 (by kernel_rfl)))
   have HO867 := Aside0.mk (Q_HO867 (hon 26 (by kernel_rfl)))
   have HO870 := Aside0.mk (Q_HO870 (hon 27 (by kernel_rfl)))
   refine value_ (w1 := w') (v := .bool (t871 == 0)) (wanted_on rfl rfl rfl (e52.trans (by first | rfl | (simp [*]; done)))) rfl ?_ ?_
   ·go_simp
    (try simp only [i64_w])
    try rfl
   refine hK.out _ _ ⟨v837, v840, v844, v847, v851, v854, v857, v860, v863, v866, v869, m5_, m12_, m22_, m24_, m25_, m27_, (by rw [ha.out]; exact putSel_upk 28 hb_ rfl rfl rfl), HO791.out, HO794.out, HO797.out, HO800.out, HO803.out, HO806.out, HO812.out, HO815.out, HO818.out, HO821.out, HO827.out, HO830.out, HO833.out, BK808.out, BK809.out, BK823.out, BK824.out, BK835.out, HB.out, Q_HO838, Q_HO841, Q_HO845, Q_HO848, Q_HO852, Q_HO855, Q_HO858, Q_HO861, Q_HO864, Q_HO867, Q_HO870, Q_X5_, Q_X12_, Q_X22_, Q_X24_, Q_X25_, Q_X27_⟩
  refine steps_cons ?_ ?_
  ·intro b a w' hx0_ hb_ hon hoff
   refine ex8_ hx0_ fun v837 v840 v844 v847 v851 v854 v857 v860 hx1_ => ex8_ hx1_ fun v863 v866 v869 m5_ m12_ m22_ m24_ m25_ hx2_ => ex1_ hx2_ fun m27_ hx3_ => and8A hx3_ fun ha HO791 HO794 HO797 HO800 HO803 HO806 hy1_ => and8A hy1_ fun HO812 HO815 HO818 HO821 HO827 HO830 HO833 hy2_ => and7A hy2_ fun BK808 BK809 BK823 BK824 BK835 HB hy3_ => and8 hy3_ fun Q_HO838 Q_HO841 Q_HO845 Q_HO848 Q_HO852 Q_HO855 Q_HO858 hy4_ => and8 hy4_ fun Q_HO861 Q_HO864 Q_HO867 Q_HO870 Q_X5_ Q_X12_ Q_X22_ hy5_ => ?_
   have Q_X24_ := hy5_.1; have Q_X25_ := hy5_.2.1; have Q_X27_ := hy5_.2.2; clear hx0_ hx1_ hx2_ hx3_ hy1_ hy2_ hy3_ hy4_ hy5_
   refine ⟨_, rfl, fun K hK => ?_⟩
   have e52 : a.tmps[52]? = some (.bool (t822 == 8)) := by rw [ha.out]; exact putSel_on (e := (20, 52, .bool (t822 == 8))) 19 rfl rfl (hon 20 (by kernel_rfl)) rfl
   have e61 : a.tmps[61]? = some (.bool (t871 == 0)) := by rw [ha.out]; exact putSel_on (e := (29, 61, .bool (t871 == 0))) 28 rfl rfl (hon 29 (by kernel_rfl)) rfl
   have HO838 := Aside0.mk (Q_HO838 (hon 4 (by kernel_rfl)))
   have HO841 := Aside0.mk (Q_HO841 (hon 5 (by kernel_rfl)))
   have HO845 := Aside0.mk (Q_HO845 (hon 11 (by kernel_rfl)))
   have HO848 := Aside0.mk (Q_HO848 (hon 12 (by kernel_rfl)))
   have HO852 := Aside0.mk (Q_HO852 (hon 21 (by kernel_rfl)))
   have HO855 := Aside0.mk (Q_HO855 (hon 22 (by kernel_rfl)))
   have HO858 := Aside0.mk (Q_HO858 (hon 23 (by kernel_rfl)))
   have HO861 := Aside0.mk (Q_HO861 (hon 24 (by kernel_rfl)))
   have HO864 := Aside0.mk (Q_HO864 (hon 25 (by kernel_rfl)))
   have HO867 := Aside0.mk (Q_HO867 (hon 26 (by kernel_rfl)))
   have HO870 := Aside0.mk (Q_HO870 (hon 27 (by kernel_rfl)))
   refine value_ (w1 := w') (v := .bool (t871 == 0)) (by rfl) rfl ?_ ?_
   ·go_simp
    (try simp only [i64_w])
    try rfl
   refine hK.out _ _ ⟨v837, v840, v844, v847, v851, v854, v857, v860, v863, v866, v869, m5_, m12_, m22_, m24_, m25_, m27_, (by rw [ha.out]; exact putSel_upk 29 hb_ rfl rfl rfl), HO791.out, HO794.out, HO797.out, HO800.out, HO803.out, HO806.out, HO812.out, HO815.out, HO818.out, HO821.out, HO827.out, HO830.out, HO833.out, BK808.out, BK809.out, BK823.out, BK824.out, BK835.out, HB.out, Q_HO838, Q_HO841, Q_HO845, Q_HO848, Q_HO852, Q_HO855, Q_HO858, Q_HO861, Q_HO864, Q_HO867, Q_HO870, Q_X5_, Q_X12_, Q_X22_, Q_X24_, Q_X25_, Q_X27_⟩
  refine steps_cons ?_ ?_
  ·intro b a w' hx0_ hb_ hon hoff
   refine ex8_ hx0_ fun v837 v840 v844 v847 v851 v854 v857 v860 hx1_ => ex8_ hx1_ fun v863 v866 v869 m5_ m12_ m22_ m24_ m25_ hx2_ => ex1_ hx2_ fun m27_ hx3_ => and8A hx3_ fun ha HO791 HO794 HO797 HO800 HO803 HO806 hy1_ => and8A hy1_ fun HO812 HO815 HO818 HO821 HO827 HO830 HO833 hy2_ => and7A hy2_ fun BK808 BK809 BK823 BK824 BK835 HB hy3_ => and8 hy3_ fun Q_HO838 Q_HO841 Q_HO845 Q_HO848 Q_HO852 Q_HO855 Q_HO858 hy4_ => and8 hy4_ fun Q_HO861 Q_HO864 Q_HO867 Q_HO870 Q_X5_ Q_X12_ Q_X22_ hy5_ => ?_
   have Q_X24_ := hy5_.1; have Q_X25_ := hy5_.2.1; have Q_X27_ := hy5_.2.2; clear hx0_ hx1_ hx2_ hx3_ hy1_ hy2_ hy3_ hy4_ hy5_
   refine ⟨_, rfl, fun K hK => ?_⟩
   have e62 : a.tmps[62]? = some (.bool (t871 == 0)) := by rw [ha.out]; exact putSel_on (e := (30, 62, .bool (t871 == 0))) 29 rfl rfl (hon 30 (by kernel_rfl)) rfl
   have HO838 := Aside0.mk (Q_HO838 (hon 4 (by kernel_rfl)))
   have HO841 := Aside0.mk (Q_HO841 (hon 5 (by kernel_rfl)))
   have HO845 := Aside0.mk (Q_HO845 (hon 11 (by kernel_rfl)))
   have HO848 := Aside0.mk (Q_HO848 (hon 12 (by kernel_rfl)))
   have HO852 := Aside0.mk (Q_HO852 (hon 21 (by kernel_rfl)))
   have HO855 := Aside0.mk (Q_HO855 (hon 22 (by kernel_rfl)))
   have HO858 := Aside0.mk (Q_HO858 (hon 23 (by kernel_rfl)))
   have HO861 := Aside0.mk (Q_HO861 (hon 24 (by kernel_rfl)))
   have HO864 := Aside0.mk (Q_HO864 (hon 25 (by kernel_rfl)))
   have HO867 := Aside0.mk (Q_HO867 (hon 26 (by kernel_rfl)))
   have HO870 := Aside0.mk (Q_HO870 (hon 27 (by kernel_rfl)))
   refine value_ (w1 := w') (v := .bool (t871 == 0)) (by rfl) rfl ?_ ?_
   ·go_simp
    (try simp only [i64_w])
    try rfl
   refine hK.out _ _ ⟨v837, v840, v844, v847, v851, v854, v857, v860, v863, v866, v869, m5_, m12_, m22_, m24_, m25_, m27_, (by rw [ha.out]; exact putSel_upk 30 hb_ rfl rfl rfl), HO791.out, HO794.out, HO797.out, HO800.out, HO803.out, HO806.out, HO812.out, HO815.out, HO818.out, HO821.out, HO827.out, HO830.out, HO833.out, BK808.out, BK809.out, BK823.out, BK824.out, BK835.out, HB.out, Q_HO838, Q_HO841, Q_HO845, Q_HO848, Q_HO852, Q_HO855, Q_HO858, Q_HO861, Q_HO864, Q_HO867, Q_HO870, Q_X5_, Q_X12_, Q_X22_, Q_X24_, Q_X25_, Q_X27_⟩
  refine steps_cons ?_ ?_
  ·intro b a w' hx0_ hb_ hon hoff
   refine ex8_ hx0_ fun v837 v840 v844 v847 v851 v854 v857 v860 hx1_ => ex8_ hx1_ fun v863 v866 v869 m5_ m12_ m22_ m24_ m25_ hx2_ => ex1_ hx2_ fun m27_ hx3_ => and8A hx3_ fun ha HO791 HO794 HO797 HO800 HO803 HO806 hy1_ => and8A hy1_ fun HO812 HO815 HO818 HO821 HO827 HO830 HO833 hy2_ => and7A hy2_ fun BK808 BK809 BK823 BK824 BK835 HB hy3_ => and8 hy3_ fun Q_HO838 Q_HO841 Q_HO845 Q_HO848 Q_HO852 Q_HO855 Q_HO858 hy4_ => and8 hy4_ fun Q_HO861 Q_HO864 Q_HO867 Q_HO870 Q_X5_ Q_X12_ Q_X22_ hy5_ => ?_
   have Q_X24_ := hy5_.1; have Q_X25_ := hy5_.2.1; have Q_X27_ := hy5_.2.2; clear hx0_ hx1_ hx2_ hx3_ hy1_ hy2_ hy3_ hy4_ hy5_
   refine ⟨_, rfl, fun K hK => ?_⟩
   have e7 : a.tmps[7]? = some (.pointer (some ⟨gb835, 0, none⟩)) := by rw [ha.out]; exact (putSel_off rfl).trans rfl
   have e63 : a.tmps[63]? = some (.bool (t871 == 0)) := by rw [ha.out]; exact putSel_on (e := (31, 63, .bool (t871 == 0))) 30 rfl rfl (hon 31 (by kernel_rfl)) rfl
   have HO838 := Aside0.mk (Q_HO838 (hon 4 (by kernel_rfl)))
   have HO841 := Aside0.mk (Q_HO841 (hon 5 (by kernel_rfl)))
   have HO845 := Aside0.mk (Q_HO845 (hon 11 (by kernel_rfl)))
   have HO848 := Aside0.mk (Q_HO848 (hon 12 (by kernel_rfl)))
   have HO852 := Aside0.mk (Q_HO852 (hon 21 (by kernel_rfl)))
   have HO855 := Aside0.mk (Q_HO855 (hon 22 (by kernel_rfl)))
   have HO858 := Aside0.mk (Q_HO858 (hon 23 (by kernel_rfl)))
   have HO861 := Aside0.mk (Q_HO861 (hon 24 (by kernel_rfl)))
   have HO864 := Aside0.mk (Q_HO864 (hon 25 (by kernel_rfl)))
   have HO867 := Aside0.mk (Q_HO867 (hon 26 (by kernel_rfl)))
   have HO870 := Aside0.mk (Q_HO870 (hon 27 (by kernel_rfl)))
   have hc0_ : w'.cell? ⟨gb835, 0, none⟩ = some (.slice Ao66 t831.length co66) := (blk_cell BK835.out 0).trans rfl
   refine value_ (w1 := w') (v := .agg #[.slice Ao66 t831.length co66]) (wanted_on rfl rfl rfl (e63.trans (by first | rfl | (simp [*]; done)))) rfl ?_ ?_
   ·go_simp
    (try simp only [i64_w])
    try rfl
   refine hK.out _ _ ⟨v837, v840, v844, v847, v851, v854, v857, v860, v863, v866, v869, m5_, m12_, m22_, m24_, m25_, m27_, (by rw [ha.out]; exact putSel_upk 31 hb_ rfl rfl rfl), HO791.out, HO794.out, HO797.out, HO800.out, HO803.out, HO806.out, HO812.out, HO815.out, HO818.out, HO821.out, HO827.out, HO830.out, HO833.out, BK808.out, BK809.out, BK823.out, BK824.out, BK835.out, HB.out, Q_HO838, Q_HO841, Q_HO845, Q_HO848, Q_HO852, Q_HO855, Q_HO858, Q_HO861, Q_HO864, Q_HO867, Q_HO870, Q_X5_, Q_X12_, Q_X22_, Q_X24_, Q_X25_, Q_X27_⟩
  refine steps_cons ?_ ?_
  ·intro b a w' hx0_ hb_ hon hoff
   refine ex8_ hx0_ fun v837 v840 v844 v847 v851 v854 v857 v860 hx1_ => ex8_ hx1_ fun v863 v866 v869 m5_ m12_ m22_ m24_ m25_ hx2_ => ex1_ hx2_ fun m27_ hx3_ => and8A hx3_ fun ha HO791 HO794 HO797 HO800 HO803 HO806 hy1_ => and8A hy1_ fun HO812 HO815 HO818 HO821 HO827 HO830 HO833 hy2_ => and7A hy2_ fun BK808 BK809 BK823 BK824 BK835 HB hy3_ => and8 hy3_ fun Q_HO838 Q_HO841 Q_HO845 Q_HO848 Q_HO852 Q_HO855 Q_HO858 hy4_ => and8 hy4_ fun Q_HO861 Q_HO864 Q_HO867 Q_HO870 Q_X5_ Q_X12_ Q_X22_ hy5_ => ?_
   have Q_X24_ := hy5_.1; have Q_X25_ := hy5_.2.1; have Q_X27_ := hy5_.2.2; clear hx0_ hx1_ hx2_ hx3_ hy1_ hy2_ hy3_ hy4_ hy5_
   refine ⟨_, rfl, fun K hK => ?_⟩
   have e64 : a.tmps[64]? = some (.agg #[.slice Ao66 t831.length co66]) := by rw [ha.out]; exact putSel_on (e := (32, 64, .agg #[.slice Ao66 t831.length co66])) 31 rfl rfl (hon 32 (by kernel_rfl)) rfl
   have e63 : a.tmps[63]? = some (.bool (t871 == 0)) := by rw [ha.out]; exact putSel_on (e := (31, 63, .bool (t871 == 0))) 30 rfl rfl (hon 31 (by kernel_rfl)) rfl
   have HO838 := Aside0.mk (Q_HO838 (hon 4 (by kernel_rfl)))
   have HO841 := Aside0.mk (Q_HO841 (hon 5 (by kernel_rfl)))
   have HO845 := Aside0.mk (Q_HO845 (hon 11 (by kernel_rfl)))
   have HO848 := Aside0.mk (Q_HO848 (hon 12 (by kernel_rfl)))
   have HO852 := Aside0.mk (Q_HO852 (hon 21 (by kernel_rfl)))
   have HO855 := Aside0.mk (Q_HO855 (hon 22 (by kernel_rfl)))
   have HO858 := Aside0.mk (Q_HO858 (hon 23 (by kernel_rfl)))
   have HO861 := Aside0.mk (Q_HO861 (hon 24 (by kernel_rfl)))
   have HO864 := Aside0.mk (Q_HO864 (hon 25 (by kernel_rfl)))
   have HO867 := Aside0.mk (Q_HO867 (hon 26 (by kernel_rfl)))
   have HO870 := Aside0.mk (Q_HO870 (hon 27 (by kernel_rfl)))
   refine goes_ Try.func19 (by kernel_rfl) rfl #[.agg #[.slice Ao66 t831.length co66]] (wanted_on rfl rfl rfl (e63.trans (by first | rfl | (simp [*]; done)))) rfl rfl (by first | (simp only [List.map_toArray, List.map_cons, List.map_nil, Act.eval, Array.getD_eq_getD_getElem?, Option.getD_some, e64, e63]; done) | (simp only [List.map_toArray, List.map_cons, List.map_nil, Act.eval, Array.getD_eq_getD_getElem?, Option.getD_some, e64, e63]; rfl)) ?_
   with_reducible refine (nat_Nat_Bits.calls k _ _ t831 t872 _ ?side1 ?side2 A22.out).mono ?_
   (case side1 => exact cv HO833.out)
   (case side2 => exact (Kd.V_reads' HO833.out).2.1)
   rintro e w105 ⟨rfl, hb⟩
   refine ⟨_, rfl, ?_⟩
   replace HO791 := Aside0.mk (rb HO791.out hb)
   replace HO794 := Aside0.mk (vb HO794.out hb)
   replace HO797 := Aside0.mk (rb HO797.out hb)
   replace HO800 := Aside0.mk (vb HO800.out hb)
   replace HO803 := Aside0.mk (vb HO803.out hb)
   replace HO806 := Aside0.mk (vb HO806.out hb)
   replace HO812 := Aside0.mk (rb HO812.out hb)
   replace HO815 := Aside0.mk (vb HO815.out hb)
   replace HO818 := Aside0.mk (vb HO818.out hb)
   replace HO821 := Aside0.mk (vb HO821.out hb)
   replace HO827 := Aside0.mk (rb HO827.out hb)
   replace HO830 := Aside0.mk (vb HO830.out hb)
   replace HO833 := Aside0.mk (vb HO833.out hb)
   replace HO838 := Aside0.mk (rb HO838.out hb)
   replace HO841 := Aside0.mk (vb HO841.out hb)
   replace HO845 := Aside0.mk (rb HO845.out hb)
   replace HO848 := Aside0.mk (vb HO848.out hb)
   replace HO852 := Aside0.mk (rb HO852.out hb)
   replace HO855 := Aside0.mk (vb HO855.out hb)
   replace HO858 := Aside0.mk (rb HO858.out hb)
   replace HO861 := Aside0.mk (vb HO861.out hb)
   replace HO864 := Aside0.mk (vb HO864.out hb)
   replace HO867 := Aside0.mk (rb HO867.out hb)
   replace HO870 := Aside0.mk (vb HO870.out hb)
   replace BK808 := Aside0.mk (bb BK808.out hb)
   replace BK809 := Aside0.mk (bb BK809.out hb)
   replace BK823 := Aside0.mk (bb BK823.out hb)
   replace BK824 := Aside0.mk (bb BK824.out hb)
   replace BK835 := Aside0.mk (bb BK835.out hb)
   replace HB := Aside0.mk (bs HB.out hb)
   (try clear hb)
   (try clear hb2)
   (try clear hk)
   (try clear hi)
   refine hK.out _ _ ⟨v837, v840, v844, v847, v851, v854, v857, v860, v863, v866, v869, m5_, m12_, m22_, m24_, m25_, m27_, (by rw [ha.out]; exact putSel_upk 32 hb_ rfl rfl rfl), HO791.out, HO794.out, HO797.out, HO800.out, HO803.out, HO806.out, HO812.out, HO815.out, HO818.out, HO821.out, HO827.out, HO830.out, HO833.out, BK808.out, BK809.out, BK823.out, BK824.out, BK835.out, (by repeat (first | (with_reducible first | exact HB.out | apply below_alloc | apply pw_below_drewN | apply below_drew1 | refine below_set ?_ GE808.out | refine below_set ?_ GE809.out | refine below_set ?_ GE823.out | refine below_set ?_ GE824.out | refine below_set ?_ GE835.out) | exact HB.out)), fun _ => HO838.out, fun _ => HO841.out, fun _ => HO845.out, fun _ => HO848.out, fun _ => HO852.out, fun _ => HO855.out, fun _ => HO858.out, fun _ => HO861.out, fun _ => HO864.out, fun _ => HO867.out, fun _ => HO870.out, Q_X5_, Q_X12_, Q_X22_, Q_X24_, Q_X25_, Q_X27_⟩
  refine steps_cons ?_ ?_
  ·intro b a w' hx0_ hb_ hon hoff
   refine ex8_ hx0_ fun v837 v840 v844 v847 v851 v854 v857 v860 hx1_ => ex8_ hx1_ fun v863 v866 v869 m5_ m12_ m22_ m24_ m25_ hx2_ => ex1_ hx2_ fun m27_ hx3_ => and8A hx3_ fun ha HO791 HO794 HO797 HO800 HO803 HO806 hy1_ => and8A hy1_ fun HO812 HO815 HO818 HO821 HO827 HO830 HO833 hy2_ => and7A hy2_ fun BK808 BK809 BK823 BK824 BK835 HB hy3_ => and8 hy3_ fun Q_HO838 Q_HO841 Q_HO845 Q_HO848 Q_HO852 Q_HO855 Q_HO858 hy4_ => and8 hy4_ fun Q_HO861 Q_HO864 Q_HO867 Q_HO870 Q_X5_ Q_X12_ Q_X22_ hy5_ => ?_
   have Q_X24_ := hy5_.1; have Q_X25_ := hy5_.2.1; have Q_X27_ := hy5_.2.2; clear hx0_ hx1_ hx2_ hx3_ hy1_ hy2_ hy3_ hy4_ hy5_
   refine ⟨_, rfl, fun K hK => ?_⟩
   have e65 : a.tmps[65]? = some (.int .i64 t872) := by rw [ha.out]; exact putSel_on (e := (33, 65, .int .i64 t872)) 32 rfl rfl (hon 33 (by kernel_rfl)) rfl
   have e63 : a.tmps[63]? = some (.bool (t871 == 0)) := by rw [ha.out]; exact putSel_on (e := (31, 63, .bool (t871 == 0))) 30 rfl rfl (hon 31 (by kernel_rfl)) rfl
   have HO838 := Aside0.mk (Q_HO838 (hon 4 (by kernel_rfl)))
   have HO841 := Aside0.mk (Q_HO841 (hon 5 (by kernel_rfl)))
   have HO845 := Aside0.mk (Q_HO845 (hon 11 (by kernel_rfl)))
   have HO848 := Aside0.mk (Q_HO848 (hon 12 (by kernel_rfl)))
   have HO852 := Aside0.mk (Q_HO852 (hon 21 (by kernel_rfl)))
   have HO855 := Aside0.mk (Q_HO855 (hon 22 (by kernel_rfl)))
   have HO858 := Aside0.mk (Q_HO858 (hon 23 (by kernel_rfl)))
   have HO861 := Aside0.mk (Q_HO861 (hon 24 (by kernel_rfl)))
   have HO864 := Aside0.mk (Q_HO864 (hon 25 (by kernel_rfl)))
   have HO867 := Aside0.mk (Q_HO867 (hon 26 (by kernel_rfl)))
   have HO870 := Aside0.mk (Q_HO870 (hon 27 (by kernel_rfl)))
   refine value_ (w1 := w') (v := .bool (t872 == 65)) (wanted_on rfl rfl rfl (e63.trans (by first | rfl | (simp [*]; done)))) rfl ?_ ?_
   ·go_simp
    (try simp only [i64_w])
    try rfl
   refine hK.out _ _ ⟨v837, v840, v844, v847, v851, v854, v857, v860, v863, v866, v869, m5_, m12_, m22_, m24_, m25_, m27_, (by rw [ha.out]; exact putSel_upk 33 hb_ rfl rfl rfl), HO791.out, HO794.out, HO797.out, HO800.out, HO803.out, HO806.out, HO812.out, HO815.out, HO818.out, HO821.out, HO827.out, HO830.out, HO833.out, BK808.out, BK809.out, BK823.out, BK824.out, BK835.out, HB.out, Q_HO838, Q_HO841, Q_HO845, Q_HO848, Q_HO852, Q_HO855, Q_HO858, Q_HO861, Q_HO864, Q_HO867, Q_HO870, Q_X5_, Q_X12_, Q_X22_, Q_X24_, Q_X25_, Q_X27_⟩
  refine steps_cons ?_ ?_
  ·intro b a w' hx0_ hb_ hon hoff
   refine ex8_ hx0_ fun v837 v840 v844 v847 v851 v854 v857 v860 hx1_ => ex8_ hx1_ fun v863 v866 v869 m5_ m12_ m22_ m24_ m25_ hx2_ => ex1_ hx2_ fun m27_ hx3_ => and8A hx3_ fun ha HO791 HO794 HO797 HO800 HO803 HO806 hy1_ => and8A hy1_ fun HO812 HO815 HO818 HO821 HO827 HO830 HO833 hy2_ => and7A hy2_ fun BK808 BK809 BK823 BK824 BK835 HB hy3_ => and8 hy3_ fun Q_HO838 Q_HO841 Q_HO845 Q_HO848 Q_HO852 Q_HO855 Q_HO858 hy4_ => and8 hy4_ fun Q_HO861 Q_HO864 Q_HO867 Q_HO870 Q_X5_ Q_X12_ Q_X22_ hy5_ => ?_
   have Q_X24_ := hy5_.1; have Q_X25_ := hy5_.2.1; have Q_X27_ := hy5_.2.2; clear hx0_ hx1_ hx2_ hx3_ hy1_ hy2_ hy3_ hy4_ hy5_
   refine ⟨_, rfl, fun K hK => ?_⟩
   have e63 : a.tmps[63]? = some (.bool (t871 == 0)) := by rw [ha.out]; exact putSel_on (e := (31, 63, .bool (t871 == 0))) 30 rfl rfl (hon 31 (by kernel_rfl)) rfl
   have e66 : a.tmps[66]? = some (.bool (t872 == 65)) := by rw [ha.out]; exact putSel_on (e := (34, 66, .bool (t872 == 65))) 33 rfl rfl (hon 34 (by kernel_rfl)) rfl
   have HO838 := Aside0.mk (Q_HO838 (hon 4 (by kernel_rfl)))
   have HO841 := Aside0.mk (Q_HO841 (hon 5 (by kernel_rfl)))
   have HO845 := Aside0.mk (Q_HO845 (hon 11 (by kernel_rfl)))
   have HO848 := Aside0.mk (Q_HO848 (hon 12 (by kernel_rfl)))
   have HO852 := Aside0.mk (Q_HO852 (hon 21 (by kernel_rfl)))
   have HO855 := Aside0.mk (Q_HO855 (hon 22 (by kernel_rfl)))
   have HO858 := Aside0.mk (Q_HO858 (hon 23 (by kernel_rfl)))
   have HO861 := Aside0.mk (Q_HO861 (hon 24 (by kernel_rfl)))
   have HO864 := Aside0.mk (Q_HO864 (hon 25 (by kernel_rfl)))
   have HO867 := Aside0.mk (Q_HO867 (hon 26 (by kernel_rfl)))
   have HO870 := Aside0.mk (Q_HO870 (hon 27 (by kernel_rfl)))
   refine value_ (w1 := w') (v := .bool (t872 == 65)) (by rfl) rfl ?_ ?_
   ·go_simp
    (try simp only [i64_w])
    try rfl
   refine hK.out _ _ ⟨v837, v840, v844, v847, v851, v854, v857, v860, v863, v866, v869, m5_, m12_, m22_, m24_, m25_, m27_, (by rw [ha.out]; exact putSel_upk 34 hb_ rfl rfl rfl), HO791.out, HO794.out, HO797.out, HO800.out, HO803.out, HO806.out, HO812.out, HO815.out, HO818.out, HO821.out, HO827.out, HO830.out, HO833.out, BK808.out, BK809.out, BK823.out, BK824.out, BK835.out, HB.out, Q_HO838, Q_HO841, Q_HO845, Q_HO848, Q_HO852, Q_HO855, Q_HO858, Q_HO861, Q_HO864, Q_HO867, Q_HO870, Q_X5_, Q_X12_, Q_X22_, Q_X24_, Q_X25_, Q_X27_⟩
  refine steps_cons ?_ ?_
  ·intro b a w' hx0_ hb_ hon hoff
   refine ex8_ hx0_ fun v837 v840 v844 v847 v851 v854 v857 v860 hx1_ => ex8_ hx1_ fun v863 v866 v869 m5_ m12_ m22_ m24_ m25_ hx2_ => ex1_ hx2_ fun m27_ hx3_ => and8A hx3_ fun ha HO791 HO794 HO797 HO800 HO803 HO806 hy1_ => and8A hy1_ fun HO812 HO815 HO818 HO821 HO827 HO830 HO833 hy2_ => and7A hy2_ fun BK808 BK809 BK823 BK824 BK835 HB hy3_ => and8 hy3_ fun Q_HO838 Q_HO841 Q_HO845 Q_HO848 Q_HO852 Q_HO855 Q_HO858 hy4_ => and8 hy4_ fun Q_HO861 Q_HO864 Q_HO867 Q_HO870 Q_X5_ Q_X12_ Q_X22_ hy5_ => ?_
   have Q_X24_ := hy5_.1; have Q_X25_ := hy5_.2.1; have Q_X27_ := hy5_.2.2; clear hx0_ hx1_ hx2_ hx3_ hy1_ hy2_ hy3_ hy4_ hy5_
   refine ⟨_, rfl, fun K hK => ?_⟩
   have e67 : a.tmps[67]? = some (.bool (t872 == 65)) := by rw [ha.out]; exact putSel_on (e := (35, 67, .bool (t872 == 65))) 34 rfl rfl (hon 35 (by kernel_rfl)) rfl
   have HO838 := Aside0.mk (Q_HO838 (hon 4 (by kernel_rfl)))
   have HO841 := Aside0.mk (Q_HO841 (hon 5 (by kernel_rfl)))
   have HO845 := Aside0.mk (Q_HO845 (hon 11 (by kernel_rfl)))
   have HO848 := Aside0.mk (Q_HO848 (hon 12 (by kernel_rfl)))
   have HO852 := Aside0.mk (Q_HO852 (hon 21 (by kernel_rfl)))
   have HO855 := Aside0.mk (Q_HO855 (hon 22 (by kernel_rfl)))
   have HO858 := Aside0.mk (Q_HO858 (hon 23 (by kernel_rfl)))
   have HO861 := Aside0.mk (Q_HO861 (hon 24 (by kernel_rfl)))
   have HO864 := Aside0.mk (Q_HO864 (hon 25 (by kernel_rfl)))
   have HO867 := Aside0.mk (Q_HO867 (hon 26 (by kernel_rfl)))
   have HO870 := Aside0.mk (Q_HO870 (hon 27 (by kernel_rfl)))
   refine value_ (w1 := w') (v := .bool (t872 == 65)) (by rfl) rfl ?_ ?_
   ·go_simp
    (try simp only [i64_w])
    try rfl
   refine hK.out _ _ ⟨v837, v840, v844, v847, v851, v854, v857, v860, v863, v866, v869, m5_, m12_, m22_, m24_, m25_, m27_, (by rw [ha.out]; exact putSel_upk 35 hb_ rfl rfl rfl), HO791.out, HO794.out, HO797.out, HO800.out, HO803.out, HO806.out, HO812.out, HO815.out, HO818.out, HO821.out, HO827.out, HO830.out, HO833.out, BK808.out, BK809.out, BK823.out, BK824.out, BK835.out, HB.out, Q_HO838, Q_HO841, Q_HO845, Q_HO848, Q_HO852, Q_HO855, Q_HO858, Q_HO861, Q_HO864, Q_HO867, Q_HO870, Q_X5_, Q_X12_, Q_X22_, Q_X24_, Q_X25_, Q_X27_⟩
  refine steps_cons ?_ ?_
  ·intro b a w' hx0_ hb_ hon hoff
   refine ex8_ hx0_ fun v837 v840 v844 v847 v851 v854 v857 v860 hx1_ => ex8_ hx1_ fun v863 v866 v869 m5_ m12_ m22_ m24_ m25_ hx2_ => ex1_ hx2_ fun m27_ hx3_ => and8A hx3_ fun ha HO791 HO794 HO797 HO800 HO803 HO806 hy1_ => and8A hy1_ fun HO812 HO815 HO818 HO821 HO827 HO830 HO833 hy2_ => and7A hy2_ fun BK808 BK809 BK823 BK824 BK835 HB hy3_ => and8 hy3_ fun Q_HO838 Q_HO841 Q_HO845 Q_HO848 Q_HO852 Q_HO855 Q_HO858 hy4_ => and8 hy4_ fun Q_HO861 Q_HO864 Q_HO867 Q_HO870 Q_X5_ Q_X12_ Q_X22_ hy5_ => ?_
   have Q_X24_ := hy5_.1; have Q_X25_ := hy5_.2.1; have Q_X27_ := hy5_.2.2; clear hx0_ hx1_ hx2_ hx3_ hy1_ hy2_ hy3_ hy4_ hy5_
   refine ⟨_, rfl, fun K hK => ?_⟩
   have e8 : a.tmps[8]? = some (.int .i64 t834) := by rw [ha.out]; exact (putSel_off rfl).trans rfl
   have e68 : a.tmps[68]? = some (.bool (t872 == 65)) := by rw [ha.out]; exact putSel_on (e := (36, 68, .bool (t872 == 65))) 35 rfl rfl (hon 36 (by kernel_rfl)) rfl
   have HO838 := Aside0.mk (Q_HO838 (hon 4 (by kernel_rfl)))
   have HO841 := Aside0.mk (Q_HO841 (hon 5 (by kernel_rfl)))
   have HO845 := Aside0.mk (Q_HO845 (hon 11 (by kernel_rfl)))
   have HO848 := Aside0.mk (Q_HO848 (hon 12 (by kernel_rfl)))
   have HO852 := Aside0.mk (Q_HO852 (hon 21 (by kernel_rfl)))
   have HO855 := Aside0.mk (Q_HO855 (hon 22 (by kernel_rfl)))
   have HO858 := Aside0.mk (Q_HO858 (hon 23 (by kernel_rfl)))
   have HO861 := Aside0.mk (Q_HO861 (hon 24 (by kernel_rfl)))
   have HO864 := Aside0.mk (Q_HO864 (hon 25 (by kernel_rfl)))
   have HO867 := Aside0.mk (Q_HO867 (hon 26 (by kernel_rfl)))
   have HO870 := Aside0.mk (Q_HO870 (hon 27 (by kernel_rfl)))
   refine value_ (w1 := w') (v := .int .i64 t834) (wanted_on rfl rfl rfl (e68.trans (by first | rfl | (simp [*]; done)))) rfl ?_ ?_
   ·go_simp
    (try simp only [i64_w])
    try rfl
   refine hK.out _ _ ⟨v837, v840, v844, v847, v851, v854, v857, v860, v863, v866, v869, m5_, m12_, m22_, m24_, m25_, m27_, (by rw [ha.out]; exact putSel_upk 36 hb_ rfl rfl rfl), HO791.out, HO794.out, HO797.out, HO800.out, HO803.out, HO806.out, HO812.out, HO815.out, HO818.out, HO821.out, HO827.out, HO830.out, HO833.out, BK808.out, BK809.out, BK823.out, BK824.out, BK835.out, HB.out, Q_HO838, Q_HO841, Q_HO845, Q_HO848, Q_HO852, Q_HO855, Q_HO858, Q_HO861, Q_HO864, Q_HO867, Q_HO870, Q_X5_, Q_X12_, Q_X22_, Q_X24_, Q_X25_, Q_X27_⟩
  refine steps_cons ?_ ?_
  ·intro b a w' hx0_ hb_ hon hoff
   refine ex8_ hx0_ fun v837 v840 v844 v847 v851 v854 v857 v860 hx1_ => ex8_ hx1_ fun v863 v866 v869 m5_ m12_ m22_ m24_ m25_ hx2_ => ex1_ hx2_ fun m27_ hx3_ => and8A hx3_ fun ha HO791 HO794 HO797 HO800 HO803 HO806 hy1_ => and8A hy1_ fun HO812 HO815 HO818 HO821 HO827 HO830 HO833 hy2_ => and7A hy2_ fun BK808 BK809 BK823 BK824 BK835 HB hy3_ => and8 hy3_ fun Q_HO838 Q_HO841 Q_HO845 Q_HO848 Q_HO852 Q_HO855 Q_HO858 hy4_ => and8 hy4_ fun Q_HO861 Q_HO864 Q_HO867 Q_HO870 Q_X5_ Q_X12_ Q_X22_ hy5_ => ?_
   have Q_X24_ := hy5_.1; have Q_X25_ := hy5_.2.1; have Q_X27_ := hy5_.2.2; clear hx0_ hx1_ hx2_ hx3_ hy1_ hy2_ hy3_ hy4_ hy5_
   refine ⟨_, rfl, fun K hK => ?_⟩
   have e69 : a.tmps[69]? = some (.int .i64 t834) := by rw [ha.out]; exact putSel_on (e := (37, 69, .int .i64 t834)) 36 rfl rfl (hon 37 (by kernel_rfl)) rfl
   have e68 : a.tmps[68]? = some (.bool (t872 == 65)) := by rw [ha.out]; exact putSel_on (e := (36, 68, .bool (t872 == 65))) 35 rfl rfl (hon 36 (by kernel_rfl)) rfl
   have HO838 := Aside0.mk (Q_HO838 (hon 4 (by kernel_rfl)))
   have HO841 := Aside0.mk (Q_HO841 (hon 5 (by kernel_rfl)))
   have HO845 := Aside0.mk (Q_HO845 (hon 11 (by kernel_rfl)))
   have HO848 := Aside0.mk (Q_HO848 (hon 12 (by kernel_rfl)))
   have HO852 := Aside0.mk (Q_HO852 (hon 21 (by kernel_rfl)))
   have HO855 := Aside0.mk (Q_HO855 (hon 22 (by kernel_rfl)))
   have HO858 := Aside0.mk (Q_HO858 (hon 23 (by kernel_rfl)))
   have HO861 := Aside0.mk (Q_HO861 (hon 24 (by kernel_rfl)))
   have HO864 := Aside0.mk (Q_HO864 (hon 25 (by kernel_rfl)))
   have HO867 := Aside0.mk (Q_HO867 (hon 26 (by kernel_rfl)))
   have HO870 := Aside0.mk (Q_HO870 (hon 27 (by kernel_rfl)))
   refine value_ (w1 := w') (v := .bool (t834 == 0)) (wanted_on rfl rfl rfl (e68.trans (by first | rfl | (simp [*]; done)))) rfl ?_ ?_
   ·go_simp
    (try simp only [i64_w])
    try rfl
   refine hK.out _ _ ⟨v837, v840, v844, v847, v851, v854, v857, v860, v863, v866, v869, m5_, m12_, m22_, m24_, m25_, m27_, (by rw [ha.out]; exact putSel_upk 37 hb_ rfl rfl rfl), HO791.out, HO794.out, HO797.out, HO800.out, HO803.out, HO806.out, HO812.out, HO815.out, HO818.out, HO821.out, HO827.out, HO830.out, HO833.out, BK808.out, BK809.out, BK823.out, BK824.out, BK835.out, HB.out, Q_HO838, Q_HO841, Q_HO845, Q_HO848, Q_HO852, Q_HO855, Q_HO858, Q_HO861, Q_HO864, Q_HO867, Q_HO870, Q_X5_, Q_X12_, Q_X22_, Q_X24_, Q_X25_, Q_X27_⟩
  refine steps_cons ?_ ?_
  ·intro b a w' hx0_ hb_ hon hoff
   refine ex8_ hx0_ fun v837 v840 v844 v847 v851 v854 v857 v860 hx1_ => ex8_ hx1_ fun v863 v866 v869 m5_ m12_ m22_ m24_ m25_ hx2_ => ex1_ hx2_ fun m27_ hx3_ => and8A hx3_ fun ha HO791 HO794 HO797 HO800 HO803 HO806 hy1_ => and8A hy1_ fun HO812 HO815 HO818 HO821 HO827 HO830 HO833 hy2_ => and7A hy2_ fun BK808 BK809 BK823 BK824 BK835 HB hy3_ => and8 hy3_ fun Q_HO838 Q_HO841 Q_HO845 Q_HO848 Q_HO852 Q_HO855 Q_HO858 hy4_ => and8 hy4_ fun Q_HO861 Q_HO864 Q_HO867 Q_HO870 Q_X5_ Q_X12_ Q_X22_ hy5_ => ?_
   have Q_X24_ := hy5_.1; have Q_X25_ := hy5_.2.1; have Q_X27_ := hy5_.2.2; clear hx0_ hx1_ hx2_ hx3_ hy1_ hy2_ hy3_ hy4_ hy5_
   refine ⟨_, rfl, fun K hK => ?_⟩
   have e68 : a.tmps[68]? = some (.bool (t872 == 65)) := by rw [ha.out]; exact putSel_on (e := (36, 68, .bool (t872 == 65))) 35 rfl rfl (hon 36 (by kernel_rfl)) rfl
   have e70 : a.tmps[70]? = some (.bool (t834 == 0)) := by rw [ha.out]; exact putSel_on (e := (38, 70, .bool (t834 == 0))) 37 rfl rfl (hon 38 (by kernel_rfl)) rfl
   have HO838 := Aside0.mk (Q_HO838 (hon 4 (by kernel_rfl)))
   have HO841 := Aside0.mk (Q_HO841 (hon 5 (by kernel_rfl)))
   have HO845 := Aside0.mk (Q_HO845 (hon 11 (by kernel_rfl)))
   have HO848 := Aside0.mk (Q_HO848 (hon 12 (by kernel_rfl)))
   have HO852 := Aside0.mk (Q_HO852 (hon 21 (by kernel_rfl)))
   have HO855 := Aside0.mk (Q_HO855 (hon 22 (by kernel_rfl)))
   have HO858 := Aside0.mk (Q_HO858 (hon 23 (by kernel_rfl)))
   have HO861 := Aside0.mk (Q_HO861 (hon 24 (by kernel_rfl)))
   have HO864 := Aside0.mk (Q_HO864 (hon 25 (by kernel_rfl)))
   have HO867 := Aside0.mk (Q_HO867 (hon 26 (by kernel_rfl)))
   have HO870 := Aside0.mk (Q_HO870 (hon 27 (by kernel_rfl)))
   refine value_ (w1 := w') (v := .bool (t834 == 0)) (by rfl) rfl ?_ ?_
   ·go_simp
    (try simp only [i64_w])
    try rfl
   refine hK.out _ _ ⟨v837, v840, v844, v847, v851, v854, v857, v860, v863, v866, v869, m5_, m12_, m22_, m24_, m25_, m27_, (by rw [ha.out]; exact putSel_upk 38 hb_ rfl rfl rfl), HO791.out, HO794.out, HO797.out, HO800.out, HO803.out, HO806.out, HO812.out, HO815.out, HO818.out, HO821.out, HO827.out, HO830.out, HO833.out, BK808.out, BK809.out, BK823.out, BK824.out, BK835.out, HB.out, Q_HO838, Q_HO841, Q_HO845, Q_HO848, Q_HO852, Q_HO855, Q_HO858, Q_HO861, Q_HO864, Q_HO867, Q_HO870, Q_X5_, Q_X12_, Q_X22_, Q_X24_, Q_X25_, Q_X27_⟩
  refine steps_cons ?_ ?_
  ·intro b a w' hx0_ hb_ hon hoff
   refine ex8_ hx0_ fun v837 v840 v844 v847 v851 v854 v857 v860 hx1_ => ex8_ hx1_ fun v863 v866 v869 m5_ m12_ m22_ m24_ m25_ hx2_ => ex1_ hx2_ fun m27_ hx3_ => and8A hx3_ fun ha HO791 HO794 HO797 HO800 HO803 HO806 hy1_ => and8A hy1_ fun HO812 HO815 HO818 HO821 HO827 HO830 HO833 hy2_ => and7A hy2_ fun BK808 BK809 BK823 BK824 BK835 HB hy3_ => and8 hy3_ fun Q_HO838 Q_HO841 Q_HO845 Q_HO848 Q_HO852 Q_HO855 Q_HO858 hy4_ => and8 hy4_ fun Q_HO861 Q_HO864 Q_HO867 Q_HO870 Q_X5_ Q_X12_ Q_X22_ hy5_ => ?_
   have Q_X24_ := hy5_.1; have Q_X25_ := hy5_.2.1; have Q_X27_ := hy5_.2.2; clear hx0_ hx1_ hx2_ hx3_ hy1_ hy2_ hy3_ hy4_ hy5_
   refine ⟨_, rfl, fun K hK => ?_⟩
   have e71 : a.tmps[71]? = some (.bool (t834 == 0)) := by rw [ha.out]; exact putSel_on (e := (39, 71, .bool (t834 == 0))) 38 rfl rfl (hon 39 (by kernel_rfl)) rfl
   have HO838 := Aside0.mk (Q_HO838 (hon 4 (by kernel_rfl)))
   have HO841 := Aside0.mk (Q_HO841 (hon 5 (by kernel_rfl)))
   have HO845 := Aside0.mk (Q_HO845 (hon 11 (by kernel_rfl)))
   have HO848 := Aside0.mk (Q_HO848 (hon 12 (by kernel_rfl)))
   have HO852 := Aside0.mk (Q_HO852 (hon 21 (by kernel_rfl)))
   have HO855 := Aside0.mk (Q_HO855 (hon 22 (by kernel_rfl)))
   have HO858 := Aside0.mk (Q_HO858 (hon 23 (by kernel_rfl)))
   have HO861 := Aside0.mk (Q_HO861 (hon 24 (by kernel_rfl)))
   have HO864 := Aside0.mk (Q_HO864 (hon 25 (by kernel_rfl)))
   have HO867 := Aside0.mk (Q_HO867 (hon 26 (by kernel_rfl)))
   have HO870 := Aside0.mk (Q_HO870 (hon 27 (by kernel_rfl)))
   refine value_ (w1 := w') (v := .bool (t834 == 0)) (by rfl) rfl ?_ ?_
   ·go_simp
    (try simp only [i64_w])
    try rfl
   refine hK.out _ _ ⟨v837, v840, v844, v847, v851, v854, v857, v860, v863, v866, v869, m5_, m12_, m22_, m24_, m25_, m27_, (by rw [ha.out]; exact putSel_upk 39 hb_ rfl rfl rfl), HO791.out, HO794.out, HO797.out, HO800.out, HO803.out, HO806.out, HO812.out, HO815.out, HO818.out, HO821.out, HO827.out, HO830.out, HO833.out, BK808.out, BK809.out, BK823.out, BK824.out, BK835.out, HB.out, Q_HO838, Q_HO841, Q_HO845, Q_HO848, Q_HO852, Q_HO855, Q_HO858, Q_HO861, Q_HO864, Q_HO867, Q_HO870, Q_X5_, Q_X12_, Q_X22_, Q_X24_, Q_X25_, Q_X27_⟩
  exact steps_nil
 intro b a w105 hall hx0_
 refine ex8_ hx0_ fun v837 v840 v844 v847 v851 v854 v857 v860 hx1_ => ex8_ hx1_ fun v863 v866 v869 m5_ m12_ m22_ m24_ m25_ hx2_ => ex1_ hx2_ fun m27_ hx3_ => and8 hx3_ fun ha Q_HO791 Q_HO794 Q_HO797 Q_HO800 Q_HO803 Q_HO806 hy1_ => and8 hy1_ fun Q_HO812 Q_HO815 Q_HO818 Q_HO821 Q_HO827 Q_HO830 Q_HO833 hy2_ => and8 hy2_ fun Q_BK808 Q_BK809 Q_BK823 Q_BK824 Q_BK835 Q_HB Q_HO838 hy3_ => and8 hy3_ fun Q_HO841 Q_HO845 Q_HO848 Q_HO852 Q_HO855 Q_HO858 Q_HO861 hy4_ => and8 hy4_ fun Q_HO864 Q_HO867 Q_HO870 Q_X5_ Q_X12_ Q_X22_ Q_X24_ hy5_ => ?_
 have Q_X25_ := hy5_.1; have Q_X27_ := hy5_.2; clear hx0_ hx1_ hx2_ hx3_ hy1_ hy2_ hy3_ hy4_ hy5_
 clear BK808 BK809 BK823 BK824 BK835 HB HO791 HO794 HO797 HO800 HO803 HO806 HO812 HO815 HO818 HO821 HO827 HO830 HO833
 have hb1_ := hall 1 (by kernel_rfl)
 have hb2_ := hall 2 (by kernel_rfl)
 have hb3_ := hall 3 (by kernel_rfl)
 have hb4_ := hall 4 (by kernel_rfl)
 have hb5_ := hall 5 (by kernel_rfl)
 have hb6_ := hall 6 (by kernel_rfl)
 have hb7_ := hall 7 (by kernel_rfl)
 have hb8_ := hall 8 (by kernel_rfl)
 have hb9_ := hall 9 (by kernel_rfl)
 have hb10_ := hall 10 (by kernel_rfl)
 have hb11_ := hall 11 (by kernel_rfl)
 have hb12_ := hall 12 (by kernel_rfl)
 have hb13_ := hall 13 (by kernel_rfl)
 have hb14_ := hall 14 (by kernel_rfl)
 have hb15_ := hall 15 (by kernel_rfl)
 have hb16_ := hall 16 (by kernel_rfl)
 have hb17_ := hall 17 (by kernel_rfl)
 have hb18_ := hall 18 (by kernel_rfl)
 have hb19_ := hall 19 (by kernel_rfl)
 have hb20_ := hall 20 (by kernel_rfl)
 have hb21_ := hall 21 (by kernel_rfl)
 have hb22_ := hall 22 (by kernel_rfl)
 have hb23_ := hall 23 (by kernel_rfl)
 have hb24_ := hall 24 (by kernel_rfl)
 have hb25_ := hall 25 (by kernel_rfl)
 have hb26_ := hall 26 (by kernel_rfl)
 have hb27_ := hall 27 (by kernel_rfl)
 have hb28_ := hall 28 (by kernel_rfl)
 have hb29_ := hall 29 (by kernel_rfl)
 have hb30_ := hall 30 (by kernel_rfl)
 have hb31_ := hall 31 (by kernel_rfl)
 have hb32_ := hall 32 (by kernel_rfl)
 have hb33_ := hall 33 (by kernel_rfl)
 have hb34_ := hall 34 (by kernel_rfl)
 have hb35_ := hall 35 (by kernel_rfl)
 have hb36_ := hall 36 (by kernel_rfl)
 have hb37_ := hall 37 (by kernel_rfl)
 have hb38_ := hall 38 (by kernel_rfl)
 have hb39_ := hall 39 (by kernel_rfl)
 have hb40_ := hall 40 (by kernel_rfl)
 subst ha
 obtain rfl := Q_X5_ hb5_
 obtain rfl := Q_X12_ hb12_
 obtain rfl := Q_X22_ hb22_
 obtain rfl := Q_X24_ hb24_
 obtain rfl := Q_X25_ hb25_
 obtain rfl := Q_X27_ hb27_
 simp only [putSel, hb1_, hb2_, hb3_, hb4_, hb5_, hb6_, hb7_, hb8_, hb9_, hb10_, hb11_, hb12_, hb13_, hb14_, hb15_, hb16_, hb17_, hb18_, hb19_, hb20_, hb21_, hb22_, hb23_, hb24_, hb25_, hb26_, hb27_, hb28_, hb29_, hb30_, hb31_, hb32_, hb33_, hb34_, hb35_, hb36_, hb37_, hb38_, hb39_, hb40_, if_true, Act.put, List.setIfInBounds_toArray, List.set_cons_zero, List.set_cons_succ]
 have HO791 := Aside0.mk Q_HO791
 clear Q_HO791
 have HO794 := Aside0.mk Q_HO794
 clear Q_HO794
 have HO797 := Aside0.mk Q_HO797
 clear Q_HO797
 have HO800 := Aside0.mk Q_HO800
 clear Q_HO800
 have HO803 := Aside0.mk Q_HO803
 clear Q_HO803
 have HO806 := Aside0.mk Q_HO806
 clear Q_HO806
 have HO812 := Aside0.mk Q_HO812
 clear Q_HO812
 have HO815 := Aside0.mk Q_HO815
 clear Q_HO815
 have HO818 := Aside0.mk Q_HO818
 clear Q_HO818
 have HO821 := Aside0.mk Q_HO821
 clear Q_HO821
 have HO827 := Aside0.mk Q_HO827
 clear Q_HO827
 have HO830 := Aside0.mk Q_HO830
 clear Q_HO830
 have HO833 := Aside0.mk Q_HO833
 clear Q_HO833
 have BK808 := Aside0.mk Q_BK808
 clear Q_BK808
 have BK809 := Aside0.mk Q_BK809
 clear Q_BK809
 have BK823 := Aside0.mk Q_BK823
 clear Q_BK823
 have BK824 := Aside0.mk Q_BK824
 clear Q_BK824
 have BK835 := Aside0.mk Q_BK835
 clear Q_BK835
 have HB := Aside0.mk Q_HB
 clear Q_HB
 have HO838 := Aside0.mk (Q_HO838 hb4_)
 clear Q_HO838
 have HO841 := Aside0.mk (Q_HO841 hb5_)
 clear Q_HO841
 have HO845 := Aside0.mk (Q_HO845 hb11_)
 clear Q_HO845
 have HO848 := Aside0.mk (Q_HO848 hb12_)
 clear Q_HO848
 have HO852 := Aside0.mk (Q_HO852 hb21_)
 clear Q_HO852
 have HO855 := Aside0.mk (Q_HO855 hb22_)
 clear Q_HO855
 have HO858 := Aside0.mk (Q_HO858 hb23_)
 clear Q_HO858
 have HO861 := Aside0.mk (Q_HO861 hb24_)
 clear Q_HO861
 have HO864 := Aside0.mk (Q_HO864 hb25_)
 clear Q_HO864
 have HO867 := Aside0.mk (Q_HO867 hb26_)
 clear Q_HO867
 have HO870 := Aside0.mk (Q_HO870 hb27_)
 clear Q_HO870
 clear hall hb1_ hb2_ hb3_ hb4_ hb5_ hb6_ hb7_ hb8_ hb9_ hb10_ hb11_ hb12_ hb13_ hb14_ hb15_ hb16_ hb17_ hb18_ hb19_ hb20_ hb21_ hb22_ hb23_ hb24_ hb25_ hb26_ hb27_ hb28_ hb29_ hb30_ hb31_ hb32_ hb33_ hb34_ hb35_ hb36_ hb37_ hb38_ hb39_ hb40_
 try go_wp2
 go_ret
 exact ⟨by first | rfl | (simp [errW_none, errW_some] <;> rfl) | (simp [*, errW_none, errW_some] <;> rfl), by repeat (first | (with_reducible first | exact HB.out | apply below_alloc | apply pw_below_drewN | apply below_drew1 | refine below_set ?_ GE808.out | refine below_set ?_ GE809.out | refine below_set ?_ GE823.out | refine below_set ?_ GE824.out | refine below_set ?_ GE835.out) | exact HB.out)⟩
def chattelref01_Cmp.l0 : Nat → List Int → List Int → Int → Option (Int)
 | 0, _, _, _ => none
 | k + 1, x0, x1, x5 => if x5 ≥ 0 then (if 0 ≤ x5 then (if x5 < (x0.length : Int) then (if x5 < (x1.length : Int) then (if (rd x0 x5) < (rd x1 x5) then (some (-1)) else (if (rd x0 x5) > (rd x1 x5) then (some 1) else (chattelref01_Cmp.l0 k x0 x1 (wrap64 (x5 - 1))))) else (none)) else (none)) else (none)) else (some 0)
def chattelref01_Cmp.f (k : Nat) (l0 : List Int) (l1 : List Int) : Option (Int) := if (l0.length : Int) = (l1.length : Int) then (chattelref01_Cmp.l0 k l0 l1 (wrap64 ((l0.length : Int) - 1))) else (if (l0.length : Int) < (l1.length : Int) then (some (-1)) else (some 1))
set_option maxHeartbeats 8000000 in
set_option maxRecDepth 100000 in
theorem chattelref01_Cmp.calls (k : Nat) (A0 : Option Addr) (c0 : Nat) (l0 : List Int) (A1 : Option Addr) (c1 : Nat) (l1 : List Int) (r : Int) (w : World) (hr0 : Kd.C (Kd.int .i64) w A0 l0.length l0) (hc0 : l0.length ≤ c0) (hr1 : Kd.C (Kd.int .i64) w A1 l1.length l1) (hc1 : l1.length ≤ c1) (h : chattelref01_Cmp.f k l0 l1 = some r) :
  Calls Try.prog 22 #[.slice A0 l0.length c0, .slice A1 l1.length c1] w fun e w' => e = .returned (.int .i64 r) ∧ Drawn0 w w' := by
 have HR0 := Aside0.mk hr0
 have HC0 := Aside0.mk hc0
 clear hr0 hc0
 have HR1 := Aside0.mk hr1
 have HC1 := Aside0.mk hc1
 clear hr1 hc1
 have H : (if (l0.length : Int) = (l1.length : Int) then (chattelref01_Cmp.l0 k l0 l1 (wrap64 ((l0.length : Int) - 1))) else (if (l0.length : Int) < (l1.length : Int) then (some (-1)) else (some 1))) = some r := h
 clear h
 by_cases c3 : (l0.length : Int) = (l1.length : Int)
 ·rw [if_pos c3] at H
  have c3b0 : ((l0.length : Int) == (l1.length : Int)) = true := beq_iff_eq.mpr c3
  have c3b1 : ((l0.length : Int) != (l1.length : Int)) = false := bne_eq_false_iff_eq.mpr c3
  have c3b2 : (l0.length == l1.length) = true := by first | simpa using c3 | (simp at c3 ⊢; omega)
  clear c3
  have H' := Aside0.mk H
  clear H
  go_enter Try.func22, Try.ntmps22
  go_wp2
  repeat (go_quiet (fail); try go_wp2)
  go_loopg [5] k (fun kq v5 w' => ∃ (x5_1 : Int), v5 = .int .i64 x5_1 ∧ Aside0 (chattelref01_Cmp.l0 kq l0 l1 x5_1 = some r) ∧ Aside0 (kq ≤ k) ∧ Drawn0 w w')
  case atStart => exact ⟨(wrap64 ((l0.length : Int) - 1)), (by first | rfl | (simp; done) | (simp [*]; done)), H', ⟨Nat.le_refl _⟩, by repeat (first | exact Drawn0.refl _ | apply Drawn0.step)⟩
  case round =>
   clear H'
   try clear c1
   try clear c2
   try clear p2
   try clear c3
   try clear c3b0
   try clear c3b1
   try clear c3b2
   obtain ⟨x5_1, rfl, HA, HK1, ⟨m1, rfl⟩⟩ := hrel
   cases gk with
   | zero => exact absurd HA.out (by simp [chattelref01_Cmp.l0])
   | succ k1 =>
    have H := HA.out
    clear HA
    simp only [chattelref01_Cmp.l0] at H
    by_cases c4 : x5_1 ≥ 0
    ·rw [if_pos c4] at H
     have c4b0 : decide (0 ≤ x5_1) = true := decide_eq_true c4
     clear c4
     by_cases c5 : 0 ≤ x5_1
     rotate_left
     ·rw [if_neg c5] at H
      exact absurd H (by simp)
     rw [if_pos c5] at H
     have c5b0 : decide (0 ≤ x5_1) = true := decide_eq_true c5
     clear c5
     by_cases c6 : x5_1 < (l0.length : Int)
     rotate_left
     ·rw [if_neg c6] at H
      exact absurd H (by simp)
     rw [if_pos c6] at H
     have c6b0 : decide (x5_1 < (l0.length : Int)) = true := decide_eq_true c6
     clear c6
     by_cases c7 : x5_1 < (l1.length : Int)
     rotate_left
     ·rw [if_neg c7] at H
      exact absurd H (by simp)
     rw [if_pos c7] at H
     have c7b0 : decide (x5_1 < (l1.length : Int)) = true := decide_eq_true c7
     clear c7
     by_cases c8 : (rd l0 x5_1) < (rd l1 x5_1)
     ·rw [if_pos c8] at H
      have c8b0 : decide ((rd l0 x5_1) < (rd l1 x5_1)) = true := decide_eq_true c8
      clear c8
      obtain rfl := Option.some.inj H
      have p210 : 0 ≤ (x5_1 : Int) := of_decide_eq_true (by first | (with_reducible assumption) | assumption)
      have q210 : x5_1 < (l0.length : Int) := of_decide_eq_true (by first | (with_reducible assumption) | assumption)
      obtain ⟨ad210, e210, hx210_0⟩ := Kd.at_int HR0.out x5_1 p210 q210
      cases e210
      replace p210 := eq_true p210
      replace q210 := eq_true q210
      have p211 : 0 ≤ (x5_1 : Int) := of_decide_eq_true (by first | (with_reducible assumption) | assumption)
      have q211 : x5_1 < (l1.length : Int) := of_decide_eq_true (by first | (with_reducible assumption) | assumption)
      obtain ⟨ad211, e211, hx211_0⟩ := Kd.at_int HR1.out x5_1 p211 q211
      cases e211
      replace p211 := eq_true p211
      replace q211 := eq_true q211
      go_wp2
      repeat (go_quiet (fail); try go_wp2)
      go_ret
      exact ⟨by first | rfl | (simp; done) | (simp [*]; done), by repeat (first | exact Drawn0.refl _ | apply Drawn0.step)⟩
     ·rw [if_neg c8] at H
      have c8b0 : decide ((rd l0 x5_1) < (rd l1 x5_1)) = false := decide_eq_false c8
      clear c8
      by_cases c9 : (rd l0 x5_1) > (rd l1 x5_1)
      ·rw [if_pos c9] at H
       have c9b0 : decide ((rd l1 x5_1) < (rd l0 x5_1)) = true := decide_eq_true c9
       clear c9
       obtain rfl := Option.some.inj H
       have p210 : 0 ≤ (x5_1 : Int) := of_decide_eq_true (by first | (with_reducible assumption) | assumption)
       have q210 : x5_1 < (l0.length : Int) := of_decide_eq_true (by first | (with_reducible assumption) | assumption)
       obtain ⟨ad210, e210, hx210_0⟩ := Kd.at_int HR0.out x5_1 p210 q210
       cases e210
       replace p210 := eq_true p210
       replace q210 := eq_true q210
       have p211 : 0 ≤ (x5_1 : Int) := of_decide_eq_true (by first | (with_reducible assumption) | assumption)
       have q211 : x5_1 < (l1.length : Int) := of_decide_eq_true (by first | (with_reducible assumption) | assumption)
       obtain ⟨ad211, e211, hx211_0⟩ := Kd.at_int HR1.out x5_1 p211 q211
       cases e211
       replace p211 := eq_true p211
       replace q211 := eq_true q211
       have p212 : 0 ≤ (x5_1 : Int) := of_decide_eq_true (by first | (with_reducible assumption) | assumption)
       have q212 : x5_1 < (l0.length : Int) := of_decide_eq_true (by first | (with_reducible assumption) | assumption)
       obtain ⟨ad212, e212, hx212_0⟩ := Kd.at_int HR0.out x5_1 p212 q212
       obtain rfl : ad210 = ad212 := (by injection e212)
       replace p212 := eq_true p212
       replace q212 := eq_true q212
       have p213 : 0 ≤ (x5_1 : Int) := of_decide_eq_true (by first | (with_reducible assumption) | assumption)
       have q213 : x5_1 < (l1.length : Int) := of_decide_eq_true (by first | (with_reducible assumption) | assumption)
       obtain ⟨ad213, e213, hx213_0⟩ := Kd.at_int HR1.out x5_1 p213 q213
       obtain rfl : ad211 = ad213 := (by injection e213)
       replace p213 := eq_true p213
       replace q213 := eq_true q213
       go_wp2
       repeat (go_quiet (fail); try go_wp2)
       go_ret
       exact ⟨by first | rfl | (simp; done) | (simp [*]; done), by repeat (first | exact Drawn0.refl _ | apply Drawn0.step)⟩
      ·rw [if_neg c9] at H
       have c9b0 : decide ((rd l1 x5_1) < (rd l0 x5_1)) = false := decide_eq_false c9
       clear c9
       have H' := Aside0.mk H
       clear H
       have p210 : 0 ≤ (x5_1 : Int) := of_decide_eq_true (by first | (with_reducible assumption) | assumption)
       have q210 : x5_1 < (l0.length : Int) := of_decide_eq_true (by first | (with_reducible assumption) | assumption)
       obtain ⟨ad210, e210, hx210_0⟩ := Kd.at_int HR0.out x5_1 p210 q210
       cases e210
       replace p210 := eq_true p210
       replace q210 := eq_true q210
       have p211 : 0 ≤ (x5_1 : Int) := of_decide_eq_true (by first | (with_reducible assumption) | assumption)
       have q211 : x5_1 < (l1.length : Int) := of_decide_eq_true (by first | (with_reducible assumption) | assumption)
       obtain ⟨ad211, e211, hx211_0⟩ := Kd.at_int HR1.out x5_1 p211 q211
       cases e211
       replace p211 := eq_true p211
       replace q211 := eq_true q211
       have p212 : 0 ≤ (x5_1 : Int) := of_decide_eq_true (by first | (with_reducible assumption) | assumption)
       have q212 : x5_1 < (l0.length : Int) := of_decide_eq_true (by first | (with_reducible assumption) | assumption)
       obtain ⟨ad212, e212, hx212_0⟩ := Kd.at_int HR0.out x5_1 p212 q212
       obtain rfl : ad210 = ad212 := (by injection e212)
       replace p212 := eq_true p212
       replace q212 := eq_true q212
       have p213 : 0 ≤ (x5_1 : Int) := of_decide_eq_true (by first | (with_reducible assumption) | assumption)
       have q213 : x5_1 < (l1.length : Int) := of_decide_eq_true (by first | (with_reducible assumption) | assumption)
       obtain ⟨ad213, e213, hx213_0⟩ := Kd.at_int HR1.out x5_1 p213 q213
       obtain rfl : ad211 = ad213 := (by injection e213)
       replace p213 := eq_true p213
       replace q213 := eq_true q213
       go_wp2
       repeat (go_quiet (fail); try go_wp2)
       go_roundg k1
       case measure => have := HK1.out; omega
       case rel => exact ⟨(wrap64 (x5_1 - 1)), (by first | rfl | (simp; done) | (simp [*]; done)), H', ⟨by have := HK1.out; omega⟩, by repeat (first | exact Drawn0.refl _ | apply Drawn0.step)⟩
    ·rw [if_neg c4] at H
     have c4b0 : decide (0 ≤ x5_1) = false := decide_eq_false c4
     clear c4
     obtain rfl := Option.some.inj H
     go_wp2
     repeat (go_quiet (fail); try go_wp2)
     go_ret
     exact ⟨by first | rfl | (simp; done) | (simp [*]; done), by repeat (first | exact Drawn0.refl _ | apply Drawn0.step)⟩
 ·rw [if_neg c3] at H
  have c3b0 : ((l0.length : Int) == (l1.length : Int)) = false := beq_eq_false_iff_ne.mpr c3
  have c3b1 : ((l0.length : Int) != (l1.length : Int)) = true := bne_iff_ne.mpr c3
  have c3b2 : (l0.length == l1.length) = false := by first | simpa using c3 | (simp at c3 ⊢; omega)
  by_cases c10 : (l0.length : Int) < (l1.length : Int)
  ·rw [if_pos c10] at H
   have c10b0 : decide ((l0.length : Int) < (l1.length : Int)) = true := decide_eq_true c10
   have c10b1 : decide (l0.length < l1.length) = true := decide_eq_true (Int.ofNat_lt.mp c10)
   clear c10
   obtain rfl := Option.some.inj H
   go_enter Try.func22, Try.ntmps22
   go_wp2
   repeat (go_quiet (fail); try go_wp2)
   go_ret
   exact ⟨by first | rfl | (simp; done) | (simp [*]; done), by repeat (first | exact Drawn0.refl _ | apply Drawn0.step)⟩
  ·rw [if_neg c10] at H
   have c10b0 : decide ((l0.length : Int) < (l1.length : Int)) = false := decide_eq_false c10
   have c10b1 : decide (l0.length < l1.length) = false := decide_eq_false (fun h => c10 (Int.ofNat_lt.mpr h))
   clear c10
   obtain rfl := Option.some.inj H
   go_enter Try.func22, Try.ntmps22
   go_wp2
   repeat (go_quiet (fail); try go_wp2)
   go_ret
   exact ⟨by first | rfl | (simp; done) | (simp [*]; done), by repeat (first | exact Drawn0.refl _ | apply Drawn0.step)⟩
end Go.Proofs.Ytebjbmgfbejapaa.F
end
