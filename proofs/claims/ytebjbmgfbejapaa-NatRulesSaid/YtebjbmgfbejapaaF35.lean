-- Written by this session's printer (wip/tools), out of the translation's own print. Lean checks it.
import Derived.Test.YtebjbmgfbejapaaF0
import Derived.Test.YtebjbmgfbejapaaF1
import Derived.Test.YtebjbmgfbejapaaF4
import Derived.Test.YtebjbmgfbejapaaF7
import Derived.Test.YtebjbmgfbejapaaF14
import Derived.Test.YtebjbmgfbejapaaF16
import Derived.Test.YtebjbmgfbejapaaF17
import Derived.Test.YtebjbmgfbejapaaF28
import Derived.Test.YtebjbmgfbejapaaF30
namespace Go.Proofs.Ytebjbmgfbejapaa.F
open Go.RowKit Go.Proofs.YtebjbmgfbejapaaW.PrintWords Go.Proofs.YtebjbmgfbejapaaW.PrintLast Go.Proofs.YtebjbmgfbejapaaW.PrintMore Go.Proofs.YtebjbmgfbejapaaX
attribute [local go_sem] max2_int xrun_add64 xrun_sub64
attribute [local go_sem] max2_int min2_int max_two min_two max_three min_three max_four min_four   -- for this text's walks alone
set_option linter.unusedVariables false
set_option linter.unusedSimpArgs false

/-! ### chattellaw01_NatRules: function 6 -/
def chattellaw01_NatRules.f (k : Nat) (l0 : List Int) (l1 : List Int) (l2 : List Int) : Option (Bool) := (chattellaw01_cut.f l0).bind fun t460 => ((nat_Of.f k t460).bind fun t463 => ((chattellaw01_cut.f l1).bind fun t466 => ((nat_Of.f k t466).bind fun t469 => ((chattellaw01_cut.f l2).bind fun t472 => ((nat_Of.f k t472).bind fun t475 => ((nat_Nat_Add.f k t463 t469).bind fun t481 => ((nat_Nat_Sub.f k t481 t469).bind fun bt484 => ((chattellaw01_wakes.f k).bind fun t489 => (if t489 = true then ((nat_Nat_Add.f k t463 t469).bind fun t490 => ((nat_Nat_Add.f k t469 t463).bind fun t493 => ((nat_Nat_Cmp.f k t490 t493).bind fun t496 => (if t496 = 0 then ((nat_Nat_Mul.f k t463 t469).bind fun t497 => ((nat_Nat_Mul.f k t469 t463).bind fun t500 => ((nat_Nat_Cmp.f k t497 t500).bind fun t503 => (if t503 = 0 then ((nat_Nat_Add.f k t463 t469).bind fun t504 => ((nat_Nat_Add.f k t504 t475).bind fun t507 => ((nat_Nat_Add.f k t469 t475).bind fun t510 => ((nat_Nat_Add.f k t463 t510).bind fun t513 => ((nat_Nat_Cmp.f k t507 t513).bind fun t516 => (if t516 = 0 then ((nat_Nat_Mul.f k t463 t469).bind fun t517 => ((nat_Nat_Mul.f k t517 t475).bind fun t520 => ((nat_Nat_Mul.f k t469 t475).bind fun t523 => ((nat_Nat_Mul.f k t463 t523).bind fun t526 => ((nat_Nat_Cmp.f k t520 t526).bind fun t529 => (if t529 = 0 then ((nat_Nat_Add.f k t469 t475).bind fun t530 => ((nat_Nat_Mul.f k t463 t530).bind fun t533 => ((nat_Nat_Mul.f k t463 t469).bind fun t536 => ((nat_Nat_Mul.f k t463 t475).bind fun t539 => ((nat_Nat_Add.f k t536 t539).bind fun t542 => ((nat_Nat_Cmp.f k t533 t542).bind fun t545 => (if t545 = 0 then (if bt484.2 = true then ((nat_Nat_Cmp.f k bt484.1 t463).bind fun t546 => (if t546 = 0 then ((nat_Of.f k (([1] : List Int))).bind fun t550 => ((nat_Nat_Mul.f k t463 t550).bind fun t553 => ((nat_Nat_Cmp.f k t553 t463).bind fun t556 => (if t556 = 0 then ((nat_Nat_Mul.f k t463 ([] : List Int)).bind fun t557 => ((nat_Nat_Zero.f t557).bind fun t560 => (some t560))) else (some false))))) else (some false))) else (some false)) else (some false)))))))) else (some false))))))) else (some false))))))) else (some false))))) else (some false))))) else (some false))))))))))
theorem chattellaw01_NatRules.mono : ∀ a0 a1 a2 k, LeO (chattellaw01_NatRules.f k a0 a1 a2) (chattellaw01_NatRules.f (k + 1) a0 a1 a2) := by
  intro a0 a1 a2 k
  unfold chattellaw01_NatRules.f
  repeat' first
      | (with_reducible exact chattellaw01_wakes.mono _)
      | (with_reducible exact nat_Nat_Add.mono _ _ _)
      | (with_reducible exact nat_Nat_Cmp.mono _ _ _)
      | (with_reducible exact nat_Nat_Mul.mono _ _ _)
      | (with_reducible exact nat_Nat_Sub.mono _ _ _)
      | (with_reducible exact nat_Of.mono _ _)
      | (with_reducible exact LeO.refl _)
      | (with_reducible exact LeO.none _)
      | (with_reducible refine LeO.ite ?_ ?_)
      | (with_reducible refine LeO.bind ?_ (fun _ => ?_))
      | exact chattellaw01_wakes.mono _
      | exact nat_Nat_Add.mono _ _ _
      | exact nat_Nat_Cmp.mono _ _ _
      | exact nat_Nat_Mul.mono _ _ _
      | exact nat_Nat_Sub.mono _ _ _
      | exact nat_Of.mono _ _
      | exact LeO.none _
      | refine LeO.ite ?_ ?_
      | refine LeO.bind ?_ (fun _ => ?_)
def chattellaw01_NatRules.T2 : Bool × List (List Nat × List Nat) := (true, [([], []), ([], []), ([0, 1], [0, 1]), ([], []), ([2, 3, 2], [2, 3]), ([4], [4]), ([5], [5]), ([5], [5]), ([], []), ([8, 6, 4, 0, 1, 2, 3, 4, 5, 6, 8], [6, 8]), ([7, 9, 0, 1, 2, 3, 4, 5, 6, 7, 8, 9], [7])])
def chattellaw01_NatRules.B2 : List Nat := [0, 0, 3, 0, 15, 31, 63, 63, 0, 383, 1023]
theorem chattellaw01_NatRules.tab2 : rtab .any (opsOf Try.f6 2) = chattellaw01_NatRules.T2 := by kernel_rfl
theorem chattellaw01_NatRules.bits2 : waitsOk chattellaw01_NatRules.T2.2 chattellaw01_NatRules.B2 = true := by kernel_rfl
def chattellaw01_NatRules.T3 : Bool × List (List Nat × List Nat) := (true, [([], []), ([0, 0], [0]), ([1], [1]), ([1], [1]), ([2, 3, 1, 1], [1, 2, 3]), ([1], [1]), ([1], [1]), ([5, 6, 4, 1], [1, 5, 6]), ([4, 7, 7, 1], [1, 4, 7]), ([8, 1], [1, 8]), ([1, 9], [1, 9]), ([10, 8], [10]), ([11], [11]), ([11], [11]), ([12, 13, 11, 11], [11, 12, 13]), ([11], [11]), ([11], [11]), ([15, 16, 14, 11], [11, 15, 16]), ([14, 17, 17, 11], [11, 14, 17]), ([18, 11], [11, 18]), ([11, 19], [11, 19]), ([20, 18], [20]), ([21], [21]), ([21], [21]), ([22, 23, 21, 21], [21, 22, 23]), ([21], [21]), ([24, 25, 24, 21], [21, 24, 25]), ([21], [21]), ([21], [21]), ([21], [21]), ([28, 29, 26, 21], [21, 28, 29]), ([27, 30, 30, 21], [21, 27, 30]), ([26, 31, 31, 21], [21, 26, 31]), ([32, 21], [21, 32]), ([21, 33], [21, 33]), ([34, 32], [34]), ([35], [35]), ([35], [35]), ([36, 37, 35, 35], [35, 36, 37]), ([35], [35]), ([38, 39, 38, 35], [35, 38, 39]), ([35], [35]), ([35], [35]), ([35], [35]), ([42, 43, 40, 35], [35, 42, 43]), ([41, 44, 44, 35], [35, 41, 44]), ([40, 45, 45, 35], [35, 40, 45]), ([46, 35], [35, 46]), ([35, 47], [35, 47]), ([48, 46], [48]), ([49], [49]), ([49], [49]), ([49], [49]), ([51, 52, 49, 49], [49, 51, 52]), ([50, 53, 53, 49], [49, 50, 53]), ([49], [49]), ([49], [49]), ([55, 56, 54, 49], [49, 55, 56]), ([49], [49]), ([49], [49]), ([58, 59, 57, 49], [49, 58, 59]), ([57, 60, 60, 49], [49, 57, 60]), ([54, 61, 61, 49], [49, 54, 61]), ([62, 49], [49, 62]), ([49, 63], [49, 63]), ([64, 62], [64]), ([65], [65]), ([65, 66], [65, 66]), ([67, 65], [67]), ([68], [68]), ([68], [68]), ([69, 70, 68, 68], [68, 69, 70]), ([71, 68], [68, 71]), ([68, 72], [68, 72]), ([73, 71], [73]), ([74], [74]), ([74], [74]), ([76, 74, 74], [74, 76]), ([75, 77, 77, 74], [74, 75, 77]), ([74], [74]), ([78, 79, 78, 74], [74, 78, 79]), ([80, 74], [74, 80]), ([74, 81], [74, 81]), ([82, 80], [82]), ([83], [83]), ([83], [83]), ([84, 85, 83, 83], [83, 84, 85]), ([86, 86, 83], [83, 86]), ([83, 87], [83, 87]), ([88, 87, 0, 1, 2, 3, 4, 5, 6, 7, 8, 9, 10, 11, 12, 13, 14, 15, 16, 17, 18, 19, 20, 21, 22, 23, 24, 25, 26, 27, 28, 29, 30, 31, 32, 33, 34, 35, 36, 37, 38, 39, 40, 41, 42, 43, 44, 45, 46, 47, 48, 49, 50, 51, 52, 53, 54, 55, 56, 57, 58, 59, 60, 61, 62, 63, 64, 65, 66, 67, 68, 69, 70, 71, 72, 73, 74, 75, 76, 77, 78, 79, 80, 81, 82, 83, 84, 85, 86, 87, 88], [88])])
def chattellaw01_NatRules.B3 : List Nat := [0, 1, 3, 3, 15, 3, 3, 127, 255, 511, 1023, 2047, 4095, 4095, 16383, 4095, 4095, 131071, 262143, 524287, 1048575, 2097151, 4194303, 4194303, 16777215, 4194303, 67108863, 4194303, 4194303, 4194303, 939524095, 2147483647, 4294967295, 8589934591, 17179869183, 34359738367, 68719476735, 68719476735, 274877906943, 68719476735, 1099511627775, 68719476735, 68719476735, 68719476735, 15393162788863, 35184372088831, 70368744177663, 140737488355327, 281474976710655, 562949953421311, 1125899906842623, 1125899906842623, 1125899906842623, 7881299347898367, 18014398509481983, 1125899906842623, 1125899906842623, 144115188075855871, 1125899906842623, 1125899906842623, 1152921504606846975, 2305843009213693951, 4611686018427387903, 9223372036854775807, 18446744073709551615, 36893488147419103231, 73786976294838206463, 147573952589676412927, 295147905179352825855, 590295810358705651711, 590295810358705651711, 2361183241434822606847, 4722366482869645213695, 9444732965739290427391, 18889465931478580854783, 37778931862957161709567, 37778931862957161709567, 113336795588871485128703, 302231454903657293676543, 37778931862957161709567, 1208925819614629174706175, 2417851639229258349412351, 4835703278458516698824703, 9671406556917033397649407, 19342813113834066795298815, 19342813113834066795298815, 77371252455336267181195263, 154742504910672534362390527, 309485009821345068724781055, 618970019642690137449562111]
theorem chattellaw01_NatRules.tab3 : rtab .any (opsOf Try.f6 3) = chattellaw01_NatRules.T3 := by kernel_rfl
theorem chattellaw01_NatRules.bits3 : waitsOk chattellaw01_NatRules.T3.2 chattellaw01_NatRules.B3 = true := by kernel_rfl
set_option maxHeartbeats 8000000 in
set_option maxRecDepth 100000 in
theorem chattellaw01_NatRules.calls (k : Nat) (A0 : Option Addr) (c0 : Nat) (l0 : List Int) (A1 : Option Addr) (c1 : Nat) (l1 : List Int) (A2 : Option Addr) (c2 : Nat) (l2 : List Int) (r : Bool) (w : World) (hr0 : Kd.C (Kd.int .u64) w A0 l0.length l0) (hc0 : l0.length ≤ c0) (hr1 : Kd.C (Kd.int .u64) w A1 l1.length l1) (hc1 : l1.length ≤ c1) (hr2 : Kd.C (Kd.int .u64) w A2 l2.length l2) (hc2 : l2.length ≤ c2) (h : chattellaw01_NatRules.f k l0 l1 l2 = some r) (ht_ : r = true) :
    Calls Try.prog 6 #[.slice A0 l0.length c0, .slice A1 l1.length c1, .slice A2 l2.length c2] w fun e w' => e = .returned (.bool r) ∧ Below w.heap.size w w' := by
  have hu25 := Try.underlying25
  have HR0 := Aside0.mk hr0
  have HC0 := Aside0.mk hc0
  clear hr0 hc0
  have HR1 := Aside0.mk hr1
  have HC1 := Aside0.mk hc1
  clear hr1 hc1
  have HR2 := Aside0.mk hr2
  have HC2 := Aside0.mk hc2
  clear hr2 hc2
  have HB := Aside0.mk (Below.refl w.heap.size w)
  have H : ((chattellaw01_cut.f l0).bind fun t460 => ((nat_Of.f k t460).bind fun t463 => ((chattellaw01_cut.f l1).bind fun t466 => ((nat_Of.f k t466).bind fun t469 => ((chattellaw01_cut.f l2).bind fun t472 => ((nat_Of.f k t472).bind fun t475 => ((nat_Nat_Add.f k t463 t469).bind fun t481 => ((nat_Nat_Sub.f k t481 t469).bind fun bt484 => ((chattellaw01_wakes.f k).bind fun t489 => (if t489 = true then ((nat_Nat_Add.f k t463 t469).bind fun t490 => ((nat_Nat_Add.f k t469 t463).bind fun t493 => ((nat_Nat_Cmp.f k t490 t493).bind fun t496 => (if t496 = 0 then ((nat_Nat_Mul.f k t463 t469).bind fun t497 => ((nat_Nat_Mul.f k t469 t463).bind fun t500 => ((nat_Nat_Cmp.f k t497 t500).bind fun t503 => (if t503 = 0 then ((nat_Nat_Add.f k t463 t469).bind fun t504 => ((nat_Nat_Add.f k t504 t475).bind fun t507 => ((nat_Nat_Add.f k t469 t475).bind fun t510 => ((nat_Nat_Add.f k t463 t510).bind fun t513 => ((nat_Nat_Cmp.f k t507 t513).bind fun t516 => (if t516 = 0 then ((nat_Nat_Mul.f k t463 t469).bind fun t517 => ((nat_Nat_Mul.f k t517 t475).bind fun t520 => ((nat_Nat_Mul.f k t469 t475).bind fun t523 => ((nat_Nat_Mul.f k t463 t523).bind fun t526 => ((nat_Nat_Cmp.f k t520 t526).bind fun t529 => (if t529 = 0 then ((nat_Nat_Add.f k t469 t475).bind fun t530 => ((nat_Nat_Mul.f k t463 t530).bind fun t533 => ((nat_Nat_Mul.f k t463 t469).bind fun t536 => ((nat_Nat_Mul.f k t463 t475).bind fun t539 => ((nat_Nat_Add.f k t536 t539).bind fun t542 => ((nat_Nat_Cmp.f k t533 t542).bind fun t545 => (if t545 = 0 then (if bt484.2 = true then ((nat_Nat_Cmp.f k bt484.1 t463).bind fun t546 => (if t546 = 0 then ((nat_Of.f k (([1] : List Int))).bind fun t550 => ((nat_Nat_Mul.f k t463 t550).bind fun t553 => ((nat_Nat_Cmp.f k t553 t463).bind fun t556 => (if t556 = 0 then ((nat_Nat_Mul.f k t463 ([] : List Int)).bind fun t557 => ((nat_Nat_Zero.f t557).bind fun t560 => (some t560))) else (some false))))) else (some false))) else (some false)) else (some false)))))))) else (some false))))))) else (some false))))))) else (some false))))) else (some false))))) else (some false))))))))))) = some r := h
  clear h
  replace H := Option.bind_eq_some_iff.mp H
  obtain ⟨t460, A40, H⟩ := H
  replace H : ((nat_Of.f k t460).bind fun t463 => ((chattellaw01_cut.f l1).bind fun t466 => ((nat_Of.f k t466).bind fun t469 => ((chattellaw01_cut.f l2).bind fun t472 => ((nat_Of.f k t472).bind fun t475 => ((nat_Nat_Add.f k t463 t469).bind fun t481 => ((nat_Nat_Sub.f k t481 t469).bind fun bt484 => ((chattellaw01_wakes.f k).bind fun t489 => (if t489 = true then ((nat_Nat_Add.f k t463 t469).bind fun t490 => ((nat_Nat_Add.f k t469 t463).bind fun t493 => ((nat_Nat_Cmp.f k t490 t493).bind fun t496 => (if t496 = 0 then ((nat_Nat_Mul.f k t463 t469).bind fun t497 => ((nat_Nat_Mul.f k t469 t463).bind fun t500 => ((nat_Nat_Cmp.f k t497 t500).bind fun t503 => (if t503 = 0 then ((nat_Nat_Add.f k t463 t469).bind fun t504 => ((nat_Nat_Add.f k t504 t475).bind fun t507 => ((nat_Nat_Add.f k t469 t475).bind fun t510 => ((nat_Nat_Add.f k t463 t510).bind fun t513 => ((nat_Nat_Cmp.f k t507 t513).bind fun t516 => (if t516 = 0 then ((nat_Nat_Mul.f k t463 t469).bind fun t517 => ((nat_Nat_Mul.f k t517 t475).bind fun t520 => ((nat_Nat_Mul.f k t469 t475).bind fun t523 => ((nat_Nat_Mul.f k t463 t523).bind fun t526 => ((nat_Nat_Cmp.f k t520 t526).bind fun t529 => (if t529 = 0 then ((nat_Nat_Add.f k t469 t475).bind fun t530 => ((nat_Nat_Mul.f k t463 t530).bind fun t533 => ((nat_Nat_Mul.f k t463 t469).bind fun t536 => ((nat_Nat_Mul.f k t463 t475).bind fun t539 => ((nat_Nat_Add.f k t536 t539).bind fun t542 => ((nat_Nat_Cmp.f k t533 t542).bind fun t545 => (if t545 = 0 then (if bt484.2 = true then ((nat_Nat_Cmp.f k bt484.1 t463).bind fun t546 => (if t546 = 0 then ((nat_Of.f k (([1] : List Int))).bind fun t550 => ((nat_Nat_Mul.f k t463 t550).bind fun t553 => ((nat_Nat_Cmp.f k t553 t463).bind fun t556 => (if t556 = 0 then ((nat_Nat_Mul.f k t463 ([] : List Int)).bind fun t557 => ((nat_Nat_Zero.f t557).bind fun t560 => (some t560))) else (some false))))) else (some false))) else (some false)) else (some false)))))))) else (some false))))))) else (some false))))))) else (some false))))) else (some false))))) else (some false)))))))))) = some r := H
  have A4 := Aside0.mk A40
  clear A40
  replace H := Option.bind_eq_some_iff.mp H
  obtain ⟨t463, A50, H⟩ := H
  replace H : ((chattellaw01_cut.f l1).bind fun t466 => ((nat_Of.f k t466).bind fun t469 => ((chattellaw01_cut.f l2).bind fun t472 => ((nat_Of.f k t472).bind fun t475 => ((nat_Nat_Add.f k t463 t469).bind fun t481 => ((nat_Nat_Sub.f k t481 t469).bind fun bt484 => ((chattellaw01_wakes.f k).bind fun t489 => (if t489 = true then ((nat_Nat_Add.f k t463 t469).bind fun t490 => ((nat_Nat_Add.f k t469 t463).bind fun t493 => ((nat_Nat_Cmp.f k t490 t493).bind fun t496 => (if t496 = 0 then ((nat_Nat_Mul.f k t463 t469).bind fun t497 => ((nat_Nat_Mul.f k t469 t463).bind fun t500 => ((nat_Nat_Cmp.f k t497 t500).bind fun t503 => (if t503 = 0 then ((nat_Nat_Add.f k t463 t469).bind fun t504 => ((nat_Nat_Add.f k t504 t475).bind fun t507 => ((nat_Nat_Add.f k t469 t475).bind fun t510 => ((nat_Nat_Add.f k t463 t510).bind fun t513 => ((nat_Nat_Cmp.f k t507 t513).bind fun t516 => (if t516 = 0 then ((nat_Nat_Mul.f k t463 t469).bind fun t517 => ((nat_Nat_Mul.f k t517 t475).bind fun t520 => ((nat_Nat_Mul.f k t469 t475).bind fun t523 => ((nat_Nat_Mul.f k t463 t523).bind fun t526 => ((nat_Nat_Cmp.f k t520 t526).bind fun t529 => (if t529 = 0 then ((nat_Nat_Add.f k t469 t475).bind fun t530 => ((nat_Nat_Mul.f k t463 t530).bind fun t533 => ((nat_Nat_Mul.f k t463 t469).bind fun t536 => ((nat_Nat_Mul.f k t463 t475).bind fun t539 => ((nat_Nat_Add.f k t536 t539).bind fun t542 => ((nat_Nat_Cmp.f k t533 t542).bind fun t545 => (if t545 = 0 then (if bt484.2 = true then ((nat_Nat_Cmp.f k bt484.1 t463).bind fun t546 => (if t546 = 0 then ((nat_Of.f k (([1] : List Int))).bind fun t550 => ((nat_Nat_Mul.f k t463 t550).bind fun t553 => ((nat_Nat_Cmp.f k t553 t463).bind fun t556 => (if t556 = 0 then ((nat_Nat_Mul.f k t463 ([] : List Int)).bind fun t557 => ((nat_Nat_Zero.f t557).bind fun t560 => (some t560))) else (some false))))) else (some false))) else (some false)) else (some false)))))))) else (some false))))))) else (some false))))))) else (some false))))) else (some false))))) else (some false))))))))) = some r := H
  have A5 := Aside0.mk A50
  clear A50
  replace H := Option.bind_eq_some_iff.mp H
  obtain ⟨t466, A60, H⟩ := H
  replace H : ((nat_Of.f k t466).bind fun t469 => ((chattellaw01_cut.f l2).bind fun t472 => ((nat_Of.f k t472).bind fun t475 => ((nat_Nat_Add.f k t463 t469).bind fun t481 => ((nat_Nat_Sub.f k t481 t469).bind fun bt484 => ((chattellaw01_wakes.f k).bind fun t489 => (if t489 = true then ((nat_Nat_Add.f k t463 t469).bind fun t490 => ((nat_Nat_Add.f k t469 t463).bind fun t493 => ((nat_Nat_Cmp.f k t490 t493).bind fun t496 => (if t496 = 0 then ((nat_Nat_Mul.f k t463 t469).bind fun t497 => ((nat_Nat_Mul.f k t469 t463).bind fun t500 => ((nat_Nat_Cmp.f k t497 t500).bind fun t503 => (if t503 = 0 then ((nat_Nat_Add.f k t463 t469).bind fun t504 => ((nat_Nat_Add.f k t504 t475).bind fun t507 => ((nat_Nat_Add.f k t469 t475).bind fun t510 => ((nat_Nat_Add.f k t463 t510).bind fun t513 => ((nat_Nat_Cmp.f k t507 t513).bind fun t516 => (if t516 = 0 then ((nat_Nat_Mul.f k t463 t469).bind fun t517 => ((nat_Nat_Mul.f k t517 t475).bind fun t520 => ((nat_Nat_Mul.f k t469 t475).bind fun t523 => ((nat_Nat_Mul.f k t463 t523).bind fun t526 => ((nat_Nat_Cmp.f k t520 t526).bind fun t529 => (if t529 = 0 then ((nat_Nat_Add.f k t469 t475).bind fun t530 => ((nat_Nat_Mul.f k t463 t530).bind fun t533 => ((nat_Nat_Mul.f k t463 t469).bind fun t536 => ((nat_Nat_Mul.f k t463 t475).bind fun t539 => ((nat_Nat_Add.f k t536 t539).bind fun t542 => ((nat_Nat_Cmp.f k t533 t542).bind fun t545 => (if t545 = 0 then (if bt484.2 = true then ((nat_Nat_Cmp.f k bt484.1 t463).bind fun t546 => (if t546 = 0 then ((nat_Of.f k (([1] : List Int))).bind fun t550 => ((nat_Nat_Mul.f k t463 t550).bind fun t553 => ((nat_Nat_Cmp.f k t553 t463).bind fun t556 => (if t556 = 0 then ((nat_Nat_Mul.f k t463 ([] : List Int)).bind fun t557 => ((nat_Nat_Zero.f t557).bind fun t560 => (some t560))) else (some false))))) else (some false))) else (some false)) else (some false)))))))) else (some false))))))) else (some false))))))) else (some false))))) else (some false))))) else (some false)))))))) = some r := H
  have A6 := Aside0.mk A60
  clear A60
  replace H := Option.bind_eq_some_iff.mp H
  obtain ⟨t469, A70, H⟩ := H
  replace H : ((chattellaw01_cut.f l2).bind fun t472 => ((nat_Of.f k t472).bind fun t475 => ((nat_Nat_Add.f k t463 t469).bind fun t481 => ((nat_Nat_Sub.f k t481 t469).bind fun bt484 => ((chattellaw01_wakes.f k).bind fun t489 => (if t489 = true then ((nat_Nat_Add.f k t463 t469).bind fun t490 => ((nat_Nat_Add.f k t469 t463).bind fun t493 => ((nat_Nat_Cmp.f k t490 t493).bind fun t496 => (if t496 = 0 then ((nat_Nat_Mul.f k t463 t469).bind fun t497 => ((nat_Nat_Mul.f k t469 t463).bind fun t500 => ((nat_Nat_Cmp.f k t497 t500).bind fun t503 => (if t503 = 0 then ((nat_Nat_Add.f k t463 t469).bind fun t504 => ((nat_Nat_Add.f k t504 t475).bind fun t507 => ((nat_Nat_Add.f k t469 t475).bind fun t510 => ((nat_Nat_Add.f k t463 t510).bind fun t513 => ((nat_Nat_Cmp.f k t507 t513).bind fun t516 => (if t516 = 0 then ((nat_Nat_Mul.f k t463 t469).bind fun t517 => ((nat_Nat_Mul.f k t517 t475).bind fun t520 => ((nat_Nat_Mul.f k t469 t475).bind fun t523 => ((nat_Nat_Mul.f k t463 t523).bind fun t526 => ((nat_Nat_Cmp.f k t520 t526).bind fun t529 => (if t529 = 0 then ((nat_Nat_Add.f k t469 t475).bind fun t530 => ((nat_Nat_Mul.f k t463 t530).bind fun t533 => ((nat_Nat_Mul.f k t463 t469).bind fun t536 => ((nat_Nat_Mul.f k t463 t475).bind fun t539 => ((nat_Nat_Add.f k t536 t539).bind fun t542 => ((nat_Nat_Cmp.f k t533 t542).bind fun t545 => (if t545 = 0 then (if bt484.2 = true then ((nat_Nat_Cmp.f k bt484.1 t463).bind fun t546 => (if t546 = 0 then ((nat_Of.f k (([1] : List Int))).bind fun t550 => ((nat_Nat_Mul.f k t463 t550).bind fun t553 => ((nat_Nat_Cmp.f k t553 t463).bind fun t556 => (if t556 = 0 then ((nat_Nat_Mul.f k t463 ([] : List Int)).bind fun t557 => ((nat_Nat_Zero.f t557).bind fun t560 => (some t560))) else (some false))))) else (some false))) else (some false)) else (some false)))))))) else (some false))))))) else (some false))))))) else (some false))))) else (some false))))) else (some false))))))) = some r := H
  have A7 := Aside0.mk A70
  clear A70
  replace H := Option.bind_eq_some_iff.mp H
  obtain ⟨t472, A80, H⟩ := H
  replace H : ((nat_Of.f k t472).bind fun t475 => ((nat_Nat_Add.f k t463 t469).bind fun t481 => ((nat_Nat_Sub.f k t481 t469).bind fun bt484 => ((chattellaw01_wakes.f k).bind fun t489 => (if t489 = true then ((nat_Nat_Add.f k t463 t469).bind fun t490 => ((nat_Nat_Add.f k t469 t463).bind fun t493 => ((nat_Nat_Cmp.f k t490 t493).bind fun t496 => (if t496 = 0 then ((nat_Nat_Mul.f k t463 t469).bind fun t497 => ((nat_Nat_Mul.f k t469 t463).bind fun t500 => ((nat_Nat_Cmp.f k t497 t500).bind fun t503 => (if t503 = 0 then ((nat_Nat_Add.f k t463 t469).bind fun t504 => ((nat_Nat_Add.f k t504 t475).bind fun t507 => ((nat_Nat_Add.f k t469 t475).bind fun t510 => ((nat_Nat_Add.f k t463 t510).bind fun t513 => ((nat_Nat_Cmp.f k t507 t513).bind fun t516 => (if t516 = 0 then ((nat_Nat_Mul.f k t463 t469).bind fun t517 => ((nat_Nat_Mul.f k t517 t475).bind fun t520 => ((nat_Nat_Mul.f k t469 t475).bind fun t523 => ((nat_Nat_Mul.f k t463 t523).bind fun t526 => ((nat_Nat_Cmp.f k t520 t526).bind fun t529 => (if t529 = 0 then ((nat_Nat_Add.f k t469 t475).bind fun t530 => ((nat_Nat_Mul.f k t463 t530).bind fun t533 => ((nat_Nat_Mul.f k t463 t469).bind fun t536 => ((nat_Nat_Mul.f k t463 t475).bind fun t539 => ((nat_Nat_Add.f k t536 t539).bind fun t542 => ((nat_Nat_Cmp.f k t533 t542).bind fun t545 => (if t545 = 0 then (if bt484.2 = true then ((nat_Nat_Cmp.f k bt484.1 t463).bind fun t546 => (if t546 = 0 then ((nat_Of.f k (([1] : List Int))).bind fun t550 => ((nat_Nat_Mul.f k t463 t550).bind fun t553 => ((nat_Nat_Cmp.f k t553 t463).bind fun t556 => (if t556 = 0 then ((nat_Nat_Mul.f k t463 ([] : List Int)).bind fun t557 => ((nat_Nat_Zero.f t557).bind fun t560 => (some t560))) else (some false))))) else (some false))) else (some false)) else (some false)))))))) else (some false))))))) else (some false))))))) else (some false))))) else (some false))))) else (some false)))))) = some r := H
  have A8 := Aside0.mk A80
  clear A80
  replace H := Option.bind_eq_some_iff.mp H
  obtain ⟨t475, A90, H⟩ := H
  replace H : ((nat_Nat_Add.f k t463 t469).bind fun t481 => ((nat_Nat_Sub.f k t481 t469).bind fun bt484 => ((chattellaw01_wakes.f k).bind fun t489 => (if t489 = true then ((nat_Nat_Add.f k t463 t469).bind fun t490 => ((nat_Nat_Add.f k t469 t463).bind fun t493 => ((nat_Nat_Cmp.f k t490 t493).bind fun t496 => (if t496 = 0 then ((nat_Nat_Mul.f k t463 t469).bind fun t497 => ((nat_Nat_Mul.f k t469 t463).bind fun t500 => ((nat_Nat_Cmp.f k t497 t500).bind fun t503 => (if t503 = 0 then ((nat_Nat_Add.f k t463 t469).bind fun t504 => ((nat_Nat_Add.f k t504 t475).bind fun t507 => ((nat_Nat_Add.f k t469 t475).bind fun t510 => ((nat_Nat_Add.f k t463 t510).bind fun t513 => ((nat_Nat_Cmp.f k t507 t513).bind fun t516 => (if t516 = 0 then ((nat_Nat_Mul.f k t463 t469).bind fun t517 => ((nat_Nat_Mul.f k t517 t475).bind fun t520 => ((nat_Nat_Mul.f k t469 t475).bind fun t523 => ((nat_Nat_Mul.f k t463 t523).bind fun t526 => ((nat_Nat_Cmp.f k t520 t526).bind fun t529 => (if t529 = 0 then ((nat_Nat_Add.f k t469 t475).bind fun t530 => ((nat_Nat_Mul.f k t463 t530).bind fun t533 => ((nat_Nat_Mul.f k t463 t469).bind fun t536 => ((nat_Nat_Mul.f k t463 t475).bind fun t539 => ((nat_Nat_Add.f k t536 t539).bind fun t542 => ((nat_Nat_Cmp.f k t533 t542).bind fun t545 => (if t545 = 0 then (if bt484.2 = true then ((nat_Nat_Cmp.f k bt484.1 t463).bind fun t546 => (if t546 = 0 then ((nat_Of.f k (([1] : List Int))).bind fun t550 => ((nat_Nat_Mul.f k t463 t550).bind fun t553 => ((nat_Nat_Cmp.f k t553 t463).bind fun t556 => (if t556 = 0 then ((nat_Nat_Mul.f k t463 ([] : List Int)).bind fun t557 => ((nat_Nat_Zero.f t557).bind fun t560 => (some t560))) else (some false))))) else (some false))) else (some false)) else (some false)))))))) else (some false))))))) else (some false))))))) else (some false))))) else (some false))))) else (some false))))) = some r := H
  have A9 := Aside0.mk A90
  clear A90
  replace H := Option.bind_eq_some_iff.mp H
  obtain ⟨t481, A100, H⟩ := H
  replace H : ((nat_Nat_Sub.f k t481 t469).bind fun bt484 => ((chattellaw01_wakes.f k).bind fun t489 => (if t489 = true then ((nat_Nat_Add.f k t463 t469).bind fun t490 => ((nat_Nat_Add.f k t469 t463).bind fun t493 => ((nat_Nat_Cmp.f k t490 t493).bind fun t496 => (if t496 = 0 then ((nat_Nat_Mul.f k t463 t469).bind fun t497 => ((nat_Nat_Mul.f k t469 t463).bind fun t500 => ((nat_Nat_Cmp.f k t497 t500).bind fun t503 => (if t503 = 0 then ((nat_Nat_Add.f k t463 t469).bind fun t504 => ((nat_Nat_Add.f k t504 t475).bind fun t507 => ((nat_Nat_Add.f k t469 t475).bind fun t510 => ((nat_Nat_Add.f k t463 t510).bind fun t513 => ((nat_Nat_Cmp.f k t507 t513).bind fun t516 => (if t516 = 0 then ((nat_Nat_Mul.f k t463 t469).bind fun t517 => ((nat_Nat_Mul.f k t517 t475).bind fun t520 => ((nat_Nat_Mul.f k t469 t475).bind fun t523 => ((nat_Nat_Mul.f k t463 t523).bind fun t526 => ((nat_Nat_Cmp.f k t520 t526).bind fun t529 => (if t529 = 0 then ((nat_Nat_Add.f k t469 t475).bind fun t530 => ((nat_Nat_Mul.f k t463 t530).bind fun t533 => ((nat_Nat_Mul.f k t463 t469).bind fun t536 => ((nat_Nat_Mul.f k t463 t475).bind fun t539 => ((nat_Nat_Add.f k t536 t539).bind fun t542 => ((nat_Nat_Cmp.f k t533 t542).bind fun t545 => (if t545 = 0 then (if bt484.2 = true then ((nat_Nat_Cmp.f k bt484.1 t463).bind fun t546 => (if t546 = 0 then ((nat_Of.f k (([1] : List Int))).bind fun t550 => ((nat_Nat_Mul.f k t463 t550).bind fun t553 => ((nat_Nat_Cmp.f k t553 t463).bind fun t556 => (if t556 = 0 then ((nat_Nat_Mul.f k t463 ([] : List Int)).bind fun t557 => ((nat_Nat_Zero.f t557).bind fun t560 => (some t560))) else (some false))))) else (some false))) else (some false)) else (some false)))))))) else (some false))))))) else (some false))))))) else (some false))))) else (some false))))) else (some false)))) = some r := H
  have A10 := Aside0.mk A100
  clear A100
  replace H := Option.bind_eq_some_iff.mp H
  obtain ⟨⟨t484, t487⟩, A110, H⟩ := H
  replace H : ((chattellaw01_wakes.f k).bind fun t489 => (if t489 = true then ((nat_Nat_Add.f k t463 t469).bind fun t490 => ((nat_Nat_Add.f k t469 t463).bind fun t493 => ((nat_Nat_Cmp.f k t490 t493).bind fun t496 => (if t496 = 0 then ((nat_Nat_Mul.f k t463 t469).bind fun t497 => ((nat_Nat_Mul.f k t469 t463).bind fun t500 => ((nat_Nat_Cmp.f k t497 t500).bind fun t503 => (if t503 = 0 then ((nat_Nat_Add.f k t463 t469).bind fun t504 => ((nat_Nat_Add.f k t504 t475).bind fun t507 => ((nat_Nat_Add.f k t469 t475).bind fun t510 => ((nat_Nat_Add.f k t463 t510).bind fun t513 => ((nat_Nat_Cmp.f k t507 t513).bind fun t516 => (if t516 = 0 then ((nat_Nat_Mul.f k t463 t469).bind fun t517 => ((nat_Nat_Mul.f k t517 t475).bind fun t520 => ((nat_Nat_Mul.f k t469 t475).bind fun t523 => ((nat_Nat_Mul.f k t463 t523).bind fun t526 => ((nat_Nat_Cmp.f k t520 t526).bind fun t529 => (if t529 = 0 then ((nat_Nat_Add.f k t469 t475).bind fun t530 => ((nat_Nat_Mul.f k t463 t530).bind fun t533 => ((nat_Nat_Mul.f k t463 t469).bind fun t536 => ((nat_Nat_Mul.f k t463 t475).bind fun t539 => ((nat_Nat_Add.f k t536 t539).bind fun t542 => ((nat_Nat_Cmp.f k t533 t542).bind fun t545 => (if t545 = 0 then (if t487 = true then ((nat_Nat_Cmp.f k t484 t463).bind fun t546 => (if t546 = 0 then ((nat_Of.f k (([1] : List Int))).bind fun t550 => ((nat_Nat_Mul.f k t463 t550).bind fun t553 => ((nat_Nat_Cmp.f k t553 t463).bind fun t556 => (if t556 = 0 then ((nat_Nat_Mul.f k t463 ([] : List Int)).bind fun t557 => ((nat_Nat_Zero.f t557).bind fun t560 => (some t560))) else (some false))))) else (some false))) else (some false)) else (some false)))))))) else (some false))))))) else (some false))))))) else (some false))))) else (some false))))) else (some false))) = some r := H
  have A11 := Aside0.mk A110
  clear A110
  replace H := Option.bind_eq_some_iff.mp H
  obtain ⟨t489, A120, H⟩ := H
  replace H : (if t489 = true then ((nat_Nat_Add.f k t463 t469).bind fun t490 => ((nat_Nat_Add.f k t469 t463).bind fun t493 => ((nat_Nat_Cmp.f k t490 t493).bind fun t496 => (if t496 = 0 then ((nat_Nat_Mul.f k t463 t469).bind fun t497 => ((nat_Nat_Mul.f k t469 t463).bind fun t500 => ((nat_Nat_Cmp.f k t497 t500).bind fun t503 => (if t503 = 0 then ((nat_Nat_Add.f k t463 t469).bind fun t504 => ((nat_Nat_Add.f k t504 t475).bind fun t507 => ((nat_Nat_Add.f k t469 t475).bind fun t510 => ((nat_Nat_Add.f k t463 t510).bind fun t513 => ((nat_Nat_Cmp.f k t507 t513).bind fun t516 => (if t516 = 0 then ((nat_Nat_Mul.f k t463 t469).bind fun t517 => ((nat_Nat_Mul.f k t517 t475).bind fun t520 => ((nat_Nat_Mul.f k t469 t475).bind fun t523 => ((nat_Nat_Mul.f k t463 t523).bind fun t526 => ((nat_Nat_Cmp.f k t520 t526).bind fun t529 => (if t529 = 0 then ((nat_Nat_Add.f k t469 t475).bind fun t530 => ((nat_Nat_Mul.f k t463 t530).bind fun t533 => ((nat_Nat_Mul.f k t463 t469).bind fun t536 => ((nat_Nat_Mul.f k t463 t475).bind fun t539 => ((nat_Nat_Add.f k t536 t539).bind fun t542 => ((nat_Nat_Cmp.f k t533 t542).bind fun t545 => (if t545 = 0 then (if t487 = true then ((nat_Nat_Cmp.f k t484 t463).bind fun t546 => (if t546 = 0 then ((nat_Of.f k (([1] : List Int))).bind fun t550 => ((nat_Nat_Mul.f k t463 t550).bind fun t553 => ((nat_Nat_Cmp.f k t553 t463).bind fun t556 => (if t556 = 0 then ((nat_Nat_Mul.f k t463 ([] : List Int)).bind fun t557 => ((nat_Nat_Zero.f t557).bind fun t560 => (some t560))) else (some false))))) else (some false))) else (some false)) else (some false)))))))) else (some false))))))) else (some false))))))) else (some false))))) else (some false))))) else (some false)) = some r := H
  have A12 := Aside0.mk A120
  clear A120
  by_cases c13 : t489 = true
  · subst c13
    have H1 : ((nat_Nat_Add.f k t463 t469).bind fun t490 => ((nat_Nat_Add.f k t469 t463).bind fun t493 => ((nat_Nat_Cmp.f k t490 t493).bind fun t496 => (if t496 = 0 then ((nat_Nat_Mul.f k t463 t469).bind fun t497 => ((nat_Nat_Mul.f k t469 t463).bind fun t500 => ((nat_Nat_Cmp.f k t497 t500).bind fun t503 => (if t503 = 0 then ((nat_Nat_Add.f k t463 t469).bind fun t504 => ((nat_Nat_Add.f k t504 t475).bind fun t507 => ((nat_Nat_Add.f k t469 t475).bind fun t510 => ((nat_Nat_Add.f k t463 t510).bind fun t513 => ((nat_Nat_Cmp.f k t507 t513).bind fun t516 => (if t516 = 0 then ((nat_Nat_Mul.f k t463 t469).bind fun t517 => ((nat_Nat_Mul.f k t517 t475).bind fun t520 => ((nat_Nat_Mul.f k t469 t475).bind fun t523 => ((nat_Nat_Mul.f k t463 t523).bind fun t526 => ((nat_Nat_Cmp.f k t520 t526).bind fun t529 => (if t529 = 0 then ((nat_Nat_Add.f k t469 t475).bind fun t530 => ((nat_Nat_Mul.f k t463 t530).bind fun t533 => ((nat_Nat_Mul.f k t463 t469).bind fun t536 => ((nat_Nat_Mul.f k t463 t475).bind fun t539 => ((nat_Nat_Add.f k t536 t539).bind fun t542 => ((nat_Nat_Cmp.f k t533 t542).bind fun t545 => (if t545 = 0 then (if t487 = true then ((nat_Nat_Cmp.f k t484 t463).bind fun t546 => (if t546 = 0 then ((nat_Of.f k (([1] : List Int))).bind fun t550 => ((nat_Nat_Mul.f k t463 t550).bind fun t553 => ((nat_Nat_Cmp.f k t553 t463).bind fun t556 => (if t556 = 0 then ((nat_Nat_Mul.f k t463 ([] : List Int)).bind fun t557 => ((nat_Nat_Zero.f t557).bind fun t560 => (some t560))) else (some false))))) else (some false))) else (some false)) else (some false)))))))) else (some false))))))) else (some false))))))) else (some false))))) else (some false))))) = some r := by rw [if_pos rfl] at H; exact H
    clear H
    have H := H1
    clear H1
    replace H := Option.bind_eq_some_iff.mp H
    obtain ⟨t490, A140, H⟩ := H
    replace H : ((nat_Nat_Add.f k t469 t463).bind fun t493 => ((nat_Nat_Cmp.f k t490 t493).bind fun t496 => (if t496 = 0 then ((nat_Nat_Mul.f k t463 t469).bind fun t497 => ((nat_Nat_Mul.f k t469 t463).bind fun t500 => ((nat_Nat_Cmp.f k t497 t500).bind fun t503 => (if t503 = 0 then ((nat_Nat_Add.f k t463 t469).bind fun t504 => ((nat_Nat_Add.f k t504 t475).bind fun t507 => ((nat_Nat_Add.f k t469 t475).bind fun t510 => ((nat_Nat_Add.f k t463 t510).bind fun t513 => ((nat_Nat_Cmp.f k t507 t513).bind fun t516 => (if t516 = 0 then ((nat_Nat_Mul.f k t463 t469).bind fun t517 => ((nat_Nat_Mul.f k t517 t475).bind fun t520 => ((nat_Nat_Mul.f k t469 t475).bind fun t523 => ((nat_Nat_Mul.f k t463 t523).bind fun t526 => ((nat_Nat_Cmp.f k t520 t526).bind fun t529 => (if t529 = 0 then ((nat_Nat_Add.f k t469 t475).bind fun t530 => ((nat_Nat_Mul.f k t463 t530).bind fun t533 => ((nat_Nat_Mul.f k t463 t469).bind fun t536 => ((nat_Nat_Mul.f k t463 t475).bind fun t539 => ((nat_Nat_Add.f k t536 t539).bind fun t542 => ((nat_Nat_Cmp.f k t533 t542).bind fun t545 => (if t545 = 0 then (if t487 = true then ((nat_Nat_Cmp.f k t484 t463).bind fun t546 => (if t546 = 0 then ((nat_Of.f k (([1] : List Int))).bind fun t550 => ((nat_Nat_Mul.f k t463 t550).bind fun t553 => ((nat_Nat_Cmp.f k t553 t463).bind fun t556 => (if t556 = 0 then ((nat_Nat_Mul.f k t463 ([] : List Int)).bind fun t557 => ((nat_Nat_Zero.f t557).bind fun t560 => (some t560))) else (some false))))) else (some false))) else (some false)) else (some false)))))))) else (some false))))))) else (some false))))))) else (some false))))) else (some false)))) = some r := H
    have A14 := Aside0.mk A140
    clear A140
    replace H := Option.bind_eq_some_iff.mp H
    obtain ⟨t493, A150, H⟩ := H
    replace H : ((nat_Nat_Cmp.f k t490 t493).bind fun t496 => (if t496 = 0 then ((nat_Nat_Mul.f k t463 t469).bind fun t497 => ((nat_Nat_Mul.f k t469 t463).bind fun t500 => ((nat_Nat_Cmp.f k t497 t500).bind fun t503 => (if t503 = 0 then ((nat_Nat_Add.f k t463 t469).bind fun t504 => ((nat_Nat_Add.f k t504 t475).bind fun t507 => ((nat_Nat_Add.f k t469 t475).bind fun t510 => ((nat_Nat_Add.f k t463 t510).bind fun t513 => ((nat_Nat_Cmp.f k t507 t513).bind fun t516 => (if t516 = 0 then ((nat_Nat_Mul.f k t463 t469).bind fun t517 => ((nat_Nat_Mul.f k t517 t475).bind fun t520 => ((nat_Nat_Mul.f k t469 t475).bind fun t523 => ((nat_Nat_Mul.f k t463 t523).bind fun t526 => ((nat_Nat_Cmp.f k t520 t526).bind fun t529 => (if t529 = 0 then ((nat_Nat_Add.f k t469 t475).bind fun t530 => ((nat_Nat_Mul.f k t463 t530).bind fun t533 => ((nat_Nat_Mul.f k t463 t469).bind fun t536 => ((nat_Nat_Mul.f k t463 t475).bind fun t539 => ((nat_Nat_Add.f k t536 t539).bind fun t542 => ((nat_Nat_Cmp.f k t533 t542).bind fun t545 => (if t545 = 0 then (if t487 = true then ((nat_Nat_Cmp.f k t484 t463).bind fun t546 => (if t546 = 0 then ((nat_Of.f k (([1] : List Int))).bind fun t550 => ((nat_Nat_Mul.f k t463 t550).bind fun t553 => ((nat_Nat_Cmp.f k t553 t463).bind fun t556 => (if t556 = 0 then ((nat_Nat_Mul.f k t463 ([] : List Int)).bind fun t557 => ((nat_Nat_Zero.f t557).bind fun t560 => (some t560))) else (some false))))) else (some false))) else (some false)) else (some false)))))))) else (some false))))))) else (some false))))))) else (some false))))) else (some false))) = some r := H
    have A15 := Aside0.mk A150
    clear A150
    replace H := Option.bind_eq_some_iff.mp H
    obtain ⟨t496, A160, H⟩ := H
    replace H : (if t496 = 0 then ((nat_Nat_Mul.f k t463 t469).bind fun t497 => ((nat_Nat_Mul.f k t469 t463).bind fun t500 => ((nat_Nat_Cmp.f k t497 t500).bind fun t503 => (if t503 = 0 then ((nat_Nat_Add.f k t463 t469).bind fun t504 => ((nat_Nat_Add.f k t504 t475).bind fun t507 => ((nat_Nat_Add.f k t469 t475).bind fun t510 => ((nat_Nat_Add.f k t463 t510).bind fun t513 => ((nat_Nat_Cmp.f k t507 t513).bind fun t516 => (if t516 = 0 then ((nat_Nat_Mul.f k t463 t469).bind fun t517 => ((nat_Nat_Mul.f k t517 t475).bind fun t520 => ((nat_Nat_Mul.f k t469 t475).bind fun t523 => ((nat_Nat_Mul.f k t463 t523).bind fun t526 => ((nat_Nat_Cmp.f k t520 t526).bind fun t529 => (if t529 = 0 then ((nat_Nat_Add.f k t469 t475).bind fun t530 => ((nat_Nat_Mul.f k t463 t530).bind fun t533 => ((nat_Nat_Mul.f k t463 t469).bind fun t536 => ((nat_Nat_Mul.f k t463 t475).bind fun t539 => ((nat_Nat_Add.f k t536 t539).bind fun t542 => ((nat_Nat_Cmp.f k t533 t542).bind fun t545 => (if t545 = 0 then (if t487 = true then ((nat_Nat_Cmp.f k t484 t463).bind fun t546 => (if t546 = 0 then ((nat_Of.f k (([1] : List Int))).bind fun t550 => ((nat_Nat_Mul.f k t463 t550).bind fun t553 => ((nat_Nat_Cmp.f k t553 t463).bind fun t556 => (if t556 = 0 then ((nat_Nat_Mul.f k t463 ([] : List Int)).bind fun t557 => ((nat_Nat_Zero.f t557).bind fun t560 => (some t560))) else (some false))))) else (some false))) else (some false)) else (some false)))))))) else (some false))))))) else (some false))))))) else (some false))))) else (some false)) = some r := H
    have A16 := Aside0.mk A160
    clear A160
    by_cases c17 : t496 = 0
    rotate_left
    · rw [if_neg c17] at H
      have c17b0 : (t496 == 0) = false := beq_eq_false_iff_ne.mpr c17
      have c17b1 : (t496 != 0) = true := bne_iff_ne.mpr c17
      exact absurd (Option.some.inj H) (by rw [ht_]; decide)
    rw [if_pos c17] at H
    have c17b0 : (t496 == 0) = true := beq_iff_eq.mpr c17
    have c17b1 : (t496 != 0) = false := bne_eq_false_iff_eq.mpr c17
    clear c17
    replace H := Option.bind_eq_some_iff.mp H
    obtain ⟨t497, A180, H⟩ := H
    replace H : ((nat_Nat_Mul.f k t469 t463).bind fun t500 => ((nat_Nat_Cmp.f k t497 t500).bind fun t503 => (if t503 = 0 then ((nat_Nat_Add.f k t463 t469).bind fun t504 => ((nat_Nat_Add.f k t504 t475).bind fun t507 => ((nat_Nat_Add.f k t469 t475).bind fun t510 => ((nat_Nat_Add.f k t463 t510).bind fun t513 => ((nat_Nat_Cmp.f k t507 t513).bind fun t516 => (if t516 = 0 then ((nat_Nat_Mul.f k t463 t469).bind fun t517 => ((nat_Nat_Mul.f k t517 t475).bind fun t520 => ((nat_Nat_Mul.f k t469 t475).bind fun t523 => ((nat_Nat_Mul.f k t463 t523).bind fun t526 => ((nat_Nat_Cmp.f k t520 t526).bind fun t529 => (if t529 = 0 then ((nat_Nat_Add.f k t469 t475).bind fun t530 => ((nat_Nat_Mul.f k t463 t530).bind fun t533 => ((nat_Nat_Mul.f k t463 t469).bind fun t536 => ((nat_Nat_Mul.f k t463 t475).bind fun t539 => ((nat_Nat_Add.f k t536 t539).bind fun t542 => ((nat_Nat_Cmp.f k t533 t542).bind fun t545 => (if t545 = 0 then (if t487 = true then ((nat_Nat_Cmp.f k t484 t463).bind fun t546 => (if t546 = 0 then ((nat_Of.f k (([1] : List Int))).bind fun t550 => ((nat_Nat_Mul.f k t463 t550).bind fun t553 => ((nat_Nat_Cmp.f k t553 t463).bind fun t556 => (if t556 = 0 then ((nat_Nat_Mul.f k t463 ([] : List Int)).bind fun t557 => ((nat_Nat_Zero.f t557).bind fun t560 => (some t560))) else (some false))))) else (some false))) else (some false)) else (some false)))))))) else (some false))))))) else (some false))))))) else (some false)))) = some r := H
    have A18 := Aside0.mk A180
    clear A180
    replace H := Option.bind_eq_some_iff.mp H
    obtain ⟨t500, A190, H⟩ := H
    replace H : ((nat_Nat_Cmp.f k t497 t500).bind fun t503 => (if t503 = 0 then ((nat_Nat_Add.f k t463 t469).bind fun t504 => ((nat_Nat_Add.f k t504 t475).bind fun t507 => ((nat_Nat_Add.f k t469 t475).bind fun t510 => ((nat_Nat_Add.f k t463 t510).bind fun t513 => ((nat_Nat_Cmp.f k t507 t513).bind fun t516 => (if t516 = 0 then ((nat_Nat_Mul.f k t463 t469).bind fun t517 => ((nat_Nat_Mul.f k t517 t475).bind fun t520 => ((nat_Nat_Mul.f k t469 t475).bind fun t523 => ((nat_Nat_Mul.f k t463 t523).bind fun t526 => ((nat_Nat_Cmp.f k t520 t526).bind fun t529 => (if t529 = 0 then ((nat_Nat_Add.f k t469 t475).bind fun t530 => ((nat_Nat_Mul.f k t463 t530).bind fun t533 => ((nat_Nat_Mul.f k t463 t469).bind fun t536 => ((nat_Nat_Mul.f k t463 t475).bind fun t539 => ((nat_Nat_Add.f k t536 t539).bind fun t542 => ((nat_Nat_Cmp.f k t533 t542).bind fun t545 => (if t545 = 0 then (if t487 = true then ((nat_Nat_Cmp.f k t484 t463).bind fun t546 => (if t546 = 0 then ((nat_Of.f k (([1] : List Int))).bind fun t550 => ((nat_Nat_Mul.f k t463 t550).bind fun t553 => ((nat_Nat_Cmp.f k t553 t463).bind fun t556 => (if t556 = 0 then ((nat_Nat_Mul.f k t463 ([] : List Int)).bind fun t557 => ((nat_Nat_Zero.f t557).bind fun t560 => (some t560))) else (some false))))) else (some false))) else (some false)) else (some false)))))))) else (some false))))))) else (some false))))))) else (some false))) = some r := H
    have A19 := Aside0.mk A190
    clear A190
    replace H := Option.bind_eq_some_iff.mp H
    obtain ⟨t503, A200, H⟩ := H
    replace H : (if t503 = 0 then ((nat_Nat_Add.f k t463 t469).bind fun t504 => ((nat_Nat_Add.f k t504 t475).bind fun t507 => ((nat_Nat_Add.f k t469 t475).bind fun t510 => ((nat_Nat_Add.f k t463 t510).bind fun t513 => ((nat_Nat_Cmp.f k t507 t513).bind fun t516 => (if t516 = 0 then ((nat_Nat_Mul.f k t463 t469).bind fun t517 => ((nat_Nat_Mul.f k t517 t475).bind fun t520 => ((nat_Nat_Mul.f k t469 t475).bind fun t523 => ((nat_Nat_Mul.f k t463 t523).bind fun t526 => ((nat_Nat_Cmp.f k t520 t526).bind fun t529 => (if t529 = 0 then ((nat_Nat_Add.f k t469 t475).bind fun t530 => ((nat_Nat_Mul.f k t463 t530).bind fun t533 => ((nat_Nat_Mul.f k t463 t469).bind fun t536 => ((nat_Nat_Mul.f k t463 t475).bind fun t539 => ((nat_Nat_Add.f k t536 t539).bind fun t542 => ((nat_Nat_Cmp.f k t533 t542).bind fun t545 => (if t545 = 0 then (if t487 = true then ((nat_Nat_Cmp.f k t484 t463).bind fun t546 => (if t546 = 0 then ((nat_Of.f k (([1] : List Int))).bind fun t550 => ((nat_Nat_Mul.f k t463 t550).bind fun t553 => ((nat_Nat_Cmp.f k t553 t463).bind fun t556 => (if t556 = 0 then ((nat_Nat_Mul.f k t463 ([] : List Int)).bind fun t557 => ((nat_Nat_Zero.f t557).bind fun t560 => (some t560))) else (some false))))) else (some false))) else (some false)) else (some false)))))))) else (some false))))))) else (some false))))))) else (some false)) = some r := H
    have A20 := Aside0.mk A200
    clear A200
    by_cases c21 : t503 = 0
    rotate_left
    · rw [if_neg c21] at H
      have c21b0 : (t503 == 0) = false := beq_eq_false_iff_ne.mpr c21
      have c21b1 : (t503 != 0) = true := bne_iff_ne.mpr c21
      exact absurd (Option.some.inj H) (by rw [ht_]; decide)
    rw [if_pos c21] at H
    have c21b0 : (t503 == 0) = true := beq_iff_eq.mpr c21
    have c21b1 : (t503 != 0) = false := bne_eq_false_iff_eq.mpr c21
    clear c21
    replace H := Option.bind_eq_some_iff.mp H
    obtain ⟨t504, A220, H⟩ := H
    replace H : ((nat_Nat_Add.f k t504 t475).bind fun t507 => ((nat_Nat_Add.f k t469 t475).bind fun t510 => ((nat_Nat_Add.f k t463 t510).bind fun t513 => ((nat_Nat_Cmp.f k t507 t513).bind fun t516 => (if t516 = 0 then ((nat_Nat_Mul.f k t463 t469).bind fun t517 => ((nat_Nat_Mul.f k t517 t475).bind fun t520 => ((nat_Nat_Mul.f k t469 t475).bind fun t523 => ((nat_Nat_Mul.f k t463 t523).bind fun t526 => ((nat_Nat_Cmp.f k t520 t526).bind fun t529 => (if t529 = 0 then ((nat_Nat_Add.f k t469 t475).bind fun t530 => ((nat_Nat_Mul.f k t463 t530).bind fun t533 => ((nat_Nat_Mul.f k t463 t469).bind fun t536 => ((nat_Nat_Mul.f k t463 t475).bind fun t539 => ((nat_Nat_Add.f k t536 t539).bind fun t542 => ((nat_Nat_Cmp.f k t533 t542).bind fun t545 => (if t545 = 0 then (if t487 = true then ((nat_Nat_Cmp.f k t484 t463).bind fun t546 => (if t546 = 0 then ((nat_Of.f k (([1] : List Int))).bind fun t550 => ((nat_Nat_Mul.f k t463 t550).bind fun t553 => ((nat_Nat_Cmp.f k t553 t463).bind fun t556 => (if t556 = 0 then ((nat_Nat_Mul.f k t463 ([] : List Int)).bind fun t557 => ((nat_Nat_Zero.f t557).bind fun t560 => (some t560))) else (some false))))) else (some false))) else (some false)) else (some false)))))))) else (some false))))))) else (some false)))))) = some r := H
    have A22 := Aside0.mk A220
    clear A220
    replace H := Option.bind_eq_some_iff.mp H
    obtain ⟨t507, A230, H⟩ := H
    replace H : ((nat_Nat_Add.f k t469 t475).bind fun t510 => ((nat_Nat_Add.f k t463 t510).bind fun t513 => ((nat_Nat_Cmp.f k t507 t513).bind fun t516 => (if t516 = 0 then ((nat_Nat_Mul.f k t463 t469).bind fun t517 => ((nat_Nat_Mul.f k t517 t475).bind fun t520 => ((nat_Nat_Mul.f k t469 t475).bind fun t523 => ((nat_Nat_Mul.f k t463 t523).bind fun t526 => ((nat_Nat_Cmp.f k t520 t526).bind fun t529 => (if t529 = 0 then ((nat_Nat_Add.f k t469 t475).bind fun t530 => ((nat_Nat_Mul.f k t463 t530).bind fun t533 => ((nat_Nat_Mul.f k t463 t469).bind fun t536 => ((nat_Nat_Mul.f k t463 t475).bind fun t539 => ((nat_Nat_Add.f k t536 t539).bind fun t542 => ((nat_Nat_Cmp.f k t533 t542).bind fun t545 => (if t545 = 0 then (if t487 = true then ((nat_Nat_Cmp.f k t484 t463).bind fun t546 => (if t546 = 0 then ((nat_Of.f k (([1] : List Int))).bind fun t550 => ((nat_Nat_Mul.f k t463 t550).bind fun t553 => ((nat_Nat_Cmp.f k t553 t463).bind fun t556 => (if t556 = 0 then ((nat_Nat_Mul.f k t463 ([] : List Int)).bind fun t557 => ((nat_Nat_Zero.f t557).bind fun t560 => (some t560))) else (some false))))) else (some false))) else (some false)) else (some false)))))))) else (some false))))))) else (some false))))) = some r := H
    have A23 := Aside0.mk A230
    clear A230
    replace H := Option.bind_eq_some_iff.mp H
    obtain ⟨t510, A240, H⟩ := H
    replace H : ((nat_Nat_Add.f k t463 t510).bind fun t513 => ((nat_Nat_Cmp.f k t507 t513).bind fun t516 => (if t516 = 0 then ((nat_Nat_Mul.f k t463 t469).bind fun t517 => ((nat_Nat_Mul.f k t517 t475).bind fun t520 => ((nat_Nat_Mul.f k t469 t475).bind fun t523 => ((nat_Nat_Mul.f k t463 t523).bind fun t526 => ((nat_Nat_Cmp.f k t520 t526).bind fun t529 => (if t529 = 0 then ((nat_Nat_Add.f k t469 t475).bind fun t530 => ((nat_Nat_Mul.f k t463 t530).bind fun t533 => ((nat_Nat_Mul.f k t463 t469).bind fun t536 => ((nat_Nat_Mul.f k t463 t475).bind fun t539 => ((nat_Nat_Add.f k t536 t539).bind fun t542 => ((nat_Nat_Cmp.f k t533 t542).bind fun t545 => (if t545 = 0 then (if t487 = true then ((nat_Nat_Cmp.f k t484 t463).bind fun t546 => (if t546 = 0 then ((nat_Of.f k (([1] : List Int))).bind fun t550 => ((nat_Nat_Mul.f k t463 t550).bind fun t553 => ((nat_Nat_Cmp.f k t553 t463).bind fun t556 => (if t556 = 0 then ((nat_Nat_Mul.f k t463 ([] : List Int)).bind fun t557 => ((nat_Nat_Zero.f t557).bind fun t560 => (some t560))) else (some false))))) else (some false))) else (some false)) else (some false)))))))) else (some false))))))) else (some false)))) = some r := H
    have A24 := Aside0.mk A240
    clear A240
    replace H := Option.bind_eq_some_iff.mp H
    obtain ⟨t513, A250, H⟩ := H
    replace H : ((nat_Nat_Cmp.f k t507 t513).bind fun t516 => (if t516 = 0 then ((nat_Nat_Mul.f k t463 t469).bind fun t517 => ((nat_Nat_Mul.f k t517 t475).bind fun t520 => ((nat_Nat_Mul.f k t469 t475).bind fun t523 => ((nat_Nat_Mul.f k t463 t523).bind fun t526 => ((nat_Nat_Cmp.f k t520 t526).bind fun t529 => (if t529 = 0 then ((nat_Nat_Add.f k t469 t475).bind fun t530 => ((nat_Nat_Mul.f k t463 t530).bind fun t533 => ((nat_Nat_Mul.f k t463 t469).bind fun t536 => ((nat_Nat_Mul.f k t463 t475).bind fun t539 => ((nat_Nat_Add.f k t536 t539).bind fun t542 => ((nat_Nat_Cmp.f k t533 t542).bind fun t545 => (if t545 = 0 then (if t487 = true then ((nat_Nat_Cmp.f k t484 t463).bind fun t546 => (if t546 = 0 then ((nat_Of.f k (([1] : List Int))).bind fun t550 => ((nat_Nat_Mul.f k t463 t550).bind fun t553 => ((nat_Nat_Cmp.f k t553 t463).bind fun t556 => (if t556 = 0 then ((nat_Nat_Mul.f k t463 ([] : List Int)).bind fun t557 => ((nat_Nat_Zero.f t557).bind fun t560 => (some t560))) else (some false))))) else (some false))) else (some false)) else (some false)))))))) else (some false))))))) else (some false))) = some r := H
    have A25 := Aside0.mk A250
    clear A250
    replace H := Option.bind_eq_some_iff.mp H
    obtain ⟨t516, A260, H⟩ := H
    replace H : (if t516 = 0 then ((nat_Nat_Mul.f k t463 t469).bind fun t517 => ((nat_Nat_Mul.f k t517 t475).bind fun t520 => ((nat_Nat_Mul.f k t469 t475).bind fun t523 => ((nat_Nat_Mul.f k t463 t523).bind fun t526 => ((nat_Nat_Cmp.f k t520 t526).bind fun t529 => (if t529 = 0 then ((nat_Nat_Add.f k t469 t475).bind fun t530 => ((nat_Nat_Mul.f k t463 t530).bind fun t533 => ((nat_Nat_Mul.f k t463 t469).bind fun t536 => ((nat_Nat_Mul.f k t463 t475).bind fun t539 => ((nat_Nat_Add.f k t536 t539).bind fun t542 => ((nat_Nat_Cmp.f k t533 t542).bind fun t545 => (if t545 = 0 then (if t487 = true then ((nat_Nat_Cmp.f k t484 t463).bind fun t546 => (if t546 = 0 then ((nat_Of.f k (([1] : List Int))).bind fun t550 => ((nat_Nat_Mul.f k t463 t550).bind fun t553 => ((nat_Nat_Cmp.f k t553 t463).bind fun t556 => (if t556 = 0 then ((nat_Nat_Mul.f k t463 ([] : List Int)).bind fun t557 => ((nat_Nat_Zero.f t557).bind fun t560 => (some t560))) else (some false))))) else (some false))) else (some false)) else (some false)))))))) else (some false))))))) else (some false)) = some r := H
    have A26 := Aside0.mk A260
    clear A260
    by_cases c27 : t516 = 0
    rotate_left
    · rw [if_neg c27] at H
      have c27b0 : (t516 == 0) = false := beq_eq_false_iff_ne.mpr c27
      have c27b1 : (t516 != 0) = true := bne_iff_ne.mpr c27
      exact absurd (Option.some.inj H) (by rw [ht_]; decide)
    rw [if_pos c27] at H
    have c27b0 : (t516 == 0) = true := beq_iff_eq.mpr c27
    have c27b1 : (t516 != 0) = false := bne_eq_false_iff_eq.mpr c27
    clear c27
    replace H := Option.bind_eq_some_iff.mp H
    obtain ⟨t517, A280, H⟩ := H
    replace H : ((nat_Nat_Mul.f k t517 t475).bind fun t520 => ((nat_Nat_Mul.f k t469 t475).bind fun t523 => ((nat_Nat_Mul.f k t463 t523).bind fun t526 => ((nat_Nat_Cmp.f k t520 t526).bind fun t529 => (if t529 = 0 then ((nat_Nat_Add.f k t469 t475).bind fun t530 => ((nat_Nat_Mul.f k t463 t530).bind fun t533 => ((nat_Nat_Mul.f k t463 t469).bind fun t536 => ((nat_Nat_Mul.f k t463 t475).bind fun t539 => ((nat_Nat_Add.f k t536 t539).bind fun t542 => ((nat_Nat_Cmp.f k t533 t542).bind fun t545 => (if t545 = 0 then (if t487 = true then ((nat_Nat_Cmp.f k t484 t463).bind fun t546 => (if t546 = 0 then ((nat_Of.f k (([1] : List Int))).bind fun t550 => ((nat_Nat_Mul.f k t463 t550).bind fun t553 => ((nat_Nat_Cmp.f k t553 t463).bind fun t556 => (if t556 = 0 then ((nat_Nat_Mul.f k t463 ([] : List Int)).bind fun t557 => ((nat_Nat_Zero.f t557).bind fun t560 => (some t560))) else (some false))))) else (some false))) else (some false)) else (some false)))))))) else (some false)))))) = some r := H
    have A28 := Aside0.mk A280
    clear A280
    replace H := Option.bind_eq_some_iff.mp H
    obtain ⟨t520, A290, H⟩ := H
    replace H : ((nat_Nat_Mul.f k t469 t475).bind fun t523 => ((nat_Nat_Mul.f k t463 t523).bind fun t526 => ((nat_Nat_Cmp.f k t520 t526).bind fun t529 => (if t529 = 0 then ((nat_Nat_Add.f k t469 t475).bind fun t530 => ((nat_Nat_Mul.f k t463 t530).bind fun t533 => ((nat_Nat_Mul.f k t463 t469).bind fun t536 => ((nat_Nat_Mul.f k t463 t475).bind fun t539 => ((nat_Nat_Add.f k t536 t539).bind fun t542 => ((nat_Nat_Cmp.f k t533 t542).bind fun t545 => (if t545 = 0 then (if t487 = true then ((nat_Nat_Cmp.f k t484 t463).bind fun t546 => (if t546 = 0 then ((nat_Of.f k (([1] : List Int))).bind fun t550 => ((nat_Nat_Mul.f k t463 t550).bind fun t553 => ((nat_Nat_Cmp.f k t553 t463).bind fun t556 => (if t556 = 0 then ((nat_Nat_Mul.f k t463 ([] : List Int)).bind fun t557 => ((nat_Nat_Zero.f t557).bind fun t560 => (some t560))) else (some false))))) else (some false))) else (some false)) else (some false)))))))) else (some false))))) = some r := H
    have A29 := Aside0.mk A290
    clear A290
    replace H := Option.bind_eq_some_iff.mp H
    obtain ⟨t523, A300, H⟩ := H
    replace H : ((nat_Nat_Mul.f k t463 t523).bind fun t526 => ((nat_Nat_Cmp.f k t520 t526).bind fun t529 => (if t529 = 0 then ((nat_Nat_Add.f k t469 t475).bind fun t530 => ((nat_Nat_Mul.f k t463 t530).bind fun t533 => ((nat_Nat_Mul.f k t463 t469).bind fun t536 => ((nat_Nat_Mul.f k t463 t475).bind fun t539 => ((nat_Nat_Add.f k t536 t539).bind fun t542 => ((nat_Nat_Cmp.f k t533 t542).bind fun t545 => (if t545 = 0 then (if t487 = true then ((nat_Nat_Cmp.f k t484 t463).bind fun t546 => (if t546 = 0 then ((nat_Of.f k (([1] : List Int))).bind fun t550 => ((nat_Nat_Mul.f k t463 t550).bind fun t553 => ((nat_Nat_Cmp.f k t553 t463).bind fun t556 => (if t556 = 0 then ((nat_Nat_Mul.f k t463 ([] : List Int)).bind fun t557 => ((nat_Nat_Zero.f t557).bind fun t560 => (some t560))) else (some false))))) else (some false))) else (some false)) else (some false)))))))) else (some false)))) = some r := H
    have A30 := Aside0.mk A300
    clear A300
    replace H := Option.bind_eq_some_iff.mp H
    obtain ⟨t526, A310, H⟩ := H
    replace H : ((nat_Nat_Cmp.f k t520 t526).bind fun t529 => (if t529 = 0 then ((nat_Nat_Add.f k t469 t475).bind fun t530 => ((nat_Nat_Mul.f k t463 t530).bind fun t533 => ((nat_Nat_Mul.f k t463 t469).bind fun t536 => ((nat_Nat_Mul.f k t463 t475).bind fun t539 => ((nat_Nat_Add.f k t536 t539).bind fun t542 => ((nat_Nat_Cmp.f k t533 t542).bind fun t545 => (if t545 = 0 then (if t487 = true then ((nat_Nat_Cmp.f k t484 t463).bind fun t546 => (if t546 = 0 then ((nat_Of.f k (([1] : List Int))).bind fun t550 => ((nat_Nat_Mul.f k t463 t550).bind fun t553 => ((nat_Nat_Cmp.f k t553 t463).bind fun t556 => (if t556 = 0 then ((nat_Nat_Mul.f k t463 ([] : List Int)).bind fun t557 => ((nat_Nat_Zero.f t557).bind fun t560 => (some t560))) else (some false))))) else (some false))) else (some false)) else (some false)))))))) else (some false))) = some r := H
    have A31 := Aside0.mk A310
    clear A310
    replace H := Option.bind_eq_some_iff.mp H
    obtain ⟨t529, A320, H⟩ := H
    replace H : (if t529 = 0 then ((nat_Nat_Add.f k t469 t475).bind fun t530 => ((nat_Nat_Mul.f k t463 t530).bind fun t533 => ((nat_Nat_Mul.f k t463 t469).bind fun t536 => ((nat_Nat_Mul.f k t463 t475).bind fun t539 => ((nat_Nat_Add.f k t536 t539).bind fun t542 => ((nat_Nat_Cmp.f k t533 t542).bind fun t545 => (if t545 = 0 then (if t487 = true then ((nat_Nat_Cmp.f k t484 t463).bind fun t546 => (if t546 = 0 then ((nat_Of.f k (([1] : List Int))).bind fun t550 => ((nat_Nat_Mul.f k t463 t550).bind fun t553 => ((nat_Nat_Cmp.f k t553 t463).bind fun t556 => (if t556 = 0 then ((nat_Nat_Mul.f k t463 ([] : List Int)).bind fun t557 => ((nat_Nat_Zero.f t557).bind fun t560 => (some t560))) else (some false))))) else (some false))) else (some false)) else (some false)))))))) else (some false)) = some r := H
    have A32 := Aside0.mk A320
    clear A320
    by_cases c33 : t529 = 0
    rotate_left
    · rw [if_neg c33] at H
      have c33b0 : (t529 == 0) = false := beq_eq_false_iff_ne.mpr c33
      have c33b1 : (t529 != 0) = true := bne_iff_ne.mpr c33
      exact absurd (Option.some.inj H) (by rw [ht_]; decide)
    rw [if_pos c33] at H
    have c33b0 : (t529 == 0) = true := beq_iff_eq.mpr c33
    have c33b1 : (t529 != 0) = false := bne_eq_false_iff_eq.mpr c33
    clear c33
    replace H := Option.bind_eq_some_iff.mp H
    obtain ⟨t530, A340, H⟩ := H
    replace H : ((nat_Nat_Mul.f k t463 t530).bind fun t533 => ((nat_Nat_Mul.f k t463 t469).bind fun t536 => ((nat_Nat_Mul.f k t463 t475).bind fun t539 => ((nat_Nat_Add.f k t536 t539).bind fun t542 => ((nat_Nat_Cmp.f k t533 t542).bind fun t545 => (if t545 = 0 then (if t487 = true then ((nat_Nat_Cmp.f k t484 t463).bind fun t546 => (if t546 = 0 then ((nat_Of.f k (([1] : List Int))).bind fun t550 => ((nat_Nat_Mul.f k t463 t550).bind fun t553 => ((nat_Nat_Cmp.f k t553 t463).bind fun t556 => (if t556 = 0 then ((nat_Nat_Mul.f k t463 ([] : List Int)).bind fun t557 => ((nat_Nat_Zero.f t557).bind fun t560 => (some t560))) else (some false))))) else (some false))) else (some false)) else (some false))))))) = some r := H
    have A34 := Aside0.mk A340
    clear A340
    replace H := Option.bind_eq_some_iff.mp H
    obtain ⟨t533, A350, H⟩ := H
    replace H : ((nat_Nat_Mul.f k t463 t469).bind fun t536 => ((nat_Nat_Mul.f k t463 t475).bind fun t539 => ((nat_Nat_Add.f k t536 t539).bind fun t542 => ((nat_Nat_Cmp.f k t533 t542).bind fun t545 => (if t545 = 0 then (if t487 = true then ((nat_Nat_Cmp.f k t484 t463).bind fun t546 => (if t546 = 0 then ((nat_Of.f k (([1] : List Int))).bind fun t550 => ((nat_Nat_Mul.f k t463 t550).bind fun t553 => ((nat_Nat_Cmp.f k t553 t463).bind fun t556 => (if t556 = 0 then ((nat_Nat_Mul.f k t463 ([] : List Int)).bind fun t557 => ((nat_Nat_Zero.f t557).bind fun t560 => (some t560))) else (some false))))) else (some false))) else (some false)) else (some false)))))) = some r := H
    have A35 := Aside0.mk A350
    clear A350
    replace H := Option.bind_eq_some_iff.mp H
    obtain ⟨t536, A360, H⟩ := H
    replace H : ((nat_Nat_Mul.f k t463 t475).bind fun t539 => ((nat_Nat_Add.f k t536 t539).bind fun t542 => ((nat_Nat_Cmp.f k t533 t542).bind fun t545 => (if t545 = 0 then (if t487 = true then ((nat_Nat_Cmp.f k t484 t463).bind fun t546 => (if t546 = 0 then ((nat_Of.f k (([1] : List Int))).bind fun t550 => ((nat_Nat_Mul.f k t463 t550).bind fun t553 => ((nat_Nat_Cmp.f k t553 t463).bind fun t556 => (if t556 = 0 then ((nat_Nat_Mul.f k t463 ([] : List Int)).bind fun t557 => ((nat_Nat_Zero.f t557).bind fun t560 => (some t560))) else (some false))))) else (some false))) else (some false)) else (some false))))) = some r := H
    have A36 := Aside0.mk A360
    clear A360
    replace H := Option.bind_eq_some_iff.mp H
    obtain ⟨t539, A370, H⟩ := H
    replace H : ((nat_Nat_Add.f k t536 t539).bind fun t542 => ((nat_Nat_Cmp.f k t533 t542).bind fun t545 => (if t545 = 0 then (if t487 = true then ((nat_Nat_Cmp.f k t484 t463).bind fun t546 => (if t546 = 0 then ((nat_Of.f k (([1] : List Int))).bind fun t550 => ((nat_Nat_Mul.f k t463 t550).bind fun t553 => ((nat_Nat_Cmp.f k t553 t463).bind fun t556 => (if t556 = 0 then ((nat_Nat_Mul.f k t463 ([] : List Int)).bind fun t557 => ((nat_Nat_Zero.f t557).bind fun t560 => (some t560))) else (some false))))) else (some false))) else (some false)) else (some false)))) = some r := H
    have A37 := Aside0.mk A370
    clear A370
    replace H := Option.bind_eq_some_iff.mp H
    obtain ⟨t542, A380, H⟩ := H
    replace H : ((nat_Nat_Cmp.f k t533 t542).bind fun t545 => (if t545 = 0 then (if t487 = true then ((nat_Nat_Cmp.f k t484 t463).bind fun t546 => (if t546 = 0 then ((nat_Of.f k (([1] : List Int))).bind fun t550 => ((nat_Nat_Mul.f k t463 t550).bind fun t553 => ((nat_Nat_Cmp.f k t553 t463).bind fun t556 => (if t556 = 0 then ((nat_Nat_Mul.f k t463 ([] : List Int)).bind fun t557 => ((nat_Nat_Zero.f t557).bind fun t560 => (some t560))) else (some false))))) else (some false))) else (some false)) else (some false))) = some r := H
    have A38 := Aside0.mk A380
    clear A380
    replace H := Option.bind_eq_some_iff.mp H
    obtain ⟨t545, A390, H⟩ := H
    replace H : (if t545 = 0 then (if t487 = true then ((nat_Nat_Cmp.f k t484 t463).bind fun t546 => (if t546 = 0 then ((nat_Of.f k (([1] : List Int))).bind fun t550 => ((nat_Nat_Mul.f k t463 t550).bind fun t553 => ((nat_Nat_Cmp.f k t553 t463).bind fun t556 => (if t556 = 0 then ((nat_Nat_Mul.f k t463 ([] : List Int)).bind fun t557 => ((nat_Nat_Zero.f t557).bind fun t560 => (some t560))) else (some false))))) else (some false))) else (some false)) else (some false)) = some r := H
    have A39 := Aside0.mk A390
    clear A390
    by_cases c40 : t545 = 0
    rotate_left
    · rw [if_neg c40] at H
      have c40b0 : (t545 == 0) = false := beq_eq_false_iff_ne.mpr c40
      have c40b1 : (t545 != 0) = true := bne_iff_ne.mpr c40
      exact absurd (Option.some.inj H) (by rw [ht_]; decide)
    rw [if_pos c40] at H
    have c40b0 : (t545 == 0) = true := beq_iff_eq.mpr c40
    have c40b1 : (t545 != 0) = false := bne_eq_false_iff_eq.mpr c40
    clear c40
    by_cases c41 : t487 = true
    · subst c41
      have H1 : ((nat_Nat_Cmp.f k t484 t463).bind fun t546 => (if t546 = 0 then ((nat_Of.f k (([1] : List Int))).bind fun t550 => ((nat_Nat_Mul.f k t463 t550).bind fun t553 => ((nat_Nat_Cmp.f k t553 t463).bind fun t556 => (if t556 = 0 then ((nat_Nat_Mul.f k t463 ([] : List Int)).bind fun t557 => ((nat_Nat_Zero.f t557).bind fun t560 => (some t560))) else (some false))))) else (some false))) = some r := by rw [if_pos rfl] at H; exact H
      clear H
      have H := H1
      clear H1
      replace H := Option.bind_eq_some_iff.mp H
      obtain ⟨t546, A420, H⟩ := H
      replace H : (if t546 = 0 then ((nat_Of.f k (([1] : List Int))).bind fun t550 => ((nat_Nat_Mul.f k t463 t550).bind fun t553 => ((nat_Nat_Cmp.f k t553 t463).bind fun t556 => (if t556 = 0 then ((nat_Nat_Mul.f k t463 ([] : List Int)).bind fun t557 => ((nat_Nat_Zero.f t557).bind fun t560 => (some t560))) else (some false))))) else (some false)) = some r := H
      have A42 := Aside0.mk A420
      clear A420
      by_cases c43 : t546 = 0
      rotate_left
      · rw [if_neg c43] at H
        have c43b0 : (t546 == 0) = false := beq_eq_false_iff_ne.mpr c43
        have c43b1 : (t546 != 0) = true := bne_iff_ne.mpr c43
        exact absurd (Option.some.inj H) (by rw [ht_]; decide)
      rw [if_pos c43] at H
      have c43b0 : (t546 == 0) = true := beq_iff_eq.mpr c43
      have c43b1 : (t546 != 0) = false := bne_eq_false_iff_eq.mpr c43
      clear c43
      obtain ⟨y547, hy547⟩ : ∃ y_ : List Int, y_ = (([1] : List Int)) := ⟨_, rfl⟩
      replace H : ((nat_Of.f k y547).bind fun t550 => ((nat_Nat_Mul.f k t463 t550).bind fun t553 => ((nat_Nat_Cmp.f k t553 t463).bind fun t556 => (if t556 = 0 then ((nat_Nat_Mul.f k t463 ([] : List Int)).bind fun t557 => ((nat_Nat_Zero.f t557).bind fun t560 => (some t560))) else (some false))))) = some r := by first | (rw [hy547]; with_reducible exact H) | (have H2_ := (Option.bind_some _ _).symm.trans H; rw [hy547]; with_reducible exact H2_) | (have H2_ := (Option.bind_some _ _).symm.trans H; with_reducible exact H2_) | with_reducible exact H | (rw [hy547]; exact H) | exact H
      have Ny547 := Aside0.mk hy547
      clear hy547
      replace H := Option.bind_eq_some_iff.mp H
      obtain ⟨t550, A440, H⟩ := H
      replace H : ((nat_Nat_Mul.f k t463 t550).bind fun t553 => ((nat_Nat_Cmp.f k t553 t463).bind fun t556 => (if t556 = 0 then ((nat_Nat_Mul.f k t463 ([] : List Int)).bind fun t557 => ((nat_Nat_Zero.f t557).bind fun t560 => (some t560))) else (some false)))) = some r := H
      have A44 := Aside0.mk A440
      clear A440
      replace H := Option.bind_eq_some_iff.mp H
      obtain ⟨t553, A450, H⟩ := H
      replace H : ((nat_Nat_Cmp.f k t553 t463).bind fun t556 => (if t556 = 0 then ((nat_Nat_Mul.f k t463 ([] : List Int)).bind fun t557 => ((nat_Nat_Zero.f t557).bind fun t560 => (some t560))) else (some false))) = some r := H
      have A45 := Aside0.mk A450
      clear A450
      replace H := Option.bind_eq_some_iff.mp H
      obtain ⟨t556, A460, H⟩ := H
      replace H : (if t556 = 0 then ((nat_Nat_Mul.f k t463 ([] : List Int)).bind fun t557 => ((nat_Nat_Zero.f t557).bind fun t560 => (some t560))) else (some false)) = some r := H
      have A46 := Aside0.mk A460
      clear A460
      by_cases c47 : t556 = 0
      rotate_left
      · rw [if_neg c47] at H
        have c47b0 : (t556 == 0) = false := beq_eq_false_iff_ne.mpr c47
        have c47b1 : (t556 != 0) = true := bne_iff_ne.mpr c47
        exact absurd (Option.some.inj H) (by rw [ht_]; decide)
      rw [if_pos c47] at H
      have c47b0 : (t556 == 0) = true := beq_iff_eq.mpr c47
      have c47b1 : (t556 != 0) = false := bne_eq_false_iff_eq.mpr c47
      clear c47
      replace H := Option.bind_eq_some_iff.mp H
      obtain ⟨t557, A480, H⟩ := H
      replace H : ((nat_Nat_Zero.f t557).bind fun t560 => (some t560)) = some r := H
      have A48 := Aside0.mk A480
      clear A480
      replace H := Option.bind_eq_some_iff.mp H
      obtain ⟨t560, A490, H⟩ := H
      replace H : (some t560) = some r := H
      have A49 := Aside0.mk A490
      clear A490
      obtain rfl := Option.some.inj H
      go_enter Try.func6, Try.ntmps6
      try go_wp2_with (first | ((with_reducible refine gate_callee (f := 13) rfl ?_); refine goesL_ (some 13) rfl rfl Try.func13 (by kernel_rfl) rfl #[.slice A0 l0.length c0] rfl (by (try simp only [List.map_toArray, List.map_cons, List.map_nil]); first | done | rfl | (simp only [List.length_drop, List.length_take]; rfl)) ?_; (with_reducible refine (chattellaw01_cut.calls (fun k_ => k_ < w.heap.size) _ _ l0 t460 _ ?side1 A4.out).mono ?_); (case side1 => exact Kd.V_mk HC0.out (Kd.F_below (Kd.C_F (Kd.heap_int .u64) HR0.out) (by repeat (first | (with_reducible first | exact HB.out | apply below_alloc | apply pw_below_drewN | apply below_drew1) | exact HB.out)))); rintro e w50 ⟨v461, rfl, ho0, hb⟩; refine ⟨_, rfl, ?_⟩; have HO462 := Aside0.mk (Kd.V_lower (Kd.V_mono (ok' := fun k_ => True) ho0 (fun k_ hk_ => trivial)) (below_size (by repeat (first | (with_reducible first | exact HB.out | apply below_alloc | apply pw_below_drewN | apply below_drew1) | exact HB.out)))); replace HB := Aside0.mk (below_step (by repeat (first | (with_reducible first | exact HB.out | apply below_alloc | apply pw_below_drewN | apply below_drew1) | exact HB.out)) hb); (try clear hb); (try clear hb2); (try clear hk); (try clear hi); (try clear ho0); obtain ⟨Ao51, co51, eo51⟩ := Kd.V_slice HO462.out; subst eo51) | ((with_reducible refine gate_callee (f := 14) rfl ?_); refine goesL_ (some 14) rfl rfl Try.func14 (by kernel_rfl) rfl #[.slice Ao51 t460.length co51] rfl (by (try simp only [List.map_toArray, List.map_cons, List.map_nil]); first | done | rfl | (simp only [List.length_drop, List.length_take]; rfl)) ?_; (with_reducible refine (nat_Of.calls k _ _ t460 t463 _ ?side1 ?side2 A5.out).mono ?_); (case side1 => exact cv HO462.out); (case side2 => exact (Kd.V_reads' HO462.out).2.1); rintro e w52 ⟨v464, rfl, ho0, hb⟩; refine ⟨_, rfl, ?_⟩; replace HO462 := Aside0.mk (vb HO462.out hb); have HO465 := Aside0.mk (Kd.V_lower (Kd.V_mono (ok' := fun k_ => True) ho0 (fun k_ hk_ => trivial)) (bz HB.out)); replace HB := Aside0.mk (bs HB.out hb); (try clear hb); (try clear hb2); (try clear hk); (try clear hi); (try clear ho0)) | ((with_reducible refine gate_callee (f := 13) rfl ?_); refine goesL_ (some 16) rfl rfl Try.func13 (by kernel_rfl) rfl #[.slice A1 l1.length c1] rfl (by (try simp only [List.map_toArray, List.map_cons, List.map_nil]); first | done | rfl | (simp only [List.length_drop, List.length_take]; rfl)) ?_; (with_reducible refine (chattellaw01_cut.calls (fun k_ => k_ < w.heap.size) _ _ l1 t466 _ ?side1 A6.out).mono ?_); (case side1 => exact Kd.V_mk HC1.out (Kd.F_below (Kd.C_F (Kd.heap_int .u64) HR1.out) (by repeat (first | (with_reducible first | exact HB.out | apply below_alloc | apply pw_below_drewN | apply below_drew1) | exact HB.out)))); rintro e w53 ⟨v467, rfl, ho0, hb⟩; refine ⟨_, rfl, ?_⟩; replace HO462 := Aside0.mk (vb HO462.out hb); replace HO465 := Aside0.mk (vb HO465.out hb); have HO468 := Aside0.mk (Kd.V_lower (Kd.V_mono (ok' := fun k_ => True) ho0 (fun k_ hk_ => trivial)) (bz HB.out)); replace HB := Aside0.mk (bs HB.out hb); (try clear hb); (try clear hb2); (try clear hk); (try clear hi); (try clear ho0); obtain ⟨Ao54, co54, eo54⟩ := Kd.V_slice HO468.out; subst eo54) | ((with_reducible refine gate_callee (f := 14) rfl ?_); refine goesL_ (some 17) rfl rfl Try.func14 (by kernel_rfl) rfl #[.slice Ao54 t466.length co54] rfl (by (try simp only [List.map_toArray, List.map_cons, List.map_nil]); first | done | rfl | (simp only [List.length_drop, List.length_take]; rfl)) ?_; (with_reducible refine (nat_Of.calls k _ _ t466 t469 _ ?side1 ?side2 A7.out).mono ?_); (case side1 => exact cv HO468.out); (case side2 => exact (Kd.V_reads' HO468.out).2.1); rintro e w55 ⟨v470, rfl, ho0, hb⟩; refine ⟨_, rfl, ?_⟩; replace HO462 := Aside0.mk (vb HO462.out hb); replace HO465 := Aside0.mk (vb HO465.out hb); replace HO468 := Aside0.mk (vb HO468.out hb); have HO471 := Aside0.mk (Kd.V_lower (Kd.V_mono (ok' := fun k_ => True) ho0 (fun k_ hk_ => trivial)) (bz HB.out)); replace HB := Aside0.mk (bs HB.out hb); (try clear hb); (try clear hb2); (try clear hk); (try clear hi); (try clear ho0)) | ((with_reducible refine gate_callee (f := 13) rfl ?_); refine goesL_ (some 19) rfl rfl Try.func13 (by kernel_rfl) rfl #[.slice A2 l2.length c2] rfl (by (try simp only [List.map_toArray, List.map_cons, List.map_nil]); first | done | rfl | (simp only [List.length_drop, List.length_take]; rfl)) ?_; (with_reducible refine (chattellaw01_cut.calls (fun k_ => k_ < w.heap.size) _ _ l2 t472 _ ?side1 A8.out).mono ?_); (case side1 => exact Kd.V_mk HC2.out (Kd.F_below (Kd.C_F (Kd.heap_int .u64) HR2.out) (by repeat (first | (with_reducible first | exact HB.out | apply below_alloc | apply pw_below_drewN | apply below_drew1) | exact HB.out)))); rintro e w56 ⟨v473, rfl, ho0, hb⟩; refine ⟨_, rfl, ?_⟩; replace HO462 := Aside0.mk (vb HO462.out hb); replace HO465 := Aside0.mk (vb HO465.out hb); replace HO468 := Aside0.mk (vb HO468.out hb); replace HO471 := Aside0.mk (vb HO471.out hb); have HO474 := Aside0.mk (Kd.V_lower (Kd.V_mono (ok' := fun k_ => True) ho0 (fun k_ hk_ => trivial)) (bz HB.out)); replace HB := Aside0.mk (bs HB.out hb); (try clear hb); (try clear hb2); (try clear hk); (try clear hi); (try clear ho0); obtain ⟨Ao57, co57, eo57⟩ := Kd.V_slice HO474.out; subst eo57) | ((with_reducible refine gate_callee (f := 14) rfl ?_); refine goesL_ (some 20) rfl rfl Try.func14 (by kernel_rfl) rfl #[.slice Ao57 t472.length co57] rfl (by (try simp only [List.map_toArray, List.map_cons, List.map_nil]); first | done | rfl | (simp only [List.length_drop, List.length_take]; rfl)) ?_; (with_reducible refine (nat_Of.calls k _ _ t472 t475 _ ?side1 ?side2 A9.out).mono ?_); (case side1 => exact cv HO474.out); (case side2 => exact (Kd.V_reads' HO474.out).2.1); rintro e w58 ⟨v476, rfl, ho0, hb⟩; refine ⟨_, rfl, ?_⟩; replace HO462 := Aside0.mk (vb HO462.out hb); replace HO465 := Aside0.mk (vb HO465.out hb); replace HO468 := Aside0.mk (vb HO468.out hb); replace HO471 := Aside0.mk (vb HO471.out hb); replace HO474 := Aside0.mk (vb HO474.out hb); have HO477 := Aside0.mk (Kd.V_lower (Kd.V_mono (ok' := fun k_ => True) ho0 (fun k_ hk_ => trivial)) (bz HB.out)); replace HB := Aside0.mk (bs HB.out hb); (try clear hb); (try clear hb2); (try clear hk); (try clear hi); (try clear ho0)) | ((with_reducible refine gate_dst (N := 7) rfl ?_); (try (refine gate_guard (by rfl) ?_; dsimp only)); refine box_event ?hg (N := 7) ?hd (cs := #[.slice none 0 0]) (t := 25) ?hr ?_; (case hd => rfl); (case hg => rfl); (case hr => first | (go_simp; done) | (go_simp; rfl)); intro gb478 hg w59 hbox hb; have n0_ := Aside0.mk (Kd.V_below (Kd.V_elderB (by (with_reducible repeat (first | apply Kd.V_alloc | apply Kd.V_drewN | apply Kd.V_drew)); exact HO462.out) gb478 (Nat.le_of_eq hg.symm)) hb); have n1_ := Aside0.mk (Kd.V_below (Kd.V_elderB (by (with_reducible repeat (first | apply Kd.V_alloc | apply Kd.V_drewN | apply Kd.V_drew)); exact HO465.out) gb478 (Nat.le_of_eq hg.symm)) hb); have n2_ := Aside0.mk (Kd.V_below (Kd.V_elderB (by (with_reducible repeat (first | apply Kd.V_alloc | apply Kd.V_drewN | apply Kd.V_drew)); exact HO468.out) gb478 (Nat.le_of_eq hg.symm)) hb); have n3_ := Aside0.mk (Kd.V_below (Kd.V_elderB (by (with_reducible repeat (first | apply Kd.V_alloc | apply Kd.V_drewN | apply Kd.V_drew)); exact HO471.out) gb478 (Nat.le_of_eq hg.symm)) hb); have n4_ := Aside0.mk (Kd.V_below (Kd.V_elderB (by (with_reducible repeat (first | apply Kd.V_alloc | apply Kd.V_drewN | apply Kd.V_drew)); exact HO474.out) gb478 (Nat.le_of_eq hg.symm)) hb); have n5_ := Aside0.mk (Kd.V_below (Kd.V_elderB (by (with_reducible repeat (first | apply Kd.V_alloc | apply Kd.V_drewN | apply Kd.V_drew)); exact HO477.out) gb478 (Nat.le_of_eq hg.symm)) hb); have n6_ := Aside0.mk (below_step (by repeat (first | (with_reducible first | exact HB.out | apply below_alloc | apply pw_below_drewN | apply below_drew1) | exact HB.out)) hb); have n7_ := Aside0.mk (hbox); have n8_ := Aside0.mk ((by rw [hg]; exact (below_size (by repeat (first | (with_reducible first | exact HB.out | apply below_alloc | apply pw_below_drewN | apply below_drew1) | exact HB.out))) : w.heap.size ≤ gb478)); have n9_ := Aside0.mk ((by rw [hg]; exact (below_size (by repeat (first | (with_reducible first | exact HB.out | apply below_alloc | apply pw_below_drewN | apply below_drew1) | exact HB.out))) : w.heap.size ≤ gb478)); clear HO462; clear HO465; clear HO468; clear HO471; clear HO474; clear HO477; clear HB; have HO462 := n0_; have HO465 := n1_; have HO468 := n2_; have HO471 := n3_; have HO474 := n4_; have HO477 := n5_; have HB := n6_; have BK478 := n7_; have GW478 := n8_; have GE478 := n9_; clear n0_ n1_ n2_ n3_ n4_ n5_ n6_ n7_ n8_ n9_; clear hb hbox hg) | ((with_reducible refine gate_dst (N := 8) rfl ?_); (try (refine gate_guard (by rfl) ?_; dsimp only)); refine box_event ?hg (N := 8) ?hd (cs := #[.slice none 0 0]) (t := 25) ?hr ?_; (case hd => rfl); (case hg => rfl); (case hr => first | (go_simp; done) | (go_simp; rfl)); intro gb479 hg w60 hbox hb; have n0_ := Aside0.mk (Kd.V_below (Kd.V_elderB (by (with_reducible repeat (first | apply Kd.V_alloc | apply Kd.V_drewN | apply Kd.V_drew)); exact HO462.out) gb479 (Nat.le_of_eq hg.symm)) hb); have n1_ := Aside0.mk (Kd.V_below (Kd.V_elderB (by (with_reducible repeat (first | apply Kd.V_alloc | apply Kd.V_drewN | apply Kd.V_drew)); exact HO465.out) gb479 (Nat.le_of_eq hg.symm)) hb); have n2_ := Aside0.mk (Kd.V_below (Kd.V_elderB (by (with_reducible repeat (first | apply Kd.V_alloc | apply Kd.V_drewN | apply Kd.V_drew)); exact HO468.out) gb479 (Nat.le_of_eq hg.symm)) hb); have n3_ := Aside0.mk (Kd.V_below (Kd.V_elderB (by (with_reducible repeat (first | apply Kd.V_alloc | apply Kd.V_drewN | apply Kd.V_drew)); exact HO471.out) gb479 (Nat.le_of_eq hg.symm)) hb); have n4_ := Aside0.mk (Kd.V_below (Kd.V_elderB (by (with_reducible repeat (first | apply Kd.V_alloc | apply Kd.V_drewN | apply Kd.V_drew)); exact HO474.out) gb479 (Nat.le_of_eq hg.symm)) hb); have n5_ := Aside0.mk (Kd.V_below (Kd.V_elderB (by (with_reducible repeat (first | apply Kd.V_alloc | apply Kd.V_drewN | apply Kd.V_drew)); exact HO477.out) gb479 (Nat.le_of_eq hg.symm)) hb); have n6_ := Aside0.mk (bb BK478.out hb); have n7_ := Aside0.mk (bs HB.out hb); have n8_ := Aside0.mk (hbox); have n9_ := Aside0.mk ((by rw [hg]; exact (bz HB.out) : w.heap.size ≤ gb479)); have n10_ := Aside0.mk ((by rw [hg]; exact (bz HB.out) : w.heap.size ≤ gb479)); have n11_ := Aside0.mk ((by rw [hg]; exact Nat.ne_of_lt (blk_lt (g := gb478) (o := .cells #[.slice none 0 0] 25 (0, 0)) (by (with_reducible repeat (first | refine blk_drewN ?_ _ | refine blk_drew ?_ | refine blk_alloc ?_ _)); exact BK478.out)) : gb478 ≠ gb479)); have n12_ := Aside0.mk ((by rw [hg]; exact Nat.ne_of_gt (blk_lt (g := gb478) (o := .cells #[.slice none 0 0] 25 (0, 0)) (by (with_reducible repeat (first | refine blk_drewN ?_ _ | refine blk_drew ?_ | refine blk_alloc ?_ _)); exact BK478.out)) : gb479 ≠ gb478)); clear HO462; clear HO465; clear HO468; clear HO471; clear HO474; clear HO477; clear BK478; clear HB; have HO462 := n0_; have HO465 := n1_; have HO468 := n2_; have HO471 := n3_; have HO474 := n4_; have HO477 := n5_; have BK478 := n6_; have HB := n7_; have BK479 := n8_; have GW479 := n9_; have GE479 := n10_; have NB478_479 := n11_; have NB479_478 := n12_; clear n0_ n1_ n2_ n3_ n4_ n5_ n6_ n7_ n8_ n9_ n10_ n11_ n12_; clear hb hbox hg) | ((with_reducible refine gate_dst (N := 9) rfl ?_); (try (refine gate_guard (by rfl) ?_; dsimp only)); refine box_event ?hg (N := 9) ?hd (cs := #[.slice none 0 0]) (t := 25) ?hr ?_; (case hd => rfl); (case hg => rfl); (case hr => first | (go_simp; done) | (go_simp; rfl)); intro gb480 hg w61 hbox hb; have n0_ := Aside0.mk (Kd.V_below (Kd.V_elderB (by (with_reducible repeat (first | apply Kd.V_alloc | apply Kd.V_drewN | apply Kd.V_drew)); exact HO462.out) gb480 (Nat.le_of_eq hg.symm)) hb); have n1_ := Aside0.mk (Kd.V_below (Kd.V_elderB (by (with_reducible repeat (first | apply Kd.V_alloc | apply Kd.V_drewN | apply Kd.V_drew)); exact HO465.out) gb480 (Nat.le_of_eq hg.symm)) hb); have n2_ := Aside0.mk (Kd.V_below (Kd.V_elderB (by (with_reducible repeat (first | apply Kd.V_alloc | apply Kd.V_drewN | apply Kd.V_drew)); exact HO468.out) gb480 (Nat.le_of_eq hg.symm)) hb); have n3_ := Aside0.mk (Kd.V_below (Kd.V_elderB (by (with_reducible repeat (first | apply Kd.V_alloc | apply Kd.V_drewN | apply Kd.V_drew)); exact HO471.out) gb480 (Nat.le_of_eq hg.symm)) hb); have n4_ := Aside0.mk (Kd.V_below (Kd.V_elderB (by (with_reducible repeat (first | apply Kd.V_alloc | apply Kd.V_drewN | apply Kd.V_drew)); exact HO474.out) gb480 (Nat.le_of_eq hg.symm)) hb); have n5_ := Aside0.mk (Kd.V_below (Kd.V_elderB (by (with_reducible repeat (first | apply Kd.V_alloc | apply Kd.V_drewN | apply Kd.V_drew)); exact HO477.out) gb480 (Nat.le_of_eq hg.symm)) hb); have n6_ := Aside0.mk (bb BK478.out hb); have n7_ := Aside0.mk (bb BK479.out hb); have n8_ := Aside0.mk (bs HB.out hb); have n9_ := Aside0.mk (hbox); have n10_ := Aside0.mk ((by rw [hg]; exact (bz HB.out) : w.heap.size ≤ gb480)); have n11_ := Aside0.mk ((by rw [hg]; exact (bz HB.out) : w.heap.size ≤ gb480)); have n12_ := Aside0.mk ((by rw [hg]; exact Nat.ne_of_lt (blk_lt (g := gb478) (o := .cells #[.slice none 0 0] 25 (0, 0)) (by (with_reducible repeat (first | refine blk_drewN ?_ _ | refine blk_drew ?_ | refine blk_alloc ?_ _)); exact BK478.out)) : gb478 ≠ gb480)); have n13_ := Aside0.mk ((by rw [hg]; exact Nat.ne_of_gt (blk_lt (g := gb478) (o := .cells #[.slice none 0 0] 25 (0, 0)) (by (with_reducible repeat (first | refine blk_drewN ?_ _ | refine blk_drew ?_ | refine blk_alloc ?_ _)); exact BK478.out)) : gb480 ≠ gb478)); have n14_ := Aside0.mk ((by rw [hg]; exact Nat.ne_of_lt (blk_lt (g := gb479) (o := .cells #[.slice none 0 0] 25 (0, 0)) (by (with_reducible repeat (first | refine blk_drewN ?_ _ | refine blk_drew ?_ | refine blk_alloc ?_ _)); exact BK479.out)) : gb479 ≠ gb480)); have n15_ := Aside0.mk ((by rw [hg]; exact Nat.ne_of_gt (blk_lt (g := gb479) (o := .cells #[.slice none 0 0] 25 (0, 0)) (by (with_reducible repeat (first | refine blk_drewN ?_ _ | refine blk_drew ?_ | refine blk_alloc ?_ _)); exact BK479.out)) : gb480 ≠ gb479)); clear HO462; clear HO465; clear HO468; clear HO471; clear HO474; clear HO477; clear BK478; clear BK479; clear HB; have HO462 := n0_; have HO465 := n1_; have HO468 := n2_; have HO471 := n3_; have HO474 := n4_; have HO477 := n5_; have BK478 := n6_; have BK479 := n7_; have HB := n8_; have BK480 := n9_; have GW480 := n10_; have GE480 := n11_; have NB478_480 := n12_; have NB480_478 := n13_; have NB479_480 := n14_; have NB480_479 := n15_; clear n0_ n1_ n2_ n3_ n4_ n5_ n6_ n7_ n8_ n9_ n10_ n11_ n12_ n13_ n14_ n15_; clear hb hbox hg; obtain ⟨Ao62, co62, eo62⟩ := Kd.V_slice HO465.out; subst eo62; have hnb63 := NB478_479.out; have hnc63 := NB479_478.out; have hnb64 := NB478_480.out; have hnc64 := NB480_478.out; have hcz65_0 : w61.cell? ⟨gb478, 0, none⟩ = some (.slice none 0 0) := (blk_cell BK478.out 0).trans rfl; have hfz65_0 := blk_frozen BK478.out 0; obtain ⟨Ao66, co66, eo66⟩ := Kd.V_slice HO471.out; subst eo66; have hnb67 := NB479_480.out; have hnc67 := NB480_479.out; have hcz68_0 : w61.cell? ⟨gb479, 0, none⟩ = some (.slice none 0 0) := (blk_cell BK479.out 0).trans rfl; have hfz68_0 := blk_frozen BK479.out 0; obtain ⟨Ao69, co69, eo69⟩ := Kd.V_slice HO477.out; subst eo69; have hcz70_0 : w61.cell? ⟨gb480, 0, none⟩ = some (.slice none 0 0) := (blk_cell BK480.out 0).trans rfl; have hfz70_0 := blk_frozen BK480.out 0))
      have n0_ : Aside0 (Kd.V (Kd.int .u64) 27 (((w61.setCell ⟨gb478, 0, none⟩ (.slice Ao62 t463.length co62)).setCell ⟨gb479, 0, none⟩ (.slice Ao66 t469.length co66)).setCell ⟨gb480, 0, none⟩ (.slice Ao69 t475.length co69)) w.heap.size (fun k_ => k_ ≠ gb478 ∧ k_ ≠ gb479 ∧ k_ ≠ gb480) (.slice Ao51 t460.length co51) t460) := ⟨by (with_reducible repeat (first | apply Kd.V_alloc | apply Kd.V_drewN | apply Kd.V_drew)); exact Kd.V_mono (Kd.V_far (p := ⟨gb480, 0, none⟩) (Kd.V_far (p := ⟨gb479, 0, none⟩) (Kd.V_far (p := ⟨gb478, 0, none⟩) (Kd.V_mono (Kd.V_mono (Kd.V_mono HO462.out (fun k_ hk => (⟨hk, hk.1.1.2⟩ : _ ∧ k_ ≠ gb478))) (fun k_ hk => (⟨hk, hk.1.1.2⟩ : _ ∧ k_ ≠ gb479))) (fun k_ hk => (⟨hk, hk.1.1.2⟩ : _ ∧ k_ ≠ gb480))) (fun _ hk => hk.1.1.2) (.slice Ao62 t463.length co62)) (fun _ hk => hk.1.2) (.slice Ao66 t469.length co66)) (fun _ hk => hk.2) (.slice Ao69 t475.length co69)) (fun _ hk => ⟨hk.1.1.1.1.1.2, ⟨hk.1.1.1.1.2, hk.1.1.1.2⟩⟩)⟩
      have n1_ : Aside0 (Kd.V (Kd.int .u64) 27 (((w61.setCell ⟨gb478, 0, none⟩ (.slice Ao62 t463.length co62)).setCell ⟨gb479, 0, none⟩ (.slice Ao66 t469.length co66)).setCell ⟨gb480, 0, none⟩ (.slice Ao69 t475.length co69)) w.heap.size (fun k_ => k_ ≠ gb478 ∧ k_ ≠ gb479 ∧ k_ ≠ gb480) (.slice Ao62 t463.length co62) t463) := ⟨by (with_reducible repeat (first | apply Kd.V_alloc | apply Kd.V_drewN | apply Kd.V_drew)); exact Kd.V_mono (Kd.V_far (p := ⟨gb480, 0, none⟩) (Kd.V_far (p := ⟨gb479, 0, none⟩) (Kd.V_far (p := ⟨gb478, 0, none⟩) (Kd.V_mono (Kd.V_mono (Kd.V_mono HO465.out (fun k_ hk => (⟨hk, hk.1.1.2⟩ : _ ∧ k_ ≠ gb478))) (fun k_ hk => (⟨hk, hk.1.1.2⟩ : _ ∧ k_ ≠ gb479))) (fun k_ hk => (⟨hk, hk.1.1.2⟩ : _ ∧ k_ ≠ gb480))) (fun _ hk => hk.1.1.2) (.slice Ao62 t463.length co62)) (fun _ hk => hk.1.2) (.slice Ao66 t469.length co66)) (fun _ hk => hk.2) (.slice Ao69 t475.length co69)) (fun _ hk => ⟨hk.1.1.1.1.1.2, ⟨hk.1.1.1.1.2, hk.1.1.1.2⟩⟩)⟩
      have n2_ : Aside0 (Kd.V (Kd.int .u64) 27 (((w61.setCell ⟨gb478, 0, none⟩ (.slice Ao62 t463.length co62)).setCell ⟨gb479, 0, none⟩ (.slice Ao66 t469.length co66)).setCell ⟨gb480, 0, none⟩ (.slice Ao69 t475.length co69)) w.heap.size (fun k_ => k_ ≠ gb478 ∧ k_ ≠ gb479 ∧ k_ ≠ gb480) (.slice Ao54 t466.length co54) t466) := ⟨by (with_reducible repeat (first | apply Kd.V_alloc | apply Kd.V_drewN | apply Kd.V_drew)); exact Kd.V_mono (Kd.V_far (p := ⟨gb480, 0, none⟩) (Kd.V_far (p := ⟨gb479, 0, none⟩) (Kd.V_far (p := ⟨gb478, 0, none⟩) (Kd.V_mono (Kd.V_mono (Kd.V_mono HO468.out (fun k_ hk => (⟨hk, hk.1.1.2⟩ : _ ∧ k_ ≠ gb478))) (fun k_ hk => (⟨hk, hk.1.1.2⟩ : _ ∧ k_ ≠ gb479))) (fun k_ hk => (⟨hk, hk.1.1.2⟩ : _ ∧ k_ ≠ gb480))) (fun _ hk => hk.1.1.2) (.slice Ao62 t463.length co62)) (fun _ hk => hk.1.2) (.slice Ao66 t469.length co66)) (fun _ hk => hk.2) (.slice Ao69 t475.length co69)) (fun _ hk => ⟨hk.1.1.1.1.1.2, ⟨hk.1.1.1.1.2, hk.1.1.1.2⟩⟩)⟩
      have n3_ : Aside0 (Kd.V (Kd.int .u64) 27 (((w61.setCell ⟨gb478, 0, none⟩ (.slice Ao62 t463.length co62)).setCell ⟨gb479, 0, none⟩ (.slice Ao66 t469.length co66)).setCell ⟨gb480, 0, none⟩ (.slice Ao69 t475.length co69)) w.heap.size (fun k_ => k_ ≠ gb478 ∧ k_ ≠ gb479 ∧ k_ ≠ gb480) (.slice Ao66 t469.length co66) t469) := ⟨by (with_reducible repeat (first | apply Kd.V_alloc | apply Kd.V_drewN | apply Kd.V_drew)); exact Kd.V_mono (Kd.V_far (p := ⟨gb480, 0, none⟩) (Kd.V_far (p := ⟨gb479, 0, none⟩) (Kd.V_far (p := ⟨gb478, 0, none⟩) (Kd.V_mono (Kd.V_mono (Kd.V_mono HO471.out (fun k_ hk => (⟨hk, hk.1.1.2⟩ : _ ∧ k_ ≠ gb478))) (fun k_ hk => (⟨hk, hk.1.1.2⟩ : _ ∧ k_ ≠ gb479))) (fun k_ hk => (⟨hk, hk.1.1.2⟩ : _ ∧ k_ ≠ gb480))) (fun _ hk => hk.1.1.2) (.slice Ao62 t463.length co62)) (fun _ hk => hk.1.2) (.slice Ao66 t469.length co66)) (fun _ hk => hk.2) (.slice Ao69 t475.length co69)) (fun _ hk => ⟨hk.1.1.1.1.1.2, ⟨hk.1.1.1.1.2, hk.1.1.1.2⟩⟩)⟩
      have n4_ : Aside0 (Kd.V (Kd.int .u64) 27 (((w61.setCell ⟨gb478, 0, none⟩ (.slice Ao62 t463.length co62)).setCell ⟨gb479, 0, none⟩ (.slice Ao66 t469.length co66)).setCell ⟨gb480, 0, none⟩ (.slice Ao69 t475.length co69)) w.heap.size (fun k_ => k_ ≠ gb478 ∧ k_ ≠ gb479 ∧ k_ ≠ gb480) (.slice Ao57 t472.length co57) t472) := ⟨by (with_reducible repeat (first | apply Kd.V_alloc | apply Kd.V_drewN | apply Kd.V_drew)); exact Kd.V_mono (Kd.V_far (p := ⟨gb480, 0, none⟩) (Kd.V_far (p := ⟨gb479, 0, none⟩) (Kd.V_far (p := ⟨gb478, 0, none⟩) (Kd.V_mono (Kd.V_mono (Kd.V_mono HO474.out (fun k_ hk => (⟨hk, hk.1.1.2⟩ : _ ∧ k_ ≠ gb478))) (fun k_ hk => (⟨hk, hk.1.1.2⟩ : _ ∧ k_ ≠ gb479))) (fun k_ hk => (⟨hk, hk.1.1.2⟩ : _ ∧ k_ ≠ gb480))) (fun _ hk => hk.1.1.2) (.slice Ao62 t463.length co62)) (fun _ hk => hk.1.2) (.slice Ao66 t469.length co66)) (fun _ hk => hk.2) (.slice Ao69 t475.length co69)) (fun _ hk => ⟨hk.1.1.1.1.1.2, ⟨hk.1.1.1.1.2, hk.1.1.1.2⟩⟩)⟩
      have n5_ : Aside0 (Kd.V (Kd.int .u64) 27 (((w61.setCell ⟨gb478, 0, none⟩ (.slice Ao62 t463.length co62)).setCell ⟨gb479, 0, none⟩ (.slice Ao66 t469.length co66)).setCell ⟨gb480, 0, none⟩ (.slice Ao69 t475.length co69)) w.heap.size (fun k_ => k_ ≠ gb478 ∧ k_ ≠ gb479 ∧ k_ ≠ gb480) (.slice Ao69 t475.length co69) t475) := ⟨by (with_reducible repeat (first | apply Kd.V_alloc | apply Kd.V_drewN | apply Kd.V_drew)); exact Kd.V_mono (Kd.V_far (p := ⟨gb480, 0, none⟩) (Kd.V_far (p := ⟨gb479, 0, none⟩) (Kd.V_far (p := ⟨gb478, 0, none⟩) (Kd.V_mono (Kd.V_mono (Kd.V_mono HO477.out (fun k_ hk => (⟨hk, hk.1.1.2⟩ : _ ∧ k_ ≠ gb478))) (fun k_ hk => (⟨hk, hk.1.1.2⟩ : _ ∧ k_ ≠ gb479))) (fun k_ hk => (⟨hk, hk.1.1.2⟩ : _ ∧ k_ ≠ gb480))) (fun _ hk => hk.1.1.2) (.slice Ao62 t463.length co62)) (fun _ hk => hk.1.2) (.slice Ao66 t469.length co66)) (fun _ hk => hk.2) (.slice Ao69 t475.length co69)) (fun _ hk => ⟨hk.1.1.1.1.1.2, ⟨hk.1.1.1.1.2, hk.1.1.1.2⟩⟩)⟩
      have n6_ : Aside0 ((((w61.setCell ⟨gb478, 0, none⟩ (.slice Ao62 t463.length co62)).setCell ⟨gb479, 0, none⟩ (.slice Ao66 t469.length co66)).setCell ⟨gb480, 0, none⟩ (.slice Ao69 t475.length co69)).heap[gb478]? = some (.cells #[.slice Ao62 t463.length co62] 25 (0, 0))) := ⟨by (with_reducible repeat (first | refine blk_drewN ?_ _ | refine blk_drew ?_ | refine blk_alloc ?_ _)); refine blk_far ?_ NB478_480.out _; (with_reducible repeat (first | refine blk_drewN ?_ _ | refine blk_drew ?_ | refine blk_alloc ?_ _)); refine blk_far ?_ NB478_479.out _; (with_reducible repeat (first | refine blk_drewN ?_ _ | refine blk_drew ?_ | refine blk_alloc ?_ _)); refine blk_put (cs := #[.slice none 0 0]) ?_ 0 _ rfl; (with_reducible repeat (first | refine blk_drewN ?_ _ | refine blk_drew ?_ | refine blk_alloc ?_ _)); exact BK478.out⟩
      have n7_ : Aside0 ((((w61.setCell ⟨gb478, 0, none⟩ (.slice Ao62 t463.length co62)).setCell ⟨gb479, 0, none⟩ (.slice Ao66 t469.length co66)).setCell ⟨gb480, 0, none⟩ (.slice Ao69 t475.length co69)).heap[gb479]? = some (.cells #[.slice Ao66 t469.length co66] 25 (0, 0))) := ⟨by (with_reducible repeat (first | refine blk_drewN ?_ _ | refine blk_drew ?_ | refine blk_alloc ?_ _)); refine blk_far ?_ NB479_480.out _; (with_reducible repeat (first | refine blk_drewN ?_ _ | refine blk_drew ?_ | refine blk_alloc ?_ _)); refine blk_put (cs := #[.slice none 0 0]) ?_ 0 _ rfl; (with_reducible repeat (first | refine blk_drewN ?_ _ | refine blk_drew ?_ | refine blk_alloc ?_ _)); refine blk_far ?_ NB479_478.out _; (with_reducible repeat (first | refine blk_drewN ?_ _ | refine blk_drew ?_ | refine blk_alloc ?_ _)); exact BK479.out⟩
      have n8_ : Aside0 ((((w61.setCell ⟨gb478, 0, none⟩ (.slice Ao62 t463.length co62)).setCell ⟨gb479, 0, none⟩ (.slice Ao66 t469.length co66)).setCell ⟨gb480, 0, none⟩ (.slice Ao69 t475.length co69)).heap[gb480]? = some (.cells #[.slice Ao69 t475.length co69] 25 (0, 0))) := ⟨by (with_reducible repeat (first | refine blk_drewN ?_ _ | refine blk_drew ?_ | refine blk_alloc ?_ _)); refine blk_put (cs := #[.slice none 0 0]) ?_ 0 _ rfl; (with_reducible repeat (first | refine blk_drewN ?_ _ | refine blk_drew ?_ | refine blk_alloc ?_ _)); refine blk_far ?_ NB480_479.out _; (with_reducible repeat (first | refine blk_drewN ?_ _ | refine blk_drew ?_ | refine blk_alloc ?_ _)); refine blk_far ?_ NB480_478.out _; (with_reducible repeat (first | refine blk_drewN ?_ _ | refine blk_drew ?_ | refine blk_alloc ?_ _)); exact BK480.out⟩
      have n9_ : Aside0 (Below w.heap.size w (((w61.setCell ⟨gb478, 0, none⟩ (.slice Ao62 t463.length co62)).setCell ⟨gb479, 0, none⟩ (.slice Ao66 t469.length co66)).setCell ⟨gb480, 0, none⟩ (.slice Ao69 t475.length co69))) := ⟨by repeat (first | (with_reducible first | exact HB.out | apply below_alloc | apply pw_below_drewN | apply below_drew1 | refine below_set ?_ GE478.out | refine below_set ?_ GE479.out | refine below_set ?_ GE480.out) | exact HB.out)⟩
      (try clear HO462)
      (try clear HO465)
      (try clear HO468)
      (try clear HO471)
      (try clear HO474)
      (try clear HO477)
      (try clear BK478)
      (try clear BK479)
      (try clear BK480)
      (try clear HB)
      generalize (((w61.setCell ⟨gb478, 0, none⟩ (.slice Ao62 t463.length co62)).setCell ⟨gb479, 0, none⟩ (.slice Ao66 t469.length co66)).setCell ⟨gb480, 0, none⟩ (.slice Ao69 t475.length co69)) = w71 at n0_ n1_ n2_ n3_ n4_ n5_ n6_ n7_ n8_ n9_ ⊢
      have HO462 := n0_
      have HO465 := n1_
      have HO468 := n2_
      have HO471 := n3_
      have HO474 := n4_
      have HO477 := n5_
      have BK478 := n6_
      have BK479 := n7_
      have BK480 := n8_
      have HB := n9_
      clear n0_ n1_ n2_ n3_ n4_ n5_ n6_ n7_ n8_ n9_
      replace HO462 := Aside0.mk (Kd.V_drew HO462.out)
      replace HO465 := Aside0.mk (Kd.V_drew HO465.out)
      replace HO468 := Aside0.mk (Kd.V_drew HO468.out)
      replace HO471 := Aside0.mk (Kd.V_drew HO471.out)
      replace HO474 := Aside0.mk (Kd.V_drew HO474.out)
      replace HO477 := Aside0.mk (Kd.V_drew HO477.out)
      replace BK478 := Aside0.mk (blk_drew BK478.out)
      replace BK479 := Aside0.mk (blk_drew BK479.out)
      replace BK480 := Aside0.mk (blk_drew BK480.out)
      replace HB := Aside0.mk (below_drew1 HB.out)
      refine start_ (n := 11) (S := fun w' => w'.cell? ⟨gb478, 0, none⟩ = some (.slice Ao62 t463.length co62) ∧ w'.cell? ⟨gb479, 0, none⟩ = some (.slice Ao66 t469.length co66)) (ds := []) (fl 0 11 []) (by kernel_rfl) rfl rfl ⟨(blk_cell BK478.out 0).trans rfl, (blk_cell BK479.out 0).trans rfl⟩ (fun hHeld => ?_); refine with_tabW chattellaw01_NatRules.tab2 chattellaw01_NatRules.bits2 (fun HT_ HW_ => ?_)
      generalize w71.drew = w72 at HO462 HO465 HO468 HO471 HO474 HO477 BK478 BK479 BK480 HB hHeld ⊢
      refine take_ (i := 0) (N := some 22) (v := ?_) (a' := ?_) (fl 1 11 []) rfl rfl (take_ofW HT_.out HW_.out (by kernel_rfl)) (fun _ _ _ h => h) (Or.inl ⟨by rfl, ?_⟩) hHeld ?_ ?_
      rotate_left
      · rintro w' ⟨s0, s1⟩
        go_simp
        with_reducible rfl
      rotate_left
      · simp only [Act.put, List.setIfInBounds_toArray, List.set_cons_zero, List.set_cons_succ, i64_w, i32_w]
        rfl
      refine take_ (i := 1) (N := some 23) (v := ?_) (a' := ?_) (fl 2 11 []) rfl rfl (take_ofW HT_.out HW_.out (by kernel_rfl)) (fun _ _ _ h => h) (Or.inl ⟨by rfl, ?_⟩) hHeld ?_ ?_
      rotate_left
      · rintro w' ⟨s0, s1⟩
        go_simp
        with_reducible rfl
      rotate_left
      · simp only [Act.put, List.setIfInBounds_toArray, List.set_cons_zero, List.set_cons_succ, i64_w, i32_w]
        rfl
      refine take_ (i := 3) (N := some 25) (v := ?_) (a' := ?_) (fl 2 11 [3]) rfl rfl (take_ofW HT_.out HW_.out (by kernel_rfl)) (fun _ _ _ h => h) (Or.inl ⟨by rfl, ?_⟩) hHeld ?_ ?_
      rotate_left
      · rintro w' ⟨s0, s1⟩
        go_simp
        with_reducible rfl
      rotate_left
      · simp only [Act.put, List.setIfInBounds_toArray, List.set_cons_zero, List.set_cons_succ, i64_w, i32_w]
        rfl
      refine join_ (σ := Value × Value × Nat) 2 (fl 9 11 []) (fun s_ => [(24, .agg #[s_.1]), (26, .tuple #[.agg #[s_.2.1], .bool true]), (10, .pointer (some ⟨s_.2.2, 0, none⟩)), (21, .tuple #[.agg #[s_.2.1], .bool true]), (27, .agg #[s_.2.1]), (28, .bool true)]) (fun s_ w' => (w'.cell? ⟨gb478, 0, none⟩ = some (.slice Ao62 t463.length co62) ∧ w'.cell? ⟨gb479, 0, none⟩ = some (.slice Ao66 t469.length co66)) ∧ (Kd.V (Kd.int .u64) 27 w' w.heap.size (fun k_ => k_ ≠ gb478 ∧ k_ ≠ gb479 ∧ k_ ≠ gb480 ∧ k_ ≠ s_.2.2) (.slice Ao51 t460.length co51) t460) ∧ (Kd.V (Kd.int .u64) 27 w' w.heap.size (fun k_ => k_ ≠ gb478 ∧ k_ ≠ gb479 ∧ k_ ≠ gb480 ∧ k_ ≠ s_.2.2) (.slice Ao62 t463.length co62) t463) ∧ (Kd.V (Kd.int .u64) 27 w' w.heap.size (fun k_ => k_ ≠ gb478 ∧ k_ ≠ gb479 ∧ k_ ≠ gb480 ∧ k_ ≠ s_.2.2) (.slice Ao54 t466.length co54) t466) ∧ (Kd.V (Kd.int .u64) 27 w' w.heap.size (fun k_ => k_ ≠ gb478 ∧ k_ ≠ gb479 ∧ k_ ≠ gb480 ∧ k_ ≠ s_.2.2) (.slice Ao66 t469.length co66) t469) ∧ (Kd.V (Kd.int .u64) 27 w' w.heap.size (fun k_ => k_ ≠ gb478 ∧ k_ ≠ gb479 ∧ k_ ≠ gb480 ∧ k_ ≠ s_.2.2) (.slice Ao57 t472.length co57) t472) ∧ (Kd.V (Kd.int .u64) 27 w' w.heap.size (fun k_ => k_ ≠ gb478 ∧ k_ ≠ gb479 ∧ k_ ≠ gb480 ∧ k_ ≠ s_.2.2) (.slice Ao69 t475.length co69) t475) ∧ (Kd.V (Kd.int .u64) 27 w' w.heap.size (fun k_ => k_ ≠ gb478 ∧ k_ ≠ gb479 ∧ k_ ≠ gb480 ∧ k_ ≠ s_.2.2) s_.1 t481) ∧ (Kd.V (Kd.int .u64) 27 w' w.heap.size (fun k_ => k_ ≠ gb478 ∧ k_ ≠ gb479 ∧ k_ ≠ gb480 ∧ k_ ≠ s_.2.2) s_.2.1 t484) ∧ (w'.heap[gb478]? = some (.cells #[.slice Ao62 t463.length co62] 25 (0, 0))) ∧ (w'.heap[gb479]? = some (.cells #[.slice Ao66 t469.length co66] 25 (0, 0))) ∧ (w'.heap[gb480]? = some (.cells #[.slice Ao69 t475.length co69] 25 (0, 0))) ∧ (w'.heap[s_.2.2]? = some (.cells #[.slice none 0 0] 25 (0, 0))) ∧ (w.heap.size ≤ s_.2.2) ∧ (w.heap.size ≤ s_.2.2) ∧ (gb478 ≠ s_.2.2) ∧ (s_.2.2 ≠ gb478) ∧ (gb479 ≠ s_.2.2) ∧ (s_.2.2 ≠ gb479) ∧ (gb480 ≠ s_.2.2) ∧ (s_.2.2 ≠ gb480) ∧ (Below w.heap.size w w')) ?_ ?_
      rotate_left
      · intro hCont
        refine two_ (i := 2) (j := 8) (Ni := some 24) (Nj := some 10) (fl 4 11 []) (fl 2 11 [3, 8]) rfl rfl rfl rfl (two_of HT_.out (by kernel_rfl)) (by decide) (by decide) (fun K hK => ?_) (fun K hK => ?_)
        · skip
          refine goes_ Try.func25 (by kernel_rfl) rfl #[.agg #[.slice Ao62 t463.length co62], .agg #[.slice Ao66 t469.length co66]] (by rfl) rfl rfl (by (try simp only [List.map_toArray, List.map_cons, List.map_nil]); first | done | rfl | (simp only [List.length_drop, List.length_take]; rfl)) ?_
          with_reducible refine (nat_Nat_Add.calls k _ _ t463 _ _ t469 t481 _ ?side1 ?side2 ?side3 ?side4 A10.out).mono ?_
          (case side1 => exact cv HO465.out)
          (case side2 => exact (Kd.V_reads' HO465.out).2.1)
          (case side3 => exact cv HO471.out)
          (case side4 => exact (Kd.V_reads' HO471.out).2.1)
          rintro e w73 ⟨v482, rfl, ho0, hb⟩
          refine ⟨_, rfl, ?_⟩
          replace HO462 := Aside0.mk (vb HO462.out hb)
          replace HO465 := Aside0.mk (vb HO465.out hb)
          replace HO468 := Aside0.mk (vb HO468.out hb)
          replace HO471 := Aside0.mk (vb HO471.out hb)
          replace HO474 := Aside0.mk (vb HO474.out hb)
          replace HO477 := Aside0.mk (vb HO477.out hb)
          have HO483 := Aside0.mk (Kd.V_lower (Kd.V_mono (ok' := fun k_ => k_ ≠ gb478 ∧ k_ ≠ gb479 ∧ k_ ≠ gb480) ho0 (fun k_ hk_ => ⟨(fb BK478.out k_ hk_), (fb BK479.out k_ hk_), (fb BK480.out k_ hk_)⟩)) (bz HB.out))
          replace BK478 := Aside0.mk (bb BK478.out hb)
          replace BK479 := Aside0.mk (bb BK479.out hb)
          replace BK480 := Aside0.mk (bb BK480.out hb)
          replace HB := Aside0.mk (bs HB.out hb)
          (try clear hb)
          (try clear hb2)
          (try clear hk)
          (try clear hi)
          (try clear ho0)
          obtain ⟨Ao74, co74, eo74⟩ := Kd.V_slice HO483.out
          (first | subst eo74 | (injection eo74 with f1_ f2_ f3_; have f4_ := f1_.symm; have f5_ := f3_.symm; clear f1_ f2_ f3_; subst f4_; subst f5_))
          refine hK.out _ _ ⟨(blk_cell BK478.out 0).trans rfl, (blk_cell BK479.out 0).trans rfl⟩ (fun hHeld => ?_)
          clear hK K
          refine norm_ (a' := ?_) ?_ ?_
          rotate_left
          · show Act.put _ (some 24) _ = _
            simp only [Act.put, List.setIfInBounds_toArray, List.set_cons_zero, List.set_cons_succ, i64_w, i32_w]
            rfl
          refine two_ (i := 4) (j := 8) (Ni := some 26) (Nj := some 10) (fl 5 11 []) (fl 4 11 [8]) rfl rfl rfl rfl (two_of HT_.out (by kernel_rfl)) (by decide) (by decide) (fun K hK => ?_) (fun K hK => ?_)
          · skip
            refine goes_ Try.func26 (by kernel_rfl) rfl #[.agg #[.slice Ao74 t481.length co74], .agg #[.slice Ao66 t469.length co66]] (by rfl) rfl rfl (by (try simp only [List.map_toArray, List.map_cons, List.map_nil]); first | done | rfl | (simp only [List.length_drop, List.length_take]; rfl)) ?_
            with_reducible refine (nat_Nat_Sub.calls k _ _ t481 _ _ t469 t484 true _ ?side1 ?side2 ?side3 ?side4 A11.out).mono ?_
            (case side1 => exact cv HO483.out)
            (case side2 => exact (Kd.V_reads' HO483.out).2.1)
            (case side3 => exact cv HO471.out)
            (case side4 => exact (Kd.V_reads' HO471.out).2.1)
            rintro e w75 ⟨v485, rfl, ho0, hb⟩
            refine ⟨_, rfl, ?_⟩
            replace HO462 := Aside0.mk (vb HO462.out hb)
            replace HO465 := Aside0.mk (vb HO465.out hb)
            replace HO468 := Aside0.mk (vb HO468.out hb)
            replace HO471 := Aside0.mk (vb HO471.out hb)
            replace HO474 := Aside0.mk (vb HO474.out hb)
            replace HO477 := Aside0.mk (vb HO477.out hb)
            replace HO483 := Aside0.mk (vb HO483.out hb)
            have HO486 := Aside0.mk (Kd.V_lower (Kd.V_mono (ok' := fun k_ => k_ ≠ gb478 ∧ k_ ≠ gb479 ∧ k_ ≠ gb480) ho0 (fun k_ hk_ => ⟨(fb BK478.out k_ hk_), (fb BK479.out k_ hk_), (fb BK480.out k_ hk_)⟩)) (bz HB.out))
            replace BK478 := Aside0.mk (bb BK478.out hb)
            replace BK479 := Aside0.mk (bb BK479.out hb)
            replace BK480 := Aside0.mk (bb BK480.out hb)
            replace HB := Aside0.mk (bs HB.out hb)
            (try clear hb)
            (try clear hb2)
            (try clear hk)
            (try clear hi)
            (try clear ho0)
            refine hK.out _ _ ⟨(blk_cell BK478.out 0).trans rfl, (blk_cell BK479.out 0).trans rfl⟩ (fun hHeld => ?_)
            clear hK K
            refine norm_ (a' := ?_) ?_ ?_
            rotate_left
            · show Act.put _ (some 26) _ = _
              simp only [Act.put, List.setIfInBounds_toArray, List.set_cons_zero, List.set_cons_succ, i64_w, i32_w]
              rfl
            refine pure_ (i := 5) (N := some 21) (v := ?_) (a' := ?_) (fl 6 11 []) rfl rfl (any_of HT_.out (by kernel_rfl)) (fun _ _ _ h => h) (Or.inl ⟨by rfl, ?_⟩) ?_ ?_
            rotate_left
            · intro w'
              go_simp
              with_reducible rfl
            rotate_left
            · simp only [Act.put, List.setIfInBounds_toArray, List.set_cons_zero, List.set_cons_succ, i64_w, i32_w]
              rfl
            refine pure_ (i := 6) (N := some 27) (v := ?_) (a' := ?_) (fl 7 11 []) rfl rfl (any_of HT_.out (by kernel_rfl)) (fun _ _ _ h => h) (Or.inl ⟨by rfl, ?_⟩) ?_ ?_
            rotate_left
            · intro w'
              go_simp
              with_reducible rfl
            rotate_left
            · simp only [Act.put, List.setIfInBounds_toArray, List.set_cons_zero, List.set_cons_succ, i64_w, i32_w]
              rfl
            refine pure_ (i := 7) (N := some 28) (v := ?_) (a' := ?_) (fl 8 11 []) rfl rfl (any_of HT_.out (by kernel_rfl)) (fun _ _ _ h => h) (Or.inl ⟨by rfl, ?_⟩) ?_ ?_
            rotate_left
            · intro w'
              go_simp
              with_reducible rfl
            rotate_left
            · simp only [Act.put, List.setIfInBounds_toArray, List.set_cons_zero, List.set_cons_succ, i64_w, i32_w]
              rfl
            refine one_ (i := 8) (N := some 10) (fl 9 11 []) rfl rfl (one_of HT_.out (by kernel_rfl)) (by decide) (fun K hK => ?_)
            refine box_step ?hg (N := 10) ?hd (cs := #[.slice none 0 0]) (t := 25) ?hr ?_; (case hd => rfl); (case hg => rfl); (case hr => first | (go_simp; done) | (go_simp; rfl))
            intro gb488 hg w76 hbox hb
            have n0_ := Aside0.mk (Kd.V_below (Kd.V_elderB (by (with_reducible repeat (first | apply Kd.V_alloc | apply Kd.V_drewN | apply Kd.V_drew)); exact HO462.out) gb488 (Nat.le_of_eq hg.symm)) hb)
            have n1_ := Aside0.mk (Kd.V_below (Kd.V_elderB (by (with_reducible repeat (first | apply Kd.V_alloc | apply Kd.V_drewN | apply Kd.V_drew)); exact HO465.out) gb488 (Nat.le_of_eq hg.symm)) hb)
            have n2_ := Aside0.mk (Kd.V_below (Kd.V_elderB (by (with_reducible repeat (first | apply Kd.V_alloc | apply Kd.V_drewN | apply Kd.V_drew)); exact HO468.out) gb488 (Nat.le_of_eq hg.symm)) hb)
            have n3_ := Aside0.mk (Kd.V_below (Kd.V_elderB (by (with_reducible repeat (first | apply Kd.V_alloc | apply Kd.V_drewN | apply Kd.V_drew)); exact HO471.out) gb488 (Nat.le_of_eq hg.symm)) hb)
            have n4_ := Aside0.mk (Kd.V_below (Kd.V_elderB (by (with_reducible repeat (first | apply Kd.V_alloc | apply Kd.V_drewN | apply Kd.V_drew)); exact HO474.out) gb488 (Nat.le_of_eq hg.symm)) hb)
            have n5_ := Aside0.mk (Kd.V_below (Kd.V_elderB (by (with_reducible repeat (first | apply Kd.V_alloc | apply Kd.V_drewN | apply Kd.V_drew)); exact HO477.out) gb488 (Nat.le_of_eq hg.symm)) hb)
            have n6_ := Aside0.mk (Kd.V_below (Kd.V_elderB (by (with_reducible repeat (first | apply Kd.V_alloc | apply Kd.V_drewN | apply Kd.V_drew)); exact HO483.out) gb488 (Nat.le_of_eq hg.symm)) hb)
            have n7_ := Aside0.mk (Kd.V_below (Kd.V_elderB (by (with_reducible repeat (first | apply Kd.V_alloc | apply Kd.V_drewN | apply Kd.V_drew)); exact HO486.out) gb488 (Nat.le_of_eq hg.symm)) hb)
            have n8_ := Aside0.mk (bb BK478.out hb)
            have n9_ := Aside0.mk (bb BK479.out hb)
            have n10_ := Aside0.mk (bb BK480.out hb)
            have n11_ := Aside0.mk (bs HB.out hb)
            have n12_ := Aside0.mk (hbox)
            have n13_ := Aside0.mk ((by rw [hg]; exact (bz HB.out) : w.heap.size ≤ gb488))
            have n14_ := Aside0.mk ((by rw [hg]; exact (bz HB.out) : w.heap.size ≤ gb488))
            have n15_ := Aside0.mk ((by rw [hg]; exact Nat.ne_of_lt (blk_lt (g := gb478) (o := .cells #[.slice Ao62 t463.length co62] 25 (0, 0)) (by (with_reducible repeat (first | refine blk_drewN ?_ _ | refine blk_drew ?_ | refine blk_alloc ?_ _)); exact BK478.out)) : gb478 ≠ gb488))
            have n16_ := Aside0.mk ((by rw [hg]; exact Nat.ne_of_gt (blk_lt (g := gb478) (o := .cells #[.slice Ao62 t463.length co62] 25 (0, 0)) (by (with_reducible repeat (first | refine blk_drewN ?_ _ | refine blk_drew ?_ | refine blk_alloc ?_ _)); exact BK478.out)) : gb488 ≠ gb478))
            have n17_ := Aside0.mk ((by rw [hg]; exact Nat.ne_of_lt (blk_lt (g := gb479) (o := .cells #[.slice Ao66 t469.length co66] 25 (0, 0)) (by (with_reducible repeat (first | refine blk_drewN ?_ _ | refine blk_drew ?_ | refine blk_alloc ?_ _)); exact BK479.out)) : gb479 ≠ gb488))
            have n18_ := Aside0.mk ((by rw [hg]; exact Nat.ne_of_gt (blk_lt (g := gb479) (o := .cells #[.slice Ao66 t469.length co66] 25 (0, 0)) (by (with_reducible repeat (first | refine blk_drewN ?_ _ | refine blk_drew ?_ | refine blk_alloc ?_ _)); exact BK479.out)) : gb488 ≠ gb479))
            have n19_ := Aside0.mk ((by rw [hg]; exact Nat.ne_of_lt (blk_lt (g := gb480) (o := .cells #[.slice Ao69 t475.length co69] 25 (0, 0)) (by (with_reducible repeat (first | refine blk_drewN ?_ _ | refine blk_drew ?_ | refine blk_alloc ?_ _)); exact BK480.out)) : gb480 ≠ gb488))
            have n20_ := Aside0.mk ((by rw [hg]; exact Nat.ne_of_gt (blk_lt (g := gb480) (o := .cells #[.slice Ao69 t475.length co69] 25 (0, 0)) (by (with_reducible repeat (first | refine blk_drewN ?_ _ | refine blk_drew ?_ | refine blk_alloc ?_ _)); exact BK480.out)) : gb488 ≠ gb480))
            clear HO462
            clear HO465
            clear HO468
            clear HO471
            clear HO474
            clear HO477
            clear HO483
            clear HO486
            clear BK478
            clear BK479
            clear BK480
            clear HB
            have HO462 := n0_
            have HO465 := n1_
            have HO468 := n2_
            have HO471 := n3_
            have HO474 := n4_
            have HO477 := n5_
            have HO483 := n6_
            have HO486 := n7_
            have BK478 := n8_
            have BK479 := n9_
            have BK480 := n10_
            have HB := n11_
            have BK488 := n12_
            have GW488 := n13_
            have GE488 := n14_
            have NB478_488 := n15_
            have NB488_478 := n16_
            have NB479_488 := n17_
            have NB488_479 := n18_
            have NB480_488 := n19_
            have NB488_480 := n20_
            clear n0_ n1_ n2_ n3_ n4_ n5_ n6_ n7_ n8_ n9_ n10_ n11_ n12_ n13_ n14_ n15_ n16_ n17_ n18_ n19_ n20_
            clear hb hbox hg
            refine hK.out _ _ ⟨(blk_cell BK478.out 0).trans rfl, (blk_cell BK479.out 0).trans rfl⟩ (fun hHeld => ?_)
            clear hK K
            refine norm_ (a' := ?_) ?_ ?_
            rotate_left
            · show Act.put _ (some 10) _ = _
              simp only [Act.put, List.setIfInBounds_toArray, List.set_cons_zero, List.set_cons_succ, i64_w, i32_w]
              rfl
            exact norm_ (by simp only [putAll, Act.put, List.setIfInBounds_toArray, List.set_cons_zero, List.set_cons_succ]) (hCont (.slice Ao74 t481.length co74, v485, gb488) _ ⟨hHeld, (by (with_reducible repeat (first | apply Kd.V_alloc | apply Kd.V_drewN | apply Kd.V_drew)); exact Kd.V_mono HO462.out (fun _ hk => ⟨hk.1.1, ⟨hk.1.2.1, ⟨hk.1.2.2, hk.2⟩⟩⟩)), (by (with_reducible repeat (first | apply Kd.V_alloc | apply Kd.V_drewN | apply Kd.V_drew)); exact Kd.V_mono HO465.out (fun _ hk => ⟨hk.1.1, ⟨hk.1.2.1, ⟨hk.1.2.2, hk.2⟩⟩⟩)), (by (with_reducible repeat (first | apply Kd.V_alloc | apply Kd.V_drewN | apply Kd.V_drew)); exact Kd.V_mono HO468.out (fun _ hk => ⟨hk.1.1, ⟨hk.1.2.1, ⟨hk.1.2.2, hk.2⟩⟩⟩)), (by (with_reducible repeat (first | apply Kd.V_alloc | apply Kd.V_drewN | apply Kd.V_drew)); exact Kd.V_mono HO471.out (fun _ hk => ⟨hk.1.1, ⟨hk.1.2.1, ⟨hk.1.2.2, hk.2⟩⟩⟩)), (by (with_reducible repeat (first | apply Kd.V_alloc | apply Kd.V_drewN | apply Kd.V_drew)); exact Kd.V_mono HO474.out (fun _ hk => ⟨hk.1.1, ⟨hk.1.2.1, ⟨hk.1.2.2, hk.2⟩⟩⟩)), (by (with_reducible repeat (first | apply Kd.V_alloc | apply Kd.V_drewN | apply Kd.V_drew)); exact Kd.V_mono HO477.out (fun _ hk => ⟨hk.1.1, ⟨hk.1.2.1, ⟨hk.1.2.2, hk.2⟩⟩⟩)), (by (with_reducible repeat (first | apply Kd.V_alloc | apply Kd.V_drewN | apply Kd.V_drew)); exact Kd.V_mono HO483.out (fun _ hk => ⟨hk.1.1, ⟨hk.1.2.1, ⟨hk.1.2.2, hk.2⟩⟩⟩)), (by (with_reducible repeat (first | apply Kd.V_alloc | apply Kd.V_drewN | apply Kd.V_drew)); exact Kd.V_mono HO486.out (fun _ hk => ⟨hk.1.1, ⟨hk.1.2.1, ⟨hk.1.2.2, hk.2⟩⟩⟩)), (by (with_reducible repeat (first | refine blk_drewN ?_ _ | refine blk_drew ?_ | refine blk_alloc ?_ _)); exact BK478.out), (by (with_reducible repeat (first | refine blk_drewN ?_ _ | refine blk_drew ?_ | refine blk_alloc ?_ _)); exact BK479.out), (by (with_reducible repeat (first | refine blk_drewN ?_ _ | refine blk_drew ?_ | refine blk_alloc ?_ _)); exact BK480.out), (by (with_reducible repeat (first | refine blk_drewN ?_ _ | refine blk_drew ?_ | refine blk_alloc ?_ _)); exact BK488.out), GW488.out, GE488.out, NB478_488.out, NB488_478.out, NB479_488.out, NB488_479.out, NB480_488.out, NB488_480.out, (by repeat (first | (with_reducible first | exact HB.out | apply below_alloc | apply pw_below_drewN | apply below_drew1 | refine below_set ?_ GE478.out | refine below_set ?_ GE479.out | refine below_set ?_ GE480.out | refine below_set ?_ GE488.out) | exact HB.out))⟩)
          · skip
            refine box_step ?hg (N := 10) ?hd (cs := #[.slice none 0 0]) (t := 25) ?hr ?_; (case hd => rfl); (case hg => rfl); (case hr => first | (go_simp; done) | (go_simp; rfl))
            intro gb488 hg w74 hbox hb
            have n0_ := Aside0.mk (Kd.V_below (Kd.V_elderB (by (with_reducible repeat (first | apply Kd.V_alloc | apply Kd.V_drewN | apply Kd.V_drew)); exact HO462.out) gb488 (Nat.le_of_eq hg.symm)) hb)
            have n1_ := Aside0.mk (Kd.V_below (Kd.V_elderB (by (with_reducible repeat (first | apply Kd.V_alloc | apply Kd.V_drewN | apply Kd.V_drew)); exact HO465.out) gb488 (Nat.le_of_eq hg.symm)) hb)
            have n2_ := Aside0.mk (Kd.V_below (Kd.V_elderB (by (with_reducible repeat (first | apply Kd.V_alloc | apply Kd.V_drewN | apply Kd.V_drew)); exact HO468.out) gb488 (Nat.le_of_eq hg.symm)) hb)
            have n3_ := Aside0.mk (Kd.V_below (Kd.V_elderB (by (with_reducible repeat (first | apply Kd.V_alloc | apply Kd.V_drewN | apply Kd.V_drew)); exact HO471.out) gb488 (Nat.le_of_eq hg.symm)) hb)
            have n4_ := Aside0.mk (Kd.V_below (Kd.V_elderB (by (with_reducible repeat (first | apply Kd.V_alloc | apply Kd.V_drewN | apply Kd.V_drew)); exact HO474.out) gb488 (Nat.le_of_eq hg.symm)) hb)
            have n5_ := Aside0.mk (Kd.V_below (Kd.V_elderB (by (with_reducible repeat (first | apply Kd.V_alloc | apply Kd.V_drewN | apply Kd.V_drew)); exact HO477.out) gb488 (Nat.le_of_eq hg.symm)) hb)
            have n6_ := Aside0.mk (Kd.V_below (Kd.V_elderB (by (with_reducible repeat (first | apply Kd.V_alloc | apply Kd.V_drewN | apply Kd.V_drew)); exact HO483.out) gb488 (Nat.le_of_eq hg.symm)) hb)
            have n7_ := Aside0.mk (bb BK478.out hb)
            have n8_ := Aside0.mk (bb BK479.out hb)
            have n9_ := Aside0.mk (bb BK480.out hb)
            have n10_ := Aside0.mk (bs HB.out hb)
            have n11_ := Aside0.mk (hbox)
            have n12_ := Aside0.mk ((by rw [hg]; exact (bz HB.out) : w.heap.size ≤ gb488))
            have n13_ := Aside0.mk ((by rw [hg]; exact (bz HB.out) : w.heap.size ≤ gb488))
            have n14_ := Aside0.mk ((by rw [hg]; exact Nat.ne_of_lt (blk_lt (g := gb478) (o := .cells #[.slice Ao62 t463.length co62] 25 (0, 0)) (by (with_reducible repeat (first | refine blk_drewN ?_ _ | refine blk_drew ?_ | refine blk_alloc ?_ _)); exact BK478.out)) : gb478 ≠ gb488))
            have n15_ := Aside0.mk ((by rw [hg]; exact Nat.ne_of_gt (blk_lt (g := gb478) (o := .cells #[.slice Ao62 t463.length co62] 25 (0, 0)) (by (with_reducible repeat (first | refine blk_drewN ?_ _ | refine blk_drew ?_ | refine blk_alloc ?_ _)); exact BK478.out)) : gb488 ≠ gb478))
            have n16_ := Aside0.mk ((by rw [hg]; exact Nat.ne_of_lt (blk_lt (g := gb479) (o := .cells #[.slice Ao66 t469.length co66] 25 (0, 0)) (by (with_reducible repeat (first | refine blk_drewN ?_ _ | refine blk_drew ?_ | refine blk_alloc ?_ _)); exact BK479.out)) : gb479 ≠ gb488))
            have n17_ := Aside0.mk ((by rw [hg]; exact Nat.ne_of_gt (blk_lt (g := gb479) (o := .cells #[.slice Ao66 t469.length co66] 25 (0, 0)) (by (with_reducible repeat (first | refine blk_drewN ?_ _ | refine blk_drew ?_ | refine blk_alloc ?_ _)); exact BK479.out)) : gb488 ≠ gb479))
            have n18_ := Aside0.mk ((by rw [hg]; exact Nat.ne_of_lt (blk_lt (g := gb480) (o := .cells #[.slice Ao69 t475.length co69] 25 (0, 0)) (by (with_reducible repeat (first | refine blk_drewN ?_ _ | refine blk_drew ?_ | refine blk_alloc ?_ _)); exact BK480.out)) : gb480 ≠ gb488))
            have n19_ := Aside0.mk ((by rw [hg]; exact Nat.ne_of_gt (blk_lt (g := gb480) (o := .cells #[.slice Ao69 t475.length co69] 25 (0, 0)) (by (with_reducible repeat (first | refine blk_drewN ?_ _ | refine blk_drew ?_ | refine blk_alloc ?_ _)); exact BK480.out)) : gb488 ≠ gb480))
            clear HO462
            clear HO465
            clear HO468
            clear HO471
            clear HO474
            clear HO477
            clear HO483
            clear BK478
            clear BK479
            clear BK480
            clear HB
            have HO462 := n0_
            have HO465 := n1_
            have HO468 := n2_
            have HO471 := n3_
            have HO474 := n4_
            have HO477 := n5_
            have HO483 := n6_
            have BK478 := n7_
            have BK479 := n8_
            have BK480 := n9_
            have HB := n10_
            have BK488 := n11_
            have GW488 := n12_
            have GE488 := n13_
            have NB478_488 := n14_
            have NB488_478 := n15_
            have NB479_488 := n16_
            have NB488_479 := n17_
            have NB480_488 := n18_
            have NB488_480 := n19_
            clear n0_ n1_ n2_ n3_ n4_ n5_ n6_ n7_ n8_ n9_ n10_ n11_ n12_ n13_ n14_ n15_ n16_ n17_ n18_ n19_
            clear hb hbox hg
            obtain ⟨Ao75, co75, eo75⟩ := Kd.V_slice HO483.out
            (first | subst eo75 | (injection eo75 with f1_ f2_ f3_; have f4_ := f1_.symm; have f5_ := f3_.symm; clear f1_ f2_ f3_; subst f4_; subst f5_))
            refine hK.out _ _ ⟨(blk_cell BK478.out 0).trans rfl, (blk_cell BK479.out 0).trans rfl⟩ (fun hHeld => ?_)
            clear hK K
            refine norm_ (a' := ?_) ?_ ?_
            rotate_left
            · show Act.put _ (some 10) _ = _
              simp only [Act.put, List.setIfInBounds_toArray, List.set_cons_zero, List.set_cons_succ, i64_w, i32_w]
              rfl
            refine one_ (i := 4) (N := some 26) (fl 5 11 [8]) rfl rfl (one_of HT_.out (by kernel_rfl)) (by decide) (fun K hK => ?_)
            refine goes_ Try.func26 (by kernel_rfl) rfl #[.agg #[.slice Ao75 t481.length co75], .agg #[.slice Ao66 t469.length co66]] (by rfl) rfl rfl (by (try simp only [List.map_toArray, List.map_cons, List.map_nil]); first | done | rfl | (simp only [List.length_drop, List.length_take]; rfl)) ?_
            with_reducible refine (nat_Nat_Sub.calls k _ _ t481 _ _ t469 t484 true _ ?side1 ?side2 ?side3 ?side4 A11.out).mono ?_
            (case side1 => exact cv HO483.out)
            (case side2 => exact (Kd.V_reads' HO483.out).2.1)
            (case side3 => exact cv HO471.out)
            (case side4 => exact (Kd.V_reads' HO471.out).2.1)
            rintro e w76 ⟨v485, rfl, ho0, hb⟩
            refine ⟨_, rfl, ?_⟩
            replace HO462 := Aside0.mk (vb HO462.out hb)
            replace HO465 := Aside0.mk (vb HO465.out hb)
            replace HO468 := Aside0.mk (vb HO468.out hb)
            replace HO471 := Aside0.mk (vb HO471.out hb)
            replace HO474 := Aside0.mk (vb HO474.out hb)
            replace HO477 := Aside0.mk (vb HO477.out hb)
            replace HO483 := Aside0.mk (vb HO483.out hb)
            have HO486 := Aside0.mk (Kd.V_lower (Kd.V_mono (ok' := fun k_ => k_ ≠ gb478 ∧ k_ ≠ gb479 ∧ k_ ≠ gb480 ∧ k_ ≠ gb488) ho0 (fun k_ hk_ => ⟨(fb BK478.out k_ hk_), (fb BK479.out k_ hk_), (fb BK480.out k_ hk_), (fb BK488.out k_ hk_)⟩)) (bz HB.out))
            replace BK478 := Aside0.mk (bb BK478.out hb)
            replace BK479 := Aside0.mk (bb BK479.out hb)
            replace BK480 := Aside0.mk (bb BK480.out hb)
            replace BK488 := Aside0.mk (bb BK488.out hb)
            replace HB := Aside0.mk (bs HB.out hb)
            (try clear hb)
            (try clear hb2)
            (try clear hk)
            (try clear hi)
            (try clear ho0)
            refine hK.out _ _ ⟨(blk_cell BK478.out 0).trans rfl, (blk_cell BK479.out 0).trans rfl⟩ (fun hHeld => ?_)
            clear hK K
            refine norm_ (a' := ?_) ?_ ?_
            rotate_left
            · show Act.put _ (some 26) _ = _
              simp only [Act.put, List.setIfInBounds_toArray, List.set_cons_zero, List.set_cons_succ, i64_w, i32_w]
              rfl
            refine pure_ (i := 5) (N := some 21) (v := ?_) (a' := ?_) (fl 6 11 [8]) rfl rfl (any_of HT_.out (by kernel_rfl)) (fun _ _ _ h => h) (Or.inl ⟨by rfl, ?_⟩) ?_ ?_
            rotate_left
            · intro w'
              go_simp
              with_reducible rfl
            rotate_left
            · simp only [Act.put, List.setIfInBounds_toArray, List.set_cons_zero, List.set_cons_succ, i64_w, i32_w]
              rfl
            refine pure_ (i := 6) (N := some 27) (v := ?_) (a' := ?_) (fl 7 11 [8]) rfl rfl (any_of HT_.out (by kernel_rfl)) (fun _ _ _ h => h) (Or.inl ⟨by rfl, ?_⟩) ?_ ?_
            rotate_left
            · intro w'
              go_simp
              with_reducible rfl
            rotate_left
            · simp only [Act.put, List.setIfInBounds_toArray, List.set_cons_zero, List.set_cons_succ, i64_w, i32_w]
              rfl
            refine pure_ (i := 7) (N := some 28) (v := ?_) (a' := ?_) (fl 9 11 []) rfl rfl (any_of HT_.out (by kernel_rfl)) (fun _ _ _ h => h) (Or.inl ⟨by rfl, ?_⟩) ?_ ?_
            rotate_left
            · intro w'
              go_simp
              with_reducible rfl
            rotate_left
            · simp only [Act.put, List.setIfInBounds_toArray, List.set_cons_zero, List.set_cons_succ, i64_w, i32_w]
              rfl
            exact norm_ (by simp only [putAll, Act.put, List.setIfInBounds_toArray, List.set_cons_zero, List.set_cons_succ]) (hCont (.slice Ao75 t481.length co75, v485, gb488) _ ⟨hHeld, (by (with_reducible repeat (first | apply Kd.V_alloc | apply Kd.V_drewN | apply Kd.V_drew)); exact Kd.V_mono HO462.out (fun _ hk => ⟨hk.1.1, ⟨hk.1.2.1, ⟨hk.1.2.2, hk.2⟩⟩⟩)), (by (with_reducible repeat (first | apply Kd.V_alloc | apply Kd.V_drewN | apply Kd.V_drew)); exact Kd.V_mono HO465.out (fun _ hk => ⟨hk.1.1, ⟨hk.1.2.1, ⟨hk.1.2.2, hk.2⟩⟩⟩)), (by (with_reducible repeat (first | apply Kd.V_alloc | apply Kd.V_drewN | apply Kd.V_drew)); exact Kd.V_mono HO468.out (fun _ hk => ⟨hk.1.1, ⟨hk.1.2.1, ⟨hk.1.2.2, hk.2⟩⟩⟩)), (by (with_reducible repeat (first | apply Kd.V_alloc | apply Kd.V_drewN | apply Kd.V_drew)); exact Kd.V_mono HO471.out (fun _ hk => ⟨hk.1.1, ⟨hk.1.2.1, ⟨hk.1.2.2, hk.2⟩⟩⟩)), (by (with_reducible repeat (first | apply Kd.V_alloc | apply Kd.V_drewN | apply Kd.V_drew)); exact Kd.V_mono HO474.out (fun _ hk => ⟨hk.1.1, ⟨hk.1.2.1, ⟨hk.1.2.2, hk.2⟩⟩⟩)), (by (with_reducible repeat (first | apply Kd.V_alloc | apply Kd.V_drewN | apply Kd.V_drew)); exact Kd.V_mono HO477.out (fun _ hk => ⟨hk.1.1, ⟨hk.1.2.1, ⟨hk.1.2.2, hk.2⟩⟩⟩)), (by (with_reducible repeat (first | apply Kd.V_alloc | apply Kd.V_drewN | apply Kd.V_drew)); exact Kd.V_mono HO483.out (fun _ hk => ⟨hk.1.1, ⟨hk.1.2.1, ⟨hk.1.2.2, hk.2⟩⟩⟩)), (by (with_reducible repeat (first | apply Kd.V_alloc | apply Kd.V_drewN | apply Kd.V_drew)); exact HO486.out), (by (with_reducible repeat (first | refine blk_drewN ?_ _ | refine blk_drew ?_ | refine blk_alloc ?_ _)); exact BK478.out), (by (with_reducible repeat (first | refine blk_drewN ?_ _ | refine blk_drew ?_ | refine blk_alloc ?_ _)); exact BK479.out), (by (with_reducible repeat (first | refine blk_drewN ?_ _ | refine blk_drew ?_ | refine blk_alloc ?_ _)); exact BK480.out), (by (with_reducible repeat (first | refine blk_drewN ?_ _ | refine blk_drew ?_ | refine blk_alloc ?_ _)); exact BK488.out), GW488.out, GE488.out, NB478_488.out, NB488_478.out, NB479_488.out, NB488_479.out, NB480_488.out, NB488_480.out, (by repeat (first | (with_reducible first | exact HB.out | apply below_alloc | apply pw_below_drewN | apply below_drew1 | refine below_set ?_ GE478.out | refine below_set ?_ GE479.out | refine below_set ?_ GE480.out | refine below_set ?_ GE488.out) | exact HB.out))⟩)
        · skip
          refine box_step ?hg (N := 10) ?hd (cs := #[.slice none 0 0]) (t := 25) ?hr ?_; (case hd => rfl); (case hg => rfl); (case hr => first | (go_simp; done) | (go_simp; rfl))
          intro gb488 hg w73 hbox hb
          have n0_ := Aside0.mk (Kd.V_below (Kd.V_elderB (by (with_reducible repeat (first | apply Kd.V_alloc | apply Kd.V_drewN | apply Kd.V_drew)); exact HO462.out) gb488 (Nat.le_of_eq hg.symm)) hb)
          have n1_ := Aside0.mk (Kd.V_below (Kd.V_elderB (by (with_reducible repeat (first | apply Kd.V_alloc | apply Kd.V_drewN | apply Kd.V_drew)); exact HO465.out) gb488 (Nat.le_of_eq hg.symm)) hb)
          have n2_ := Aside0.mk (Kd.V_below (Kd.V_elderB (by (with_reducible repeat (first | apply Kd.V_alloc | apply Kd.V_drewN | apply Kd.V_drew)); exact HO468.out) gb488 (Nat.le_of_eq hg.symm)) hb)
          have n3_ := Aside0.mk (Kd.V_below (Kd.V_elderB (by (with_reducible repeat (first | apply Kd.V_alloc | apply Kd.V_drewN | apply Kd.V_drew)); exact HO471.out) gb488 (Nat.le_of_eq hg.symm)) hb)
          have n4_ := Aside0.mk (Kd.V_below (Kd.V_elderB (by (with_reducible repeat (first | apply Kd.V_alloc | apply Kd.V_drewN | apply Kd.V_drew)); exact HO474.out) gb488 (Nat.le_of_eq hg.symm)) hb)
          have n5_ := Aside0.mk (Kd.V_below (Kd.V_elderB (by (with_reducible repeat (first | apply Kd.V_alloc | apply Kd.V_drewN | apply Kd.V_drew)); exact HO477.out) gb488 (Nat.le_of_eq hg.symm)) hb)
          have n6_ := Aside0.mk (bb BK478.out hb)
          have n7_ := Aside0.mk (bb BK479.out hb)
          have n8_ := Aside0.mk (bb BK480.out hb)
          have n9_ := Aside0.mk (bs HB.out hb)
          have n10_ := Aside0.mk (hbox)
          have n11_ := Aside0.mk ((by rw [hg]; exact (bz HB.out) : w.heap.size ≤ gb488))
          have n12_ := Aside0.mk ((by rw [hg]; exact (bz HB.out) : w.heap.size ≤ gb488))
          have n13_ := Aside0.mk ((by rw [hg]; exact Nat.ne_of_lt (blk_lt (g := gb478) (o := .cells #[.slice Ao62 t463.length co62] 25 (0, 0)) (by (with_reducible repeat (first | refine blk_drewN ?_ _ | refine blk_drew ?_ | refine blk_alloc ?_ _)); exact BK478.out)) : gb478 ≠ gb488))
          have n14_ := Aside0.mk ((by rw [hg]; exact Nat.ne_of_gt (blk_lt (g := gb478) (o := .cells #[.slice Ao62 t463.length co62] 25 (0, 0)) (by (with_reducible repeat (first | refine blk_drewN ?_ _ | refine blk_drew ?_ | refine blk_alloc ?_ _)); exact BK478.out)) : gb488 ≠ gb478))
          have n15_ := Aside0.mk ((by rw [hg]; exact Nat.ne_of_lt (blk_lt (g := gb479) (o := .cells #[.slice Ao66 t469.length co66] 25 (0, 0)) (by (with_reducible repeat (first | refine blk_drewN ?_ _ | refine blk_drew ?_ | refine blk_alloc ?_ _)); exact BK479.out)) : gb479 ≠ gb488))
          have n16_ := Aside0.mk ((by rw [hg]; exact Nat.ne_of_gt (blk_lt (g := gb479) (o := .cells #[.slice Ao66 t469.length co66] 25 (0, 0)) (by (with_reducible repeat (first | refine blk_drewN ?_ _ | refine blk_drew ?_ | refine blk_alloc ?_ _)); exact BK479.out)) : gb488 ≠ gb479))
          have n17_ := Aside0.mk ((by rw [hg]; exact Nat.ne_of_lt (blk_lt (g := gb480) (o := .cells #[.slice Ao69 t475.length co69] 25 (0, 0)) (by (with_reducible repeat (first | refine blk_drewN ?_ _ | refine blk_drew ?_ | refine blk_alloc ?_ _)); exact BK480.out)) : gb480 ≠ gb488))
          have n18_ := Aside0.mk ((by rw [hg]; exact Nat.ne_of_gt (blk_lt (g := gb480) (o := .cells #[.slice Ao69 t475.length co69] 25 (0, 0)) (by (with_reducible repeat (first | refine blk_drewN ?_ _ | refine blk_drew ?_ | refine blk_alloc ?_ _)); exact BK480.out)) : gb488 ≠ gb480))
          clear HO462
          clear HO465
          clear HO468
          clear HO471
          clear HO474
          clear HO477
          clear BK478
          clear BK479
          clear BK480
          clear HB
          have HO462 := n0_
          have HO465 := n1_
          have HO468 := n2_
          have HO471 := n3_
          have HO474 := n4_
          have HO477 := n5_
          have BK478 := n6_
          have BK479 := n7_
          have BK480 := n8_
          have HB := n9_
          have BK488 := n10_
          have GW488 := n11_
          have GE488 := n12_
          have NB478_488 := n13_
          have NB488_478 := n14_
          have NB479_488 := n15_
          have NB488_479 := n16_
          have NB480_488 := n17_
          have NB488_480 := n18_
          clear n0_ n1_ n2_ n3_ n4_ n5_ n6_ n7_ n8_ n9_ n10_ n11_ n12_ n13_ n14_ n15_ n16_ n17_ n18_
          clear hb hbox hg
          refine hK.out _ _ ⟨(blk_cell BK478.out 0).trans rfl, (blk_cell BK479.out 0).trans rfl⟩ (fun hHeld => ?_)
          clear hK K
          refine norm_ (a' := ?_) ?_ ?_
          rotate_left
          · show Act.put _ (some 10) _ = _
            simp only [Act.put, List.setIfInBounds_toArray, List.set_cons_zero, List.set_cons_succ, i64_w, i32_w]
            rfl
          refine one_ (i := 2) (N := some 24) (fl 4 11 [8]) rfl rfl (one_of HT_.out (by kernel_rfl)) (by decide) (fun K hK => ?_)
          refine goes_ Try.func25 (by kernel_rfl) rfl #[.agg #[.slice Ao62 t463.length co62], .agg #[.slice Ao66 t469.length co66]] (by rfl) rfl rfl (by (try simp only [List.map_toArray, List.map_cons, List.map_nil]); first | done | rfl | (simp only [List.length_drop, List.length_take]; rfl)) ?_
          with_reducible refine (nat_Nat_Add.calls k _ _ t463 _ _ t469 t481 _ ?side1 ?side2 ?side3 ?side4 A10.out).mono ?_
          (case side1 => exact cv HO465.out)
          (case side2 => exact (Kd.V_reads' HO465.out).2.1)
          (case side3 => exact cv HO471.out)
          (case side4 => exact (Kd.V_reads' HO471.out).2.1)
          rintro e w74 ⟨v482, rfl, ho0, hb⟩
          refine ⟨_, rfl, ?_⟩
          replace HO462 := Aside0.mk (vb HO462.out hb)
          replace HO465 := Aside0.mk (vb HO465.out hb)
          replace HO468 := Aside0.mk (vb HO468.out hb)
          replace HO471 := Aside0.mk (vb HO471.out hb)
          replace HO474 := Aside0.mk (vb HO474.out hb)
          replace HO477 := Aside0.mk (vb HO477.out hb)
          have HO483 := Aside0.mk (Kd.V_lower (Kd.V_mono (ok' := fun k_ => k_ ≠ gb478 ∧ k_ ≠ gb479 ∧ k_ ≠ gb480 ∧ k_ ≠ gb488) ho0 (fun k_ hk_ => ⟨(fb BK478.out k_ hk_), (fb BK479.out k_ hk_), (fb BK480.out k_ hk_), (fb BK488.out k_ hk_)⟩)) (bz HB.out))
          replace BK478 := Aside0.mk (bb BK478.out hb)
          replace BK479 := Aside0.mk (bb BK479.out hb)
          replace BK480 := Aside0.mk (bb BK480.out hb)
          replace BK488 := Aside0.mk (bb BK488.out hb)
          replace HB := Aside0.mk (bs HB.out hb)
          (try clear hb)
          (try clear hb2)
          (try clear hk)
          (try clear hi)
          (try clear ho0)
          obtain ⟨Ao75, co75, eo75⟩ := Kd.V_slice HO483.out
          (first | subst eo75 | (injection eo75 with f1_ f2_ f3_; have f4_ := f1_.symm; have f5_ := f3_.symm; clear f1_ f2_ f3_; subst f4_; subst f5_))
          refine hK.out _ _ ⟨(blk_cell BK478.out 0).trans rfl, (blk_cell BK479.out 0).trans rfl⟩ (fun hHeld => ?_)
          clear hK K
          refine norm_ (a' := ?_) ?_ ?_
          rotate_left
          · show Act.put _ (some 24) _ = _
            simp only [Act.put, List.setIfInBounds_toArray, List.set_cons_zero, List.set_cons_succ, i64_w, i32_w]
            rfl
          refine one_ (i := 4) (N := some 26) (fl 5 11 [8]) rfl rfl (one_of HT_.out (by kernel_rfl)) (by decide) (fun K hK => ?_)
          refine goes_ Try.func26 (by kernel_rfl) rfl #[.agg #[.slice Ao75 t481.length co75], .agg #[.slice Ao66 t469.length co66]] (by rfl) rfl rfl (by (try simp only [List.map_toArray, List.map_cons, List.map_nil]); first | done | rfl | (simp only [List.length_drop, List.length_take]; rfl)) ?_
          with_reducible refine (nat_Nat_Sub.calls k _ _ t481 _ _ t469 t484 true _ ?side1 ?side2 ?side3 ?side4 A11.out).mono ?_
          (case side1 => exact cv HO483.out)
          (case side2 => exact (Kd.V_reads' HO483.out).2.1)
          (case side3 => exact cv HO471.out)
          (case side4 => exact (Kd.V_reads' HO471.out).2.1)
          rintro e w76 ⟨v485, rfl, ho0, hb⟩
          refine ⟨_, rfl, ?_⟩
          replace HO462 := Aside0.mk (vb HO462.out hb)
          replace HO465 := Aside0.mk (vb HO465.out hb)
          replace HO468 := Aside0.mk (vb HO468.out hb)
          replace HO471 := Aside0.mk (vb HO471.out hb)
          replace HO474 := Aside0.mk (vb HO474.out hb)
          replace HO477 := Aside0.mk (vb HO477.out hb)
          replace HO483 := Aside0.mk (vb HO483.out hb)
          have HO486 := Aside0.mk (Kd.V_lower (Kd.V_mono (ok' := fun k_ => k_ ≠ gb478 ∧ k_ ≠ gb479 ∧ k_ ≠ gb480 ∧ k_ ≠ gb488) ho0 (fun k_ hk_ => ⟨(fb BK478.out k_ hk_), (fb BK479.out k_ hk_), (fb BK480.out k_ hk_), (fb BK488.out k_ hk_)⟩)) (bz HB.out))
          replace BK478 := Aside0.mk (bb BK478.out hb)
          replace BK479 := Aside0.mk (bb BK479.out hb)
          replace BK480 := Aside0.mk (bb BK480.out hb)
          replace BK488 := Aside0.mk (bb BK488.out hb)
          replace HB := Aside0.mk (bs HB.out hb)
          (try clear hb)
          (try clear hb2)
          (try clear hk)
          (try clear hi)
          (try clear ho0)
          refine hK.out _ _ ⟨(blk_cell BK478.out 0).trans rfl, (blk_cell BK479.out 0).trans rfl⟩ (fun hHeld => ?_)
          clear hK K
          refine norm_ (a' := ?_) ?_ ?_
          rotate_left
          · show Act.put _ (some 26) _ = _
            simp only [Act.put, List.setIfInBounds_toArray, List.set_cons_zero, List.set_cons_succ, i64_w, i32_w]
            rfl
          refine pure_ (i := 5) (N := some 21) (v := ?_) (a' := ?_) (fl 6 11 [8]) rfl rfl (any_of HT_.out (by kernel_rfl)) (fun _ _ _ h => h) (Or.inl ⟨by rfl, ?_⟩) ?_ ?_
          rotate_left
          · intro w'
            go_simp
            with_reducible rfl
          rotate_left
          · simp only [Act.put, List.setIfInBounds_toArray, List.set_cons_zero, List.set_cons_succ, i64_w, i32_w]
            rfl
          refine pure_ (i := 6) (N := some 27) (v := ?_) (a' := ?_) (fl 7 11 [8]) rfl rfl (any_of HT_.out (by kernel_rfl)) (fun _ _ _ h => h) (Or.inl ⟨by rfl, ?_⟩) ?_ ?_
          rotate_left
          · intro w'
            go_simp
            with_reducible rfl
          rotate_left
          · simp only [Act.put, List.setIfInBounds_toArray, List.set_cons_zero, List.set_cons_succ, i64_w, i32_w]
            rfl
          refine pure_ (i := 7) (N := some 28) (v := ?_) (a' := ?_) (fl 9 11 []) rfl rfl (any_of HT_.out (by kernel_rfl)) (fun _ _ _ h => h) (Or.inl ⟨by rfl, ?_⟩) ?_ ?_
          rotate_left
          · intro w'
            go_simp
            with_reducible rfl
          rotate_left
          · simp only [Act.put, List.setIfInBounds_toArray, List.set_cons_zero, List.set_cons_succ, i64_w, i32_w]
            rfl
          exact norm_ (by simp only [putAll, Act.put, List.setIfInBounds_toArray, List.set_cons_zero, List.set_cons_succ]) (hCont (.slice Ao75 t481.length co75, v485, gb488) _ ⟨hHeld, (by (with_reducible repeat (first | apply Kd.V_alloc | apply Kd.V_drewN | apply Kd.V_drew)); exact Kd.V_mono HO462.out (fun _ hk => ⟨hk.1.1, ⟨hk.1.2.1, ⟨hk.1.2.2, hk.2⟩⟩⟩)), (by (with_reducible repeat (first | apply Kd.V_alloc | apply Kd.V_drewN | apply Kd.V_drew)); exact Kd.V_mono HO465.out (fun _ hk => ⟨hk.1.1, ⟨hk.1.2.1, ⟨hk.1.2.2, hk.2⟩⟩⟩)), (by (with_reducible repeat (first | apply Kd.V_alloc | apply Kd.V_drewN | apply Kd.V_drew)); exact Kd.V_mono HO468.out (fun _ hk => ⟨hk.1.1, ⟨hk.1.2.1, ⟨hk.1.2.2, hk.2⟩⟩⟩)), (by (with_reducible repeat (first | apply Kd.V_alloc | apply Kd.V_drewN | apply Kd.V_drew)); exact Kd.V_mono HO471.out (fun _ hk => ⟨hk.1.1, ⟨hk.1.2.1, ⟨hk.1.2.2, hk.2⟩⟩⟩)), (by (with_reducible repeat (first | apply Kd.V_alloc | apply Kd.V_drewN | apply Kd.V_drew)); exact Kd.V_mono HO474.out (fun _ hk => ⟨hk.1.1, ⟨hk.1.2.1, ⟨hk.1.2.2, hk.2⟩⟩⟩)), (by (with_reducible repeat (first | apply Kd.V_alloc | apply Kd.V_drewN | apply Kd.V_drew)); exact Kd.V_mono HO477.out (fun _ hk => ⟨hk.1.1, ⟨hk.1.2.1, ⟨hk.1.2.2, hk.2⟩⟩⟩)), (by (with_reducible repeat (first | apply Kd.V_alloc | apply Kd.V_drewN | apply Kd.V_drew)); exact HO483.out), (by (with_reducible repeat (first | apply Kd.V_alloc | apply Kd.V_drewN | apply Kd.V_drew)); exact HO486.out), (by (with_reducible repeat (first | refine blk_drewN ?_ _ | refine blk_drew ?_ | refine blk_alloc ?_ _)); exact BK478.out), (by (with_reducible repeat (first | refine blk_drewN ?_ _ | refine blk_drew ?_ | refine blk_alloc ?_ _)); exact BK479.out), (by (with_reducible repeat (first | refine blk_drewN ?_ _ | refine blk_drew ?_ | refine blk_alloc ?_ _)); exact BK480.out), (by (with_reducible repeat (first | refine blk_drewN ?_ _ | refine blk_drew ?_ | refine blk_alloc ?_ _)); exact BK488.out), GW488.out, GE488.out, NB478_488.out, NB488_478.out, NB479_488.out, NB488_479.out, NB480_488.out, NB488_480.out, (by repeat (first | (with_reducible first | exact HB.out | apply below_alloc | apply pw_below_drewN | apply below_drew1 | refine below_set ?_ GE478.out | refine below_set ?_ GE479.out | refine below_set ?_ GE480.out | refine below_set ?_ GE488.out) | exact HB.out))⟩)
      rintro ⟨v482, v485, gb488⟩ w77 ⟨hS_, h0_, h1_, h2_, h3_, h4_, h5_, h6_, h7_, h8_, h9_, h10_, h11_, h12_, h13_, h14_, h15_, h16_, h17_, h18_, h19_, h20_⟩
      have n0_ : Aside0 (Kd.V (Kd.int .u64) 27 w77 w.heap.size (fun k_ => k_ ≠ gb478 ∧ k_ ≠ gb479 ∧ k_ ≠ gb480 ∧ k_ ≠ gb488) (.slice Ao51 t460.length co51) t460) := ⟨h0_⟩
      have n1_ : Aside0 (Kd.V (Kd.int .u64) 27 w77 w.heap.size (fun k_ => k_ ≠ gb478 ∧ k_ ≠ gb479 ∧ k_ ≠ gb480 ∧ k_ ≠ gb488) (.slice Ao62 t463.length co62) t463) := ⟨h1_⟩
      have n2_ : Aside0 (Kd.V (Kd.int .u64) 27 w77 w.heap.size (fun k_ => k_ ≠ gb478 ∧ k_ ≠ gb479 ∧ k_ ≠ gb480 ∧ k_ ≠ gb488) (.slice Ao54 t466.length co54) t466) := ⟨h2_⟩
      have n3_ : Aside0 (Kd.V (Kd.int .u64) 27 w77 w.heap.size (fun k_ => k_ ≠ gb478 ∧ k_ ≠ gb479 ∧ k_ ≠ gb480 ∧ k_ ≠ gb488) (.slice Ao66 t469.length co66) t469) := ⟨h3_⟩
      have n4_ : Aside0 (Kd.V (Kd.int .u64) 27 w77 w.heap.size (fun k_ => k_ ≠ gb478 ∧ k_ ≠ gb479 ∧ k_ ≠ gb480 ∧ k_ ≠ gb488) (.slice Ao57 t472.length co57) t472) := ⟨h4_⟩
      have n5_ : Aside0 (Kd.V (Kd.int .u64) 27 w77 w.heap.size (fun k_ => k_ ≠ gb478 ∧ k_ ≠ gb479 ∧ k_ ≠ gb480 ∧ k_ ≠ gb488) (.slice Ao69 t475.length co69) t475) := ⟨h5_⟩
      have n6_ : Aside0 (Kd.V (Kd.int .u64) 27 w77 w.heap.size (fun k_ => k_ ≠ gb478 ∧ k_ ≠ gb479 ∧ k_ ≠ gb480 ∧ k_ ≠ gb488) v482 t481) := ⟨h6_⟩
      have n7_ : Aside0 (Kd.V (Kd.int .u64) 27 w77 w.heap.size (fun k_ => k_ ≠ gb478 ∧ k_ ≠ gb479 ∧ k_ ≠ gb480 ∧ k_ ≠ gb488) v485 t484) := ⟨h7_⟩
      have n8_ : Aside0 (w77.heap[gb478]? = some (.cells #[.slice Ao62 t463.length co62] 25 (0, 0))) := ⟨h8_⟩
      have n9_ : Aside0 (w77.heap[gb479]? = some (.cells #[.slice Ao66 t469.length co66] 25 (0, 0))) := ⟨h9_⟩
      have n10_ : Aside0 (w77.heap[gb480]? = some (.cells #[.slice Ao69 t475.length co69] 25 (0, 0))) := ⟨h10_⟩
      have n11_ : Aside0 (w77.heap[gb488]? = some (.cells #[.slice none 0 0] 25 (0, 0))) := ⟨h11_⟩
      have n12_ : Aside0 (w.heap.size ≤ gb488) := ⟨h12_⟩
      have n13_ : Aside0 (w.heap.size ≤ gb488) := ⟨h13_⟩
      have n14_ : Aside0 (gb478 ≠ gb488) := ⟨h14_⟩
      have n15_ : Aside0 (gb488 ≠ gb478) := ⟨h15_⟩
      have n16_ : Aside0 (gb479 ≠ gb488) := ⟨h16_⟩
      have n17_ : Aside0 (gb488 ≠ gb479) := ⟨h17_⟩
      have n18_ : Aside0 (gb480 ≠ gb488) := ⟨h18_⟩
      have n19_ : Aside0 (gb488 ≠ gb480) := ⟨h19_⟩
      have n20_ : Aside0 (Below w.heap.size w w77) := ⟨h20_⟩
      clear HO462
      clear HO465
      clear HO468
      clear HO471
      clear HO474
      clear HO477
      clear BK478
      clear BK479
      clear BK480
      clear HB
      clear h0_ h1_ h2_ h3_ h4_ h5_ h6_ h7_ h8_ h9_ h10_ h11_ h12_ h13_ h14_ h15_ h16_ h17_ h18_ h19_ h20_
      have HO462 := n0_
      have HO465 := n1_
      have HO468 := n2_
      have HO471 := n3_
      have HO474 := n4_
      have HO477 := n5_
      have HO483 := n6_
      have HO486 := n7_
      have BK478 := n8_
      have BK479 := n9_
      have BK480 := n10_
      have BK488 := n11_
      have GW488 := n12_
      have GE488 := n13_
      have NB478_488 := n14_
      have NB488_478 := n15_
      have NB479_488 := n16_
      have NB488_479 := n17_
      have NB480_488 := n18_
      have NB488_480 := n19_
      have HB := n20_
      clear n0_ n1_ n2_ n3_ n4_ n5_ n6_ n7_ n8_ n9_ n10_ n11_ n12_ n13_ n14_ n15_ n16_ n17_ n18_ n19_ n20_
      have hHeld : w77.cell? ⟨gb478, 0, none⟩ = some (.slice Ao62 t463.length co62) ∧ w77.cell? ⟨gb479, 0, none⟩ = some (.slice Ao66 t469.length co66) := hS_
      obtain ⟨Ao78, co78, eo78⟩ := Kd.V_slice HO486.out
      (first | subst eo78 | (injection eo78 with f1_ f2_ f3_; have f4_ := f1_.symm; have f5_ := f3_.symm; clear f1_ f2_ f3_; subst f4_; subst f5_))
      refine norm_ (a' := ?_) ?_ ?_
      rotate_left
      · simp only [putAll, Act.put, List.setIfInBounds_toArray, List.set_cons_zero, List.set_cons_succ]
        rfl
      refine one_ (i := 9) (N := none) (fl 10 11 []) rfl rfl (one_of HT_.out (by kernel_rfl)) (by decide) (fun K hK => ?_)
      have hs79 : w77.cell? ⟨gb488, 0, none⟩ = some (.slice none 0 0) := (blk_cell BK488.out 0).trans rfl
      have hfs79 := blk_frozen BK488.out 0
      have hns79_0 := NB478_488.out
      have hns79_1 := NB479_488.out
      have hns79_2 := NB480_488.out
      have hms79_0 := NB488_478.out
      have hms79_1 := NB488_479.out
      have hms79_2 := NB488_480.out
      refine skip_ (w1 := ?_) (by rfl) rfl ?_ ?_
      rotate_left
      · go_simp
        rfl
      refine hK.out _ _ ⟨((cell_far (p := ⟨gb488, _, none⟩) NB478_488.out _).trans (hHeld.1)), ((cell_far (p := ⟨gb488, _, none⟩) NB479_488.out _).trans (hHeld.2))⟩ (fun hHeld => ?_)
      clear hK K
      refine pure_ (i := 10) (N := some 11) (v := ?_) (a' := ?_) (fl 11 11 []) rfl rfl (any_of HT_.out (by kernel_rfl)) (fun _ _ _ h => h) (Or.inl ⟨by rfl, ?_⟩) ?_ ?_
      rotate_left
      · intro w'
        go_simp
        with_reducible rfl
      rotate_left
      · simp only [Act.put, List.setIfInBounds_toArray, List.set_cons_zero, List.set_cons_succ, i64_w, i32_w]
        rfl
      refine done_ (done_of HT_.out (by kernel_rfl)) ?_
      try go_wp2
      have n0_ : Aside0 (Kd.V (Kd.int .u64) 27 (w77.setCell ⟨gb488, 0, none⟩ (.slice Ao78 t484.length co78)) w.heap.size (fun k_ => k_ ≠ gb478 ∧ k_ ≠ gb479 ∧ k_ ≠ gb480 ∧ k_ ≠ gb488) (.slice Ao51 t460.length co51) t460) := ⟨by (with_reducible repeat (first | apply Kd.V_alloc | apply Kd.V_drewN | apply Kd.V_drew)); exact Kd.V_mono (Kd.V_far (p := ⟨gb488, 0, none⟩) (Kd.V_mono HO462.out (fun k_ hk => (⟨hk, hk.2.2.2⟩ : _ ∧ k_ ≠ gb488))) (fun _ hk => hk.2) (.slice Ao78 t484.length co78)) (fun _ hk => ⟨hk.1.1, ⟨hk.1.2.1, ⟨hk.1.2.2.1, hk.1.2.2.2⟩⟩⟩)⟩
      have n1_ : Aside0 (Kd.V (Kd.int .u64) 27 (w77.setCell ⟨gb488, 0, none⟩ (.slice Ao78 t484.length co78)) w.heap.size (fun k_ => k_ ≠ gb478 ∧ k_ ≠ gb479 ∧ k_ ≠ gb480 ∧ k_ ≠ gb488) (.slice Ao62 t463.length co62) t463) := ⟨by (with_reducible repeat (first | apply Kd.V_alloc | apply Kd.V_drewN | apply Kd.V_drew)); exact Kd.V_mono (Kd.V_far (p := ⟨gb488, 0, none⟩) (Kd.V_mono HO465.out (fun k_ hk => (⟨hk, hk.2.2.2⟩ : _ ∧ k_ ≠ gb488))) (fun _ hk => hk.2) (.slice Ao78 t484.length co78)) (fun _ hk => ⟨hk.1.1, ⟨hk.1.2.1, ⟨hk.1.2.2.1, hk.1.2.2.2⟩⟩⟩)⟩
      have n2_ : Aside0 (Kd.V (Kd.int .u64) 27 (w77.setCell ⟨gb488, 0, none⟩ (.slice Ao78 t484.length co78)) w.heap.size (fun k_ => k_ ≠ gb478 ∧ k_ ≠ gb479 ∧ k_ ≠ gb480 ∧ k_ ≠ gb488) (.slice Ao54 t466.length co54) t466) := ⟨by (with_reducible repeat (first | apply Kd.V_alloc | apply Kd.V_drewN | apply Kd.V_drew)); exact Kd.V_mono (Kd.V_far (p := ⟨gb488, 0, none⟩) (Kd.V_mono HO468.out (fun k_ hk => (⟨hk, hk.2.2.2⟩ : _ ∧ k_ ≠ gb488))) (fun _ hk => hk.2) (.slice Ao78 t484.length co78)) (fun _ hk => ⟨hk.1.1, ⟨hk.1.2.1, ⟨hk.1.2.2.1, hk.1.2.2.2⟩⟩⟩)⟩
      have n3_ : Aside0 (Kd.V (Kd.int .u64) 27 (w77.setCell ⟨gb488, 0, none⟩ (.slice Ao78 t484.length co78)) w.heap.size (fun k_ => k_ ≠ gb478 ∧ k_ ≠ gb479 ∧ k_ ≠ gb480 ∧ k_ ≠ gb488) (.slice Ao66 t469.length co66) t469) := ⟨by (with_reducible repeat (first | apply Kd.V_alloc | apply Kd.V_drewN | apply Kd.V_drew)); exact Kd.V_mono (Kd.V_far (p := ⟨gb488, 0, none⟩) (Kd.V_mono HO471.out (fun k_ hk => (⟨hk, hk.2.2.2⟩ : _ ∧ k_ ≠ gb488))) (fun _ hk => hk.2) (.slice Ao78 t484.length co78)) (fun _ hk => ⟨hk.1.1, ⟨hk.1.2.1, ⟨hk.1.2.2.1, hk.1.2.2.2⟩⟩⟩)⟩
      have n4_ : Aside0 (Kd.V (Kd.int .u64) 27 (w77.setCell ⟨gb488, 0, none⟩ (.slice Ao78 t484.length co78)) w.heap.size (fun k_ => k_ ≠ gb478 ∧ k_ ≠ gb479 ∧ k_ ≠ gb480 ∧ k_ ≠ gb488) (.slice Ao57 t472.length co57) t472) := ⟨by (with_reducible repeat (first | apply Kd.V_alloc | apply Kd.V_drewN | apply Kd.V_drew)); exact Kd.V_mono (Kd.V_far (p := ⟨gb488, 0, none⟩) (Kd.V_mono HO474.out (fun k_ hk => (⟨hk, hk.2.2.2⟩ : _ ∧ k_ ≠ gb488))) (fun _ hk => hk.2) (.slice Ao78 t484.length co78)) (fun _ hk => ⟨hk.1.1, ⟨hk.1.2.1, ⟨hk.1.2.2.1, hk.1.2.2.2⟩⟩⟩)⟩
      have n5_ : Aside0 (Kd.V (Kd.int .u64) 27 (w77.setCell ⟨gb488, 0, none⟩ (.slice Ao78 t484.length co78)) w.heap.size (fun k_ => k_ ≠ gb478 ∧ k_ ≠ gb479 ∧ k_ ≠ gb480 ∧ k_ ≠ gb488) (.slice Ao69 t475.length co69) t475) := ⟨by (with_reducible repeat (first | apply Kd.V_alloc | apply Kd.V_drewN | apply Kd.V_drew)); exact Kd.V_mono (Kd.V_far (p := ⟨gb488, 0, none⟩) (Kd.V_mono HO477.out (fun k_ hk => (⟨hk, hk.2.2.2⟩ : _ ∧ k_ ≠ gb488))) (fun _ hk => hk.2) (.slice Ao78 t484.length co78)) (fun _ hk => ⟨hk.1.1, ⟨hk.1.2.1, ⟨hk.1.2.2.1, hk.1.2.2.2⟩⟩⟩)⟩
      have n6_ : Aside0 (Kd.V (Kd.int .u64) 27 (w77.setCell ⟨gb488, 0, none⟩ (.slice Ao78 t484.length co78)) w.heap.size (fun k_ => k_ ≠ gb478 ∧ k_ ≠ gb479 ∧ k_ ≠ gb480 ∧ k_ ≠ gb488) v482 t481) := ⟨by (with_reducible repeat (first | apply Kd.V_alloc | apply Kd.V_drewN | apply Kd.V_drew)); exact Kd.V_mono (Kd.V_far (p := ⟨gb488, 0, none⟩) (Kd.V_mono HO483.out (fun k_ hk => (⟨hk, hk.2.2.2⟩ : _ ∧ k_ ≠ gb488))) (fun _ hk => hk.2) (.slice Ao78 t484.length co78)) (fun _ hk => ⟨hk.1.1, ⟨hk.1.2.1, ⟨hk.1.2.2.1, hk.1.2.2.2⟩⟩⟩)⟩
      have n7_ : Aside0 (Kd.V (Kd.int .u64) 27 (w77.setCell ⟨gb488, 0, none⟩ (.slice Ao78 t484.length co78)) w.heap.size (fun k_ => k_ ≠ gb478 ∧ k_ ≠ gb479 ∧ k_ ≠ gb480 ∧ k_ ≠ gb488) (.slice Ao78 t484.length co78) t484) := ⟨by (with_reducible repeat (first | apply Kd.V_alloc | apply Kd.V_drewN | apply Kd.V_drew)); exact Kd.V_mono (Kd.V_far (p := ⟨gb488, 0, none⟩) (Kd.V_mono HO486.out (fun k_ hk => (⟨hk, hk.2.2.2⟩ : _ ∧ k_ ≠ gb488))) (fun _ hk => hk.2) (.slice Ao78 t484.length co78)) (fun _ hk => ⟨hk.1.1, ⟨hk.1.2.1, ⟨hk.1.2.2.1, hk.1.2.2.2⟩⟩⟩)⟩
      have n8_ : Aside0 ((w77.setCell ⟨gb488, 0, none⟩ (.slice Ao78 t484.length co78)).heap[gb478]? = some (.cells #[.slice Ao62 t463.length co62] 25 (0, 0))) := ⟨by (with_reducible repeat (first | refine blk_drewN ?_ _ | refine blk_drew ?_ | refine blk_alloc ?_ _)); refine blk_far ?_ NB478_488.out _; (with_reducible repeat (first | refine blk_drewN ?_ _ | refine blk_drew ?_ | refine blk_alloc ?_ _)); exact BK478.out⟩
      have n9_ : Aside0 ((w77.setCell ⟨gb488, 0, none⟩ (.slice Ao78 t484.length co78)).heap[gb479]? = some (.cells #[.slice Ao66 t469.length co66] 25 (0, 0))) := ⟨by (with_reducible repeat (first | refine blk_drewN ?_ _ | refine blk_drew ?_ | refine blk_alloc ?_ _)); refine blk_far ?_ NB479_488.out _; (with_reducible repeat (first | refine blk_drewN ?_ _ | refine blk_drew ?_ | refine blk_alloc ?_ _)); exact BK479.out⟩
      have n10_ : Aside0 ((w77.setCell ⟨gb488, 0, none⟩ (.slice Ao78 t484.length co78)).heap[gb480]? = some (.cells #[.slice Ao69 t475.length co69] 25 (0, 0))) := ⟨by (with_reducible repeat (first | refine blk_drewN ?_ _ | refine blk_drew ?_ | refine blk_alloc ?_ _)); refine blk_far ?_ NB480_488.out _; (with_reducible repeat (first | refine blk_drewN ?_ _ | refine blk_drew ?_ | refine blk_alloc ?_ _)); exact BK480.out⟩
      have n11_ : Aside0 ((w77.setCell ⟨gb488, 0, none⟩ (.slice Ao78 t484.length co78)).heap[gb488]? = some (.cells #[.slice Ao78 t484.length co78] 25 (0, 0))) := ⟨by (with_reducible repeat (first | refine blk_drewN ?_ _ | refine blk_drew ?_ | refine blk_alloc ?_ _)); refine blk_put (cs := #[.slice none 0 0]) ?_ 0 _ rfl; (with_reducible repeat (first | refine blk_drewN ?_ _ | refine blk_drew ?_ | refine blk_alloc ?_ _)); exact BK488.out⟩
      have n12_ : Aside0 (Below w.heap.size w (w77.setCell ⟨gb488, 0, none⟩ (.slice Ao78 t484.length co78))) := ⟨by repeat (first | (with_reducible first | exact HB.out | apply below_alloc | apply pw_below_drewN | apply below_drew1 | refine below_set ?_ GE478.out | refine below_set ?_ GE479.out | refine below_set ?_ GE480.out | refine below_set ?_ GE488.out) | exact HB.out)⟩
      (try clear HO462)
      (try clear HO465)
      (try clear HO468)
      (try clear HO471)
      (try clear HO474)
      (try clear HO477)
      (try clear HO483)
      (try clear HO486)
      (try clear BK478)
      (try clear BK479)
      (try clear BK480)
      (try clear BK488)
      (try clear HB)
      generalize (w77.setCell ⟨gb488, 0, none⟩ (.slice Ao78 t484.length co78)) = w80 at n0_ n1_ n2_ n3_ n4_ n5_ n6_ n7_ n8_ n9_ n10_ n11_ n12_ ⊢
      have HO462 := n0_
      have HO465 := n1_
      have HO468 := n2_
      have HO471 := n3_
      have HO474 := n4_
      have HO477 := n5_
      have HO483 := n6_
      have HO486 := n7_
      have BK478 := n8_
      have BK479 := n9_
      have BK480 := n10_
      have BK488 := n11_
      have HB := n12_
      clear n0_ n1_ n2_ n3_ n4_ n5_ n6_ n7_ n8_ n9_ n10_ n11_ n12_
      replace HO462 := Aside0.mk (Kd.V_drew HO462.out)
      replace HO465 := Aside0.mk (Kd.V_drew HO465.out)
      replace HO468 := Aside0.mk (Kd.V_drew HO468.out)
      replace HO471 := Aside0.mk (Kd.V_drew HO471.out)
      replace HO474 := Aside0.mk (Kd.V_drew HO474.out)
      replace HO477 := Aside0.mk (Kd.V_drew HO477.out)
      replace HO483 := Aside0.mk (Kd.V_drew HO483.out)
      replace HO486 := Aside0.mk (Kd.V_drew HO486.out)
      replace BK478 := Aside0.mk (blk_drew BK478.out)
      replace BK479 := Aside0.mk (blk_drew BK479.out)
      replace BK480 := Aside0.mk (blk_drew BK480.out)
      replace BK488 := Aside0.mk (blk_drew BK488.out)
      replace HB := Aside0.mk (below_drew1 HB.out)
      refine start_ (n := 90) (S := fun w' => w'.cell? ⟨gb478, 0, none⟩ = some (.slice Ao62 t463.length co62) ∧ w'.cell? ⟨gb479, 0, none⟩ = some (.slice Ao66 t469.length co66) ∧ w'.cell? ⟨gb480, 0, none⟩ = some (.slice Ao69 t475.length co69) ∧ w'.cell? ⟨gb488, 0, none⟩ = some (.slice Ao78 t484.length co78)) (ds := []) (fl 0 90 []) (by kernel_rfl) rfl rfl ⟨(blk_cell BK478.out 0).trans rfl, (blk_cell BK479.out 0).trans rfl, (blk_cell BK480.out 0).trans rfl, (blk_cell BK488.out 0).trans rfl⟩ (fun hHeld => ?_); refine with_tabW chattellaw01_NatRules.tab3 chattellaw01_NatRules.bits3 (fun HT_ HW_ => ?_)
      generalize w80.drew = w81 at HO462 HO465 HO468 HO471 HO474 HO477 HO483 HO486 BK478 BK479 BK480 BK488 HB hHeld ⊢
      refine one_ (i := 0) (N := some 29) (fl 1 90 []) rfl rfl (one_of HT_.out (by kernel_rfl)) (by decide) (fun K hK => ?_)
      refine goes_ Try.func20 (by kernel_rfl) rfl #[] (by rfl) rfl rfl (by (try simp only [List.map_toArray, List.map_cons, List.map_nil]); first | done | rfl | (simp only [List.length_drop, List.length_take]; rfl)) ?_
      with_reducible refine (chattellaw01_wakes.calls k  true _ A12.out).mono ?_
      rintro e w82 ⟨rfl, hb⟩
      refine ⟨_, rfl, ?_⟩
      replace HO462 := Aside0.mk (vb HO462.out hb)
      replace HO465 := Aside0.mk (vb HO465.out hb)
      replace HO468 := Aside0.mk (vb HO468.out hb)
      replace HO471 := Aside0.mk (vb HO471.out hb)
      replace HO474 := Aside0.mk (vb HO474.out hb)
      replace HO477 := Aside0.mk (vb HO477.out hb)
      replace HO483 := Aside0.mk (vb HO483.out hb)
      replace HO486 := Aside0.mk (vb HO486.out hb)
      replace BK478 := Aside0.mk (bb BK478.out hb)
      replace BK479 := Aside0.mk (bb BK479.out hb)
      replace BK480 := Aside0.mk (bb BK480.out hb)
      replace BK488 := Aside0.mk (bb BK488.out hb)
      replace HB := Aside0.mk (bs HB.out hb)
      (try clear hb)
      (try clear hb2)
      (try clear hk)
      (try clear hi)
      refine hK.out _ _ ⟨(blk_cell BK478.out 0).trans rfl, (blk_cell BK479.out 0).trans rfl, (blk_cell BK480.out 0).trans rfl, (blk_cell BK488.out 0).trans rfl⟩ (fun hHeld => ?_)
      clear hK K
      refine norm_ (a' := ?_) ?_ ?_
      rotate_left
      · show Act.put _ (some 29) _ = _
        simp only [Act.put, List.setIfInBounds_toArray, List.set_cons_zero, List.set_cons_succ, i64_w, i32_w]
        rfl
      refine pure_ (i := 1) (N := some 30) (v := ?_) (a' := ?_) (fl 2 90 []) rfl rfl (any_of HT_.out (by kernel_rfl)) (fun _ _ _ h => h) (Or.inl ⟨by rfl, ?_⟩) ?_ ?_
      rotate_left
      · intro w'
        go_simp
        with_reducible rfl
      rotate_left
      · simp only [Act.put, List.setIfInBounds_toArray, List.set_cons_zero, List.set_cons_succ, i64_w, i32_w]
        rfl
      refine take_ (i := 2) (N := some 31) (v := ?_) (a' := ?_) (fl 3 90 []) rfl rfl (take_ofW HT_.out HW_.out (by kernel_rfl)) (fun _ _ _ h => h) (Or.inl ⟨by rfl, ?_⟩) hHeld ?_ ?_
      rotate_left
      · rintro w' ⟨s0, s1, s2, s3⟩
        go_simp
        with_reducible rfl
      rotate_left
      · simp only [Act.put, List.setIfInBounds_toArray, List.set_cons_zero, List.set_cons_succ, i64_w, i32_w]
        rfl
      refine take_ (i := 3) (N := some 32) (v := ?_) (a' := ?_) (fl 4 90 []) rfl rfl (take_ofW HT_.out HW_.out (by kernel_rfl)) (fun _ _ _ h => h) (Or.inl ⟨by rfl, ?_⟩) hHeld ?_ ?_
      rotate_left
      · rintro w' ⟨s0, s1, s2, s3⟩
        go_simp
        with_reducible rfl
      rotate_left
      · simp only [Act.put, List.setIfInBounds_toArray, List.set_cons_zero, List.set_cons_succ, i64_w, i32_w]
        rfl
      refine take_ (i := 5) (N := some 34) (v := ?_) (a' := ?_) (fl 4 90 [5]) rfl rfl (take_ofW HT_.out HW_.out (by kernel_rfl)) (fun _ _ _ h => h) (Or.inl ⟨by rfl, ?_⟩) hHeld ?_ ?_
      rotate_left
      · rintro w' ⟨s0, s1, s2, s3⟩
        go_simp
        with_reducible rfl
      rotate_left
      · simp only [Act.put, List.setIfInBounds_toArray, List.set_cons_zero, List.set_cons_succ, i64_w, i32_w]
        rfl
      refine take_ (i := 6) (N := some 35) (v := ?_) (a' := ?_) (fl 4 90 [5, 6]) rfl rfl (take_ofW HT_.out HW_.out (by kernel_rfl)) (fun _ _ _ h => h) (Or.inl ⟨by rfl, ?_⟩) hHeld ?_ ?_
      rotate_left
      · rintro w' ⟨s0, s1, s2, s3⟩
        go_simp
        with_reducible rfl
      rotate_left
      · simp only [Act.put, List.setIfInBounds_toArray, List.set_cons_zero, List.set_cons_succ, i64_w, i32_w]
        rfl
      refine one_ (i := 4) (N := some 33) (fl 7 90 []) rfl rfl (one_of HT_.out (by kernel_rfl)) (by decide) (fun K hK => ?_)
      refine goes_ Try.func25 (by kernel_rfl) rfl #[.agg #[.slice Ao62 t463.length co62], .agg #[.slice Ao66 t469.length co66]] (by rfl) rfl rfl (by (try simp only [List.map_toArray, List.map_cons, List.map_nil]); first | done | rfl | (simp only [List.length_drop, List.length_take]; rfl)) ?_
      with_reducible refine (nat_Nat_Add.calls k _ _ t463 _ _ t469 t490 _ ?side1 ?side2 ?side3 ?side4 A14.out).mono ?_
      (case side1 => exact cv HO465.out)
      (case side2 => exact (Kd.V_reads' HO465.out).2.1)
      (case side3 => exact cv HO471.out)
      (case side4 => exact (Kd.V_reads' HO471.out).2.1)
      rintro e w83 ⟨v491, rfl, ho0, hb⟩
      refine ⟨_, rfl, ?_⟩
      replace HO462 := Aside0.mk (vb HO462.out hb)
      replace HO465 := Aside0.mk (vb HO465.out hb)
      replace HO468 := Aside0.mk (vb HO468.out hb)
      replace HO471 := Aside0.mk (vb HO471.out hb)
      replace HO474 := Aside0.mk (vb HO474.out hb)
      replace HO477 := Aside0.mk (vb HO477.out hb)
      replace HO483 := Aside0.mk (vb HO483.out hb)
      replace HO486 := Aside0.mk (vb HO486.out hb)
      have HO492 := Aside0.mk (Kd.V_lower (Kd.V_mono (ok' := fun k_ => k_ ≠ gb478 ∧ k_ ≠ gb479 ∧ k_ ≠ gb480 ∧ k_ ≠ gb488) ho0 (fun k_ hk_ => ⟨(fb BK478.out k_ hk_), (fb BK479.out k_ hk_), (fb BK480.out k_ hk_), (fb BK488.out k_ hk_)⟩)) (bz HB.out))
      replace BK478 := Aside0.mk (bb BK478.out hb)
      replace BK479 := Aside0.mk (bb BK479.out hb)
      replace BK480 := Aside0.mk (bb BK480.out hb)
      replace BK488 := Aside0.mk (bb BK488.out hb)
      replace HB := Aside0.mk (bs HB.out hb)
      (try clear hb)
      (try clear hb2)
      (try clear hk)
      (try clear hi)
      (try clear ho0)
      refine hK.out _ _ ⟨(blk_cell BK478.out 0).trans rfl, (blk_cell BK479.out 0).trans rfl, (blk_cell BK480.out 0).trans rfl, (blk_cell BK488.out 0).trans rfl⟩ (fun hHeld => ?_)
      clear hK K
      refine norm_ (a' := ?_) ?_ ?_
      rotate_left
      · show Act.put _ (some 33) _ = _
        simp only [Act.put, List.setIfInBounds_toArray, List.set_cons_zero, List.set_cons_succ, i64_w, i32_w]
        rfl
      refine one_ (i := 7) (N := some 36) (fl 8 90 []) rfl rfl (one_of HT_.out (by kernel_rfl)) (by decide) (fun K hK => ?_)
      refine goes_ Try.func25 (by kernel_rfl) rfl #[.agg #[.slice Ao66 t469.length co66], .agg #[.slice Ao62 t463.length co62]] (by rfl) rfl rfl (by (try simp only [List.map_toArray, List.map_cons, List.map_nil]); first | done | rfl | (simp only [List.length_drop, List.length_take]; rfl)) ?_
      with_reducible refine (nat_Nat_Add.calls k _ _ t469 _ _ t463 t493 _ ?side1 ?side2 ?side3 ?side4 A15.out).mono ?_
      (case side1 => exact cv HO471.out)
      (case side2 => exact (Kd.V_reads' HO471.out).2.1)
      (case side3 => exact cv HO465.out)
      (case side4 => exact (Kd.V_reads' HO465.out).2.1)
      rintro e w84 ⟨v494, rfl, ho0, hb⟩
      refine ⟨_, rfl, ?_⟩
      replace HO462 := Aside0.mk (vb HO462.out hb)
      replace HO465 := Aside0.mk (vb HO465.out hb)
      replace HO468 := Aside0.mk (vb HO468.out hb)
      replace HO471 := Aside0.mk (vb HO471.out hb)
      replace HO474 := Aside0.mk (vb HO474.out hb)
      replace HO477 := Aside0.mk (vb HO477.out hb)
      replace HO483 := Aside0.mk (vb HO483.out hb)
      replace HO486 := Aside0.mk (vb HO486.out hb)
      replace HO492 := Aside0.mk (vb HO492.out hb)
      have HO495 := Aside0.mk (Kd.V_lower (Kd.V_mono (ok' := fun k_ => k_ ≠ gb478 ∧ k_ ≠ gb479 ∧ k_ ≠ gb480 ∧ k_ ≠ gb488) ho0 (fun k_ hk_ => ⟨(fb BK478.out k_ hk_), (fb BK479.out k_ hk_), (fb BK480.out k_ hk_), (fb BK488.out k_ hk_)⟩)) (bz HB.out))
      replace BK478 := Aside0.mk (bb BK478.out hb)
      replace BK479 := Aside0.mk (bb BK479.out hb)
      replace BK480 := Aside0.mk (bb BK480.out hb)
      replace BK488 := Aside0.mk (bb BK488.out hb)
      replace HB := Aside0.mk (bs HB.out hb)
      (try clear hb)
      (try clear hb2)
      (try clear hk)
      (try clear hi)
      (try clear ho0)
      obtain ⟨Ao85, co85, eo85⟩ := Kd.V_slice HO492.out
      (first | subst eo85 | (injection eo85 with f1_ f2_ f3_; have f4_ := f1_.symm; have f5_ := f3_.symm; clear f1_ f2_ f3_; subst f4_; subst f5_))
      obtain ⟨Ao86, co86, eo86⟩ := Kd.V_slice HO495.out
      (first | subst eo86 | (injection eo86 with f1_ f2_ f3_; have f4_ := f1_.symm; have f5_ := f3_.symm; clear f1_ f2_ f3_; subst f4_; subst f5_))
      refine hK.out _ _ ⟨(blk_cell BK478.out 0).trans rfl, (blk_cell BK479.out 0).trans rfl, (blk_cell BK480.out 0).trans rfl, (blk_cell BK488.out 0).trans rfl⟩ (fun hHeld => ?_)
      clear hK K
      refine norm_ (a' := ?_) ?_ ?_
      rotate_left
      · show Act.put _ (some 36) _ = _
        simp only [Act.put, List.setIfInBounds_toArray, List.set_cons_zero, List.set_cons_succ, i64_w, i32_w]
        rfl
      refine one_ (i := 8) (N := some 37) (fl 9 90 []) rfl rfl (one_of HT_.out (by kernel_rfl)) (by decide) (fun K hK => ?_)
      refine goes_ Try.func21 (by kernel_rfl) rfl #[.agg #[.slice Ao85 t490.length co85], .agg #[.slice Ao86 t493.length co86]] (by rfl) rfl rfl (by (try simp only [List.map_toArray, List.map_cons, List.map_nil]); first | done | rfl | (simp only [List.length_drop, List.length_take]; rfl)) ?_
      with_reducible refine (nat_Nat_Cmp.calls k _ _ t490 _ _ t493 t496 _ ?side1 ?side2 ?side3 ?side4 A16.out).mono ?_
      (case side1 => exact cv HO492.out)
      (case side2 => exact (Kd.V_reads' HO492.out).2.1)
      (case side3 => exact cv HO495.out)
      (case side4 => exact (Kd.V_reads' HO495.out).2.1)
      rintro e w87 ⟨rfl, hb⟩
      refine ⟨_, rfl, ?_⟩
      replace HO462 := Aside0.mk (vb HO462.out hb)
      replace HO465 := Aside0.mk (vb HO465.out hb)
      replace HO468 := Aside0.mk (vb HO468.out hb)
      replace HO471 := Aside0.mk (vb HO471.out hb)
      replace HO474 := Aside0.mk (vb HO474.out hb)
      replace HO477 := Aside0.mk (vb HO477.out hb)
      replace HO483 := Aside0.mk (vb HO483.out hb)
      replace HO486 := Aside0.mk (vb HO486.out hb)
      replace HO492 := Aside0.mk (vb HO492.out hb)
      replace HO495 := Aside0.mk (vb HO495.out hb)
      replace BK478 := Aside0.mk (bb BK478.out hb)
      replace BK479 := Aside0.mk (bb BK479.out hb)
      replace BK480 := Aside0.mk (bb BK480.out hb)
      replace BK488 := Aside0.mk (bb BK488.out hb)
      replace HB := Aside0.mk (bs HB.out hb)
      (try clear hb)
      (try clear hb2)
      (try clear hk)
      (try clear hi)
      refine hK.out _ _ ⟨(blk_cell BK478.out 0).trans rfl, (blk_cell BK479.out 0).trans rfl, (blk_cell BK480.out 0).trans rfl, (blk_cell BK488.out 0).trans rfl⟩ (fun hHeld => ?_)
      clear hK K
      refine norm_ (a' := ?_) ?_ ?_
      rotate_left
      · show Act.put _ (some 37) _ = _
        simp only [Act.put, List.setIfInBounds_toArray, List.set_cons_zero, List.set_cons_succ, i64_w, i32_w]
        rfl
      refine pure_ (i := 9) (N := some 38) (v := ?_) (a' := ?_) (fl 10 90 []) rfl rfl (any_of HT_.out (by kernel_rfl)) (fun _ _ _ h => h) (Or.inl ⟨by rfl, ?_⟩) ?_ ?_
      rotate_left
      · intro w'
        go_simp
        with_reducible rfl
      rotate_left
      · simp only [Act.put, List.setIfInBounds_toArray, List.set_cons_zero, List.set_cons_succ, i64_w, i32_w]
        rfl
      refine pure_ (i := 10) (N := some 39) (v := ?_) (a' := ?_) (fl 11 90 []) rfl rfl (any_of HT_.out (by kernel_rfl)) (fun _ _ _ h => h) (Or.inl ⟨by rfl, ?_⟩) ?_ ?_
      rotate_left
      · intro w'
        go_simp
        with_reducible rfl
      rotate_left
      · simp only [Act.put, List.setIfInBounds_toArray, List.set_cons_zero, List.set_cons_succ, i64_w, i32_w]
        rfl
      refine pure_ (i := 11) (N := some 40) (v := ?_) (a' := ?_) (fl 12 90 []) rfl rfl (any_of HT_.out (by kernel_rfl)) (fun _ _ _ h => h) (Or.inl ⟨by rfl, ?_⟩) ?_ ?_
      rotate_left
      · intro w'
        go_simp
        with_reducible rfl
      rotate_left
      · simp only [Act.put, List.setIfInBounds_toArray, List.set_cons_zero, List.set_cons_succ, i64_w, i32_w]
        rfl
      refine take_ (i := 12) (N := some 41) (v := ?_) (a' := ?_) (fl 13 90 []) rfl rfl (take_ofW HT_.out HW_.out (by kernel_rfl)) (fun _ _ _ h => h) (Or.inl ⟨by rfl, ?_⟩) hHeld ?_ ?_
      rotate_left
      · rintro w' ⟨s0, s1, s2, s3⟩
        go_simp
        with_reducible rfl
      rotate_left
      · simp only [Act.put, List.setIfInBounds_toArray, List.set_cons_zero, List.set_cons_succ, i64_w, i32_w]
        rfl
      refine take_ (i := 13) (N := some 42) (v := ?_) (a' := ?_) (fl 14 90 []) rfl rfl (take_ofW HT_.out HW_.out (by kernel_rfl)) (fun _ _ _ h => h) (Or.inl ⟨by rfl, ?_⟩) hHeld ?_ ?_
      rotate_left
      · rintro w' ⟨s0, s1, s2, s3⟩
        go_simp
        with_reducible rfl
      rotate_left
      · simp only [Act.put, List.setIfInBounds_toArray, List.set_cons_zero, List.set_cons_succ, i64_w, i32_w]
        rfl
      refine take_ (i := 15) (N := some 44) (v := ?_) (a' := ?_) (fl 14 90 [15]) rfl rfl (take_ofW HT_.out HW_.out (by kernel_rfl)) (fun _ _ _ h => h) (Or.inl ⟨by rfl, ?_⟩) hHeld ?_ ?_
      rotate_left
      · rintro w' ⟨s0, s1, s2, s3⟩
        go_simp
        with_reducible rfl
      rotate_left
      · simp only [Act.put, List.setIfInBounds_toArray, List.set_cons_zero, List.set_cons_succ, i64_w, i32_w]
        rfl
      refine take_ (i := 16) (N := some 45) (v := ?_) (a' := ?_) (fl 14 90 [15, 16]) rfl rfl (take_ofW HT_.out HW_.out (by kernel_rfl)) (fun _ _ _ h => h) (Or.inl ⟨by rfl, ?_⟩) hHeld ?_ ?_
      rotate_left
      · rintro w' ⟨s0, s1, s2, s3⟩
        go_simp
        with_reducible rfl
      rotate_left
      · simp only [Act.put, List.setIfInBounds_toArray, List.set_cons_zero, List.set_cons_succ, i64_w, i32_w]
        rfl
      refine one_ (i := 14) (N := some 43) (fl 17 90 []) rfl rfl (one_of HT_.out (by kernel_rfl)) (by decide) (fun K hK => ?_)
      refine goes_ Try.func24 (by kernel_rfl) rfl #[.agg #[.slice Ao62 t463.length co62], .agg #[.slice Ao66 t469.length co66]] (by rfl) rfl rfl (by (try simp only [List.map_toArray, List.map_cons, List.map_nil]); first | done | rfl | (simp only [List.length_drop, List.length_take]; rfl)) ?_
      with_reducible refine (nat_Nat_Mul.calls k _ _ t463 _ _ t469 t497 _ ?side1 ?side2 ?side3 ?side4 A18.out).mono ?_
      (case side1 => exact cv HO465.out)
      (case side2 => exact (Kd.V_reads' HO465.out).2.1)
      (case side3 => exact cv HO471.out)
      (case side4 => exact (Kd.V_reads' HO471.out).2.1)
      rintro e w88 ⟨v498, rfl, ho0, hb⟩
      refine ⟨_, rfl, ?_⟩
      replace HO462 := Aside0.mk (vb HO462.out hb)
      replace HO465 := Aside0.mk (vb HO465.out hb)
      replace HO468 := Aside0.mk (vb HO468.out hb)
      replace HO471 := Aside0.mk (vb HO471.out hb)
      replace HO474 := Aside0.mk (vb HO474.out hb)
      replace HO477 := Aside0.mk (vb HO477.out hb)
      replace HO483 := Aside0.mk (vb HO483.out hb)
      replace HO486 := Aside0.mk (vb HO486.out hb)
      replace HO492 := Aside0.mk (vb HO492.out hb)
      replace HO495 := Aside0.mk (vb HO495.out hb)
      have HO499 := Aside0.mk (Kd.V_lower (Kd.V_mono (ok' := fun k_ => k_ ≠ gb478 ∧ k_ ≠ gb479 ∧ k_ ≠ gb480 ∧ k_ ≠ gb488) ho0 (fun k_ hk_ => ⟨(fb BK478.out k_ hk_), (fb BK479.out k_ hk_), (fb BK480.out k_ hk_), (fb BK488.out k_ hk_)⟩)) (bz HB.out))
      replace BK478 := Aside0.mk (bb BK478.out hb)
      replace BK479 := Aside0.mk (bb BK479.out hb)
      replace BK480 := Aside0.mk (bb BK480.out hb)
      replace BK488 := Aside0.mk (bb BK488.out hb)
      replace HB := Aside0.mk (bs HB.out hb)
      (try clear hb)
      (try clear hb2)
      (try clear hk)
      (try clear hi)
      (try clear ho0)
      refine hK.out _ _ ⟨(blk_cell BK478.out 0).trans rfl, (blk_cell BK479.out 0).trans rfl, (blk_cell BK480.out 0).trans rfl, (blk_cell BK488.out 0).trans rfl⟩ (fun hHeld => ?_)
      clear hK K
      refine norm_ (a' := ?_) ?_ ?_
      rotate_left
      · show Act.put _ (some 43) _ = _
        simp only [Act.put, List.setIfInBounds_toArray, List.set_cons_zero, List.set_cons_succ, i64_w, i32_w]
        rfl
      refine one_ (i := 17) (N := some 46) (fl 18 90 []) rfl rfl (one_of HT_.out (by kernel_rfl)) (by decide) (fun K hK => ?_)
      refine goes_ Try.func24 (by kernel_rfl) rfl #[.agg #[.slice Ao66 t469.length co66], .agg #[.slice Ao62 t463.length co62]] (by rfl) rfl rfl (by (try simp only [List.map_toArray, List.map_cons, List.map_nil]); first | done | rfl | (simp only [List.length_drop, List.length_take]; rfl)) ?_
      with_reducible refine (nat_Nat_Mul.calls k _ _ t469 _ _ t463 t500 _ ?side1 ?side2 ?side3 ?side4 A19.out).mono ?_
      (case side1 => exact cv HO471.out)
      (case side2 => exact (Kd.V_reads' HO471.out).2.1)
      (case side3 => exact cv HO465.out)
      (case side4 => exact (Kd.V_reads' HO465.out).2.1)
      rintro e w89 ⟨v501, rfl, ho0, hb⟩
      refine ⟨_, rfl, ?_⟩
      replace HO462 := Aside0.mk (vb HO462.out hb)
      replace HO465 := Aside0.mk (vb HO465.out hb)
      replace HO468 := Aside0.mk (vb HO468.out hb)
      replace HO471 := Aside0.mk (vb HO471.out hb)
      replace HO474 := Aside0.mk (vb HO474.out hb)
      replace HO477 := Aside0.mk (vb HO477.out hb)
      replace HO483 := Aside0.mk (vb HO483.out hb)
      replace HO486 := Aside0.mk (vb HO486.out hb)
      replace HO492 := Aside0.mk (vb HO492.out hb)
      replace HO495 := Aside0.mk (vb HO495.out hb)
      replace HO499 := Aside0.mk (vb HO499.out hb)
      have HO502 := Aside0.mk (Kd.V_lower (Kd.V_mono (ok' := fun k_ => k_ ≠ gb478 ∧ k_ ≠ gb479 ∧ k_ ≠ gb480 ∧ k_ ≠ gb488) ho0 (fun k_ hk_ => ⟨(fb BK478.out k_ hk_), (fb BK479.out k_ hk_), (fb BK480.out k_ hk_), (fb BK488.out k_ hk_)⟩)) (bz HB.out))
      replace BK478 := Aside0.mk (bb BK478.out hb)
      replace BK479 := Aside0.mk (bb BK479.out hb)
      replace BK480 := Aside0.mk (bb BK480.out hb)
      replace BK488 := Aside0.mk (bb BK488.out hb)
      replace HB := Aside0.mk (bs HB.out hb)
      (try clear hb)
      (try clear hb2)
      (try clear hk)
      (try clear hi)
      (try clear ho0)
      obtain ⟨Ao90, co90, eo90⟩ := Kd.V_slice HO499.out
      (first | subst eo90 | (injection eo90 with f1_ f2_ f3_; have f4_ := f1_.symm; have f5_ := f3_.symm; clear f1_ f2_ f3_; subst f4_; subst f5_))
      obtain ⟨Ao91, co91, eo91⟩ := Kd.V_slice HO502.out
      (first | subst eo91 | (injection eo91 with f1_ f2_ f3_; have f4_ := f1_.symm; have f5_ := f3_.symm; clear f1_ f2_ f3_; subst f4_; subst f5_))
      refine hK.out _ _ ⟨(blk_cell BK478.out 0).trans rfl, (blk_cell BK479.out 0).trans rfl, (blk_cell BK480.out 0).trans rfl, (blk_cell BK488.out 0).trans rfl⟩ (fun hHeld => ?_)
      clear hK K
      refine norm_ (a' := ?_) ?_ ?_
      rotate_left
      · show Act.put _ (some 46) _ = _
        simp only [Act.put, List.setIfInBounds_toArray, List.set_cons_zero, List.set_cons_succ, i64_w, i32_w]
        rfl
      refine one_ (i := 18) (N := some 47) (fl 19 90 []) rfl rfl (one_of HT_.out (by kernel_rfl)) (by decide) (fun K hK => ?_)
      refine goes_ Try.func21 (by kernel_rfl) rfl #[.agg #[.slice Ao90 t497.length co90], .agg #[.slice Ao91 t500.length co91]] (by rfl) rfl rfl (by (try simp only [List.map_toArray, List.map_cons, List.map_nil]); first | done | rfl | (simp only [List.length_drop, List.length_take]; rfl)) ?_
      with_reducible refine (nat_Nat_Cmp.calls k _ _ t497 _ _ t500 t503 _ ?side1 ?side2 ?side3 ?side4 A20.out).mono ?_
      (case side1 => exact cv HO499.out)
      (case side2 => exact (Kd.V_reads' HO499.out).2.1)
      (case side3 => exact cv HO502.out)
      (case side4 => exact (Kd.V_reads' HO502.out).2.1)
      rintro e w92 ⟨rfl, hb⟩
      refine ⟨_, rfl, ?_⟩
      replace HO462 := Aside0.mk (vb HO462.out hb)
      replace HO465 := Aside0.mk (vb HO465.out hb)
      replace HO468 := Aside0.mk (vb HO468.out hb)
      replace HO471 := Aside0.mk (vb HO471.out hb)
      replace HO474 := Aside0.mk (vb HO474.out hb)
      replace HO477 := Aside0.mk (vb HO477.out hb)
      replace HO483 := Aside0.mk (vb HO483.out hb)
      replace HO486 := Aside0.mk (vb HO486.out hb)
      replace HO492 := Aside0.mk (vb HO492.out hb)
      replace HO495 := Aside0.mk (vb HO495.out hb)
      replace HO499 := Aside0.mk (vb HO499.out hb)
      replace HO502 := Aside0.mk (vb HO502.out hb)
      replace BK478 := Aside0.mk (bb BK478.out hb)
      replace BK479 := Aside0.mk (bb BK479.out hb)
      replace BK480 := Aside0.mk (bb BK480.out hb)
      replace BK488 := Aside0.mk (bb BK488.out hb)
      replace HB := Aside0.mk (bs HB.out hb)
      (try clear hb)
      (try clear hb2)
      (try clear hk)
      (try clear hi)
      refine hK.out _ _ ⟨(blk_cell BK478.out 0).trans rfl, (blk_cell BK479.out 0).trans rfl, (blk_cell BK480.out 0).trans rfl, (blk_cell BK488.out 0).trans rfl⟩ (fun hHeld => ?_)
      clear hK K
      refine norm_ (a' := ?_) ?_ ?_
      rotate_left
      · show Act.put _ (some 47) _ = _
        simp only [Act.put, List.setIfInBounds_toArray, List.set_cons_zero, List.set_cons_succ, i64_w, i32_w]
        rfl
      refine pure_ (i := 19) (N := some 48) (v := ?_) (a' := ?_) (fl 20 90 []) rfl rfl (any_of HT_.out (by kernel_rfl)) (fun _ _ _ h => h) (Or.inl ⟨by rfl, ?_⟩) ?_ ?_
      rotate_left
      · intro w'
        go_simp
        with_reducible rfl
      rotate_left
      · simp only [Act.put, List.setIfInBounds_toArray, List.set_cons_zero, List.set_cons_succ, i64_w, i32_w]
        rfl
      refine pure_ (i := 20) (N := some 49) (v := ?_) (a' := ?_) (fl 21 90 []) rfl rfl (any_of HT_.out (by kernel_rfl)) (fun _ _ _ h => h) (Or.inl ⟨by rfl, ?_⟩) ?_ ?_
      rotate_left
      · intro w'
        go_simp
        with_reducible rfl
      rotate_left
      · simp only [Act.put, List.setIfInBounds_toArray, List.set_cons_zero, List.set_cons_succ, i64_w, i32_w]
        rfl
      refine pure_ (i := 21) (N := some 50) (v := ?_) (a' := ?_) (fl 22 90 []) rfl rfl (any_of HT_.out (by kernel_rfl)) (fun _ _ _ h => h) (Or.inl ⟨by rfl, ?_⟩) ?_ ?_
      rotate_left
      · intro w'
        go_simp
        with_reducible rfl
      rotate_left
      · simp only [Act.put, List.setIfInBounds_toArray, List.set_cons_zero, List.set_cons_succ, i64_w, i32_w]
        rfl
      refine take_ (i := 22) (N := some 51) (v := ?_) (a' := ?_) (fl 23 90 []) rfl rfl (take_ofW HT_.out HW_.out (by kernel_rfl)) (fun _ _ _ h => h) (Or.inl ⟨by rfl, ?_⟩) hHeld ?_ ?_
      rotate_left
      · rintro w' ⟨s0, s1, s2, s3⟩
        go_simp
        with_reducible rfl
      rotate_left
      · simp only [Act.put, List.setIfInBounds_toArray, List.set_cons_zero, List.set_cons_succ, i64_w, i32_w]
        rfl
      refine take_ (i := 23) (N := some 52) (v := ?_) (a' := ?_) (fl 24 90 []) rfl rfl (take_ofW HT_.out HW_.out (by kernel_rfl)) (fun _ _ _ h => h) (Or.inl ⟨by rfl, ?_⟩) hHeld ?_ ?_
      rotate_left
      · rintro w' ⟨s0, s1, s2, s3⟩
        go_simp
        with_reducible rfl
      rotate_left
      · simp only [Act.put, List.setIfInBounds_toArray, List.set_cons_zero, List.set_cons_succ, i64_w, i32_w]
        rfl
      refine take_ (i := 25) (N := some 54) (v := ?_) (a' := ?_) (fl 24 90 [25]) rfl rfl (take_ofW HT_.out HW_.out (by kernel_rfl)) (fun _ _ _ h => h) (Or.inl ⟨by rfl, ?_⟩) hHeld ?_ ?_
      rotate_left
      · rintro w' ⟨s0, s1, s2, s3⟩
        go_simp
        with_reducible rfl
      rotate_left
      · simp only [Act.put, List.setIfInBounds_toArray, List.set_cons_zero, List.set_cons_succ, i64_w, i32_w]
        rfl
      refine take_ (i := 27) (N := some 56) (v := ?_) (a' := ?_) (fl 24 90 [25, 27]) rfl rfl (take_ofW HT_.out HW_.out (by kernel_rfl)) (fun _ _ _ h => h) (Or.inl ⟨by rfl, ?_⟩) hHeld ?_ ?_
      rotate_left
      · rintro w' ⟨s0, s1, s2, s3⟩
        go_simp
        with_reducible rfl
      rotate_left
      · simp only [Act.put, List.setIfInBounds_toArray, List.set_cons_zero, List.set_cons_succ, i64_w, i32_w]
        rfl
      refine take_ (i := 28) (N := some 57) (v := ?_) (a' := ?_) (fl 24 90 [25, 27, 28]) rfl rfl (take_ofW HT_.out HW_.out (by kernel_rfl)) (fun _ _ _ h => h) (Or.inl ⟨by rfl, ?_⟩) hHeld ?_ ?_
      rotate_left
      · rintro w' ⟨s0, s1, s2, s3⟩
        go_simp
        with_reducible rfl
      rotate_left
      · simp only [Act.put, List.setIfInBounds_toArray, List.set_cons_zero, List.set_cons_succ, i64_w, i32_w]
        rfl
      refine take_ (i := 29) (N := some 58) (v := ?_) (a' := ?_) (fl 24 90 [25, 27, 28, 29]) rfl rfl (take_ofW HT_.out HW_.out (by kernel_rfl)) (fun _ _ _ h => h) (Or.inl ⟨by rfl, ?_⟩) hHeld ?_ ?_
      rotate_left
      · rintro w' ⟨s0, s1, s2, s3⟩
        go_simp
        with_reducible rfl
      rotate_left
      · simp only [Act.put, List.setIfInBounds_toArray, List.set_cons_zero, List.set_cons_succ, i64_w, i32_w]
        rfl
      refine one_ (i := 24) (N := some 53) (fl 26 90 [27, 28, 29]) rfl rfl (one_of HT_.out (by kernel_rfl)) (by decide) (fun K hK => ?_)
      refine goes_ Try.func25 (by kernel_rfl) rfl #[.agg #[.slice Ao62 t463.length co62], .agg #[.slice Ao66 t469.length co66]] (by rfl) rfl rfl (by (try simp only [List.map_toArray, List.map_cons, List.map_nil]); first | done | rfl | (simp only [List.length_drop, List.length_take]; rfl)) ?_
      with_reducible refine (nat_Nat_Add.calls k _ _ t463 _ _ t469 t504 _ ?side1 ?side2 ?side3 ?side4 A22.out).mono ?_
      (case side1 => exact cv HO465.out)
      (case side2 => exact (Kd.V_reads' HO465.out).2.1)
      (case side3 => exact cv HO471.out)
      (case side4 => exact (Kd.V_reads' HO471.out).2.1)
      rintro e w93 ⟨v505, rfl, ho0, hb⟩
      refine ⟨_, rfl, ?_⟩
      replace HO462 := Aside0.mk (vb HO462.out hb)
      replace HO465 := Aside0.mk (vb HO465.out hb)
      replace HO468 := Aside0.mk (vb HO468.out hb)
      replace HO471 := Aside0.mk (vb HO471.out hb)
      replace HO474 := Aside0.mk (vb HO474.out hb)
      replace HO477 := Aside0.mk (vb HO477.out hb)
      replace HO483 := Aside0.mk (vb HO483.out hb)
      replace HO486 := Aside0.mk (vb HO486.out hb)
      replace HO492 := Aside0.mk (vb HO492.out hb)
      replace HO495 := Aside0.mk (vb HO495.out hb)
      replace HO499 := Aside0.mk (vb HO499.out hb)
      replace HO502 := Aside0.mk (vb HO502.out hb)
      have HO506 := Aside0.mk (Kd.V_lower (Kd.V_mono (ok' := fun k_ => k_ ≠ gb478 ∧ k_ ≠ gb479 ∧ k_ ≠ gb480 ∧ k_ ≠ gb488) ho0 (fun k_ hk_ => ⟨(fb BK478.out k_ hk_), (fb BK479.out k_ hk_), (fb BK480.out k_ hk_), (fb BK488.out k_ hk_)⟩)) (bz HB.out))
      replace BK478 := Aside0.mk (bb BK478.out hb)
      replace BK479 := Aside0.mk (bb BK479.out hb)
      replace BK480 := Aside0.mk (bb BK480.out hb)
      replace BK488 := Aside0.mk (bb BK488.out hb)
      replace HB := Aside0.mk (bs HB.out hb)
      (try clear hb)
      (try clear hb2)
      (try clear hk)
      (try clear hi)
      (try clear ho0)
      obtain ⟨Ao94, co94, eo94⟩ := Kd.V_slice HO506.out
      (first | subst eo94 | (injection eo94 with f1_ f2_ f3_; have f4_ := f1_.symm; have f5_ := f3_.symm; clear f1_ f2_ f3_; subst f4_; subst f5_))
      refine hK.out _ _ ⟨(blk_cell BK478.out 0).trans rfl, (blk_cell BK479.out 0).trans rfl, (blk_cell BK480.out 0).trans rfl, (blk_cell BK488.out 0).trans rfl⟩ (fun hHeld => ?_)
      clear hK K
      refine norm_ (a' := ?_) ?_ ?_
      rotate_left
      · show Act.put _ (some 53) _ = _
        simp only [Act.put, List.setIfInBounds_toArray, List.set_cons_zero, List.set_cons_succ, i64_w, i32_w]
        rfl
      refine one_ (i := 26) (N := some 55) (fl 30 90 []) rfl rfl (one_of HT_.out (by kernel_rfl)) (by decide) (fun K hK => ?_)
      refine goes_ Try.func25 (by kernel_rfl) rfl #[.agg #[.slice Ao94 t504.length co94], .agg #[.slice Ao69 t475.length co69]] (by rfl) rfl rfl (by (try simp only [List.map_toArray, List.map_cons, List.map_nil]); first | done | rfl | (simp only [List.length_drop, List.length_take]; rfl)) ?_
      with_reducible refine (nat_Nat_Add.calls k _ _ t504 _ _ t475 t507 _ ?side1 ?side2 ?side3 ?side4 A23.out).mono ?_
      (case side1 => exact cv HO506.out)
      (case side2 => exact (Kd.V_reads' HO506.out).2.1)
      (case side3 => exact cv HO477.out)
      (case side4 => exact (Kd.V_reads' HO477.out).2.1)
      rintro e w95 ⟨v508, rfl, ho0, hb⟩
      refine ⟨_, rfl, ?_⟩
      replace HO462 := Aside0.mk (vb HO462.out hb)
      replace HO465 := Aside0.mk (vb HO465.out hb)
      replace HO468 := Aside0.mk (vb HO468.out hb)
      replace HO471 := Aside0.mk (vb HO471.out hb)
      replace HO474 := Aside0.mk (vb HO474.out hb)
      replace HO477 := Aside0.mk (vb HO477.out hb)
      replace HO483 := Aside0.mk (vb HO483.out hb)
      replace HO486 := Aside0.mk (vb HO486.out hb)
      replace HO492 := Aside0.mk (vb HO492.out hb)
      replace HO495 := Aside0.mk (vb HO495.out hb)
      replace HO499 := Aside0.mk (vb HO499.out hb)
      replace HO502 := Aside0.mk (vb HO502.out hb)
      replace HO506 := Aside0.mk (vb HO506.out hb)
      have HO509 := Aside0.mk (Kd.V_lower (Kd.V_mono (ok' := fun k_ => k_ ≠ gb478 ∧ k_ ≠ gb479 ∧ k_ ≠ gb480 ∧ k_ ≠ gb488) ho0 (fun k_ hk_ => ⟨(fb BK478.out k_ hk_), (fb BK479.out k_ hk_), (fb BK480.out k_ hk_), (fb BK488.out k_ hk_)⟩)) (bz HB.out))
      replace BK478 := Aside0.mk (bb BK478.out hb)
      replace BK479 := Aside0.mk (bb BK479.out hb)
      replace BK480 := Aside0.mk (bb BK480.out hb)
      replace BK488 := Aside0.mk (bb BK488.out hb)
      replace HB := Aside0.mk (bs HB.out hb)
      (try clear hb)
      (try clear hb2)
      (try clear hk)
      (try clear hi)
      (try clear ho0)
      refine hK.out _ _ ⟨(blk_cell BK478.out 0).trans rfl, (blk_cell BK479.out 0).trans rfl, (blk_cell BK480.out 0).trans rfl, (blk_cell BK488.out 0).trans rfl⟩ (fun hHeld => ?_)
      clear hK K
      refine norm_ (a' := ?_) ?_ ?_
      rotate_left
      · show Act.put _ (some 55) _ = _
        simp only [Act.put, List.setIfInBounds_toArray, List.set_cons_zero, List.set_cons_succ, i64_w, i32_w]
        rfl
      refine one_ (i := 30) (N := some 59) (fl 31 90 []) rfl rfl (one_of HT_.out (by kernel_rfl)) (by decide) (fun K hK => ?_)
      refine goes_ Try.func25 (by kernel_rfl) rfl #[.agg #[.slice Ao66 t469.length co66], .agg #[.slice Ao69 t475.length co69]] (by rfl) rfl rfl (by (try simp only [List.map_toArray, List.map_cons, List.map_nil]); first | done | rfl | (simp only [List.length_drop, List.length_take]; rfl)) ?_
      with_reducible refine (nat_Nat_Add.calls k _ _ t469 _ _ t475 t510 _ ?side1 ?side2 ?side3 ?side4 A24.out).mono ?_
      (case side1 => exact cv HO471.out)
      (case side2 => exact (Kd.V_reads' HO471.out).2.1)
      (case side3 => exact cv HO477.out)
      (case side4 => exact (Kd.V_reads' HO477.out).2.1)
      rintro e w96 ⟨v511, rfl, ho0, hb⟩
      refine ⟨_, rfl, ?_⟩
      replace HO462 := Aside0.mk (vb HO462.out hb)
      replace HO465 := Aside0.mk (vb HO465.out hb)
      replace HO468 := Aside0.mk (vb HO468.out hb)
      replace HO471 := Aside0.mk (vb HO471.out hb)
      replace HO474 := Aside0.mk (vb HO474.out hb)
      replace HO477 := Aside0.mk (vb HO477.out hb)
      replace HO483 := Aside0.mk (vb HO483.out hb)
      replace HO486 := Aside0.mk (vb HO486.out hb)
      replace HO492 := Aside0.mk (vb HO492.out hb)
      replace HO495 := Aside0.mk (vb HO495.out hb)
      replace HO499 := Aside0.mk (vb HO499.out hb)
      replace HO502 := Aside0.mk (vb HO502.out hb)
      replace HO506 := Aside0.mk (vb HO506.out hb)
      replace HO509 := Aside0.mk (vb HO509.out hb)
      have HO512 := Aside0.mk (Kd.V_lower (Kd.V_mono (ok' := fun k_ => k_ ≠ gb478 ∧ k_ ≠ gb479 ∧ k_ ≠ gb480 ∧ k_ ≠ gb488) ho0 (fun k_ hk_ => ⟨(fb BK478.out k_ hk_), (fb BK479.out k_ hk_), (fb BK480.out k_ hk_), (fb BK488.out k_ hk_)⟩)) (bz HB.out))
      replace BK478 := Aside0.mk (bb BK478.out hb)
      replace BK479 := Aside0.mk (bb BK479.out hb)
      replace BK480 := Aside0.mk (bb BK480.out hb)
      replace BK488 := Aside0.mk (bb BK488.out hb)
      replace HB := Aside0.mk (bs HB.out hb)
      (try clear hb)
      (try clear hb2)
      (try clear hk)
      (try clear hi)
      (try clear ho0)
      obtain ⟨Ao97, co97, eo97⟩ := Kd.V_slice HO512.out
      (first | subst eo97 | (injection eo97 with f1_ f2_ f3_; have f4_ := f1_.symm; have f5_ := f3_.symm; clear f1_ f2_ f3_; subst f4_; subst f5_))
      refine hK.out _ _ ⟨(blk_cell BK478.out 0).trans rfl, (blk_cell BK479.out 0).trans rfl, (blk_cell BK480.out 0).trans rfl, (blk_cell BK488.out 0).trans rfl⟩ (fun hHeld => ?_)
      clear hK K
      refine norm_ (a' := ?_) ?_ ?_
      rotate_left
      · show Act.put _ (some 59) _ = _
        simp only [Act.put, List.setIfInBounds_toArray, List.set_cons_zero, List.set_cons_succ, i64_w, i32_w]
        rfl
      refine one_ (i := 31) (N := some 60) (fl 32 90 []) rfl rfl (one_of HT_.out (by kernel_rfl)) (by decide) (fun K hK => ?_)
      refine goes_ Try.func25 (by kernel_rfl) rfl #[.agg #[.slice Ao62 t463.length co62], .agg #[.slice Ao97 t510.length co97]] (by rfl) rfl rfl (by (try simp only [List.map_toArray, List.map_cons, List.map_nil]); first | done | rfl | (simp only [List.length_drop, List.length_take]; rfl)) ?_
      with_reducible refine (nat_Nat_Add.calls k _ _ t463 _ _ t510 t513 _ ?side1 ?side2 ?side3 ?side4 A25.out).mono ?_
      (case side1 => exact cv HO465.out)
      (case side2 => exact (Kd.V_reads' HO465.out).2.1)
      (case side3 => exact cv HO512.out)
      (case side4 => exact (Kd.V_reads' HO512.out).2.1)
      rintro e w98 ⟨v514, rfl, ho0, hb⟩
      refine ⟨_, rfl, ?_⟩
      replace HO462 := Aside0.mk (vb HO462.out hb)
      replace HO465 := Aside0.mk (vb HO465.out hb)
      replace HO468 := Aside0.mk (vb HO468.out hb)
      replace HO471 := Aside0.mk (vb HO471.out hb)
      replace HO474 := Aside0.mk (vb HO474.out hb)
      replace HO477 := Aside0.mk (vb HO477.out hb)
      replace HO483 := Aside0.mk (vb HO483.out hb)
      replace HO486 := Aside0.mk (vb HO486.out hb)
      replace HO492 := Aside0.mk (vb HO492.out hb)
      replace HO495 := Aside0.mk (vb HO495.out hb)
      replace HO499 := Aside0.mk (vb HO499.out hb)
      replace HO502 := Aside0.mk (vb HO502.out hb)
      replace HO506 := Aside0.mk (vb HO506.out hb)
      replace HO509 := Aside0.mk (vb HO509.out hb)
      replace HO512 := Aside0.mk (vb HO512.out hb)
      have HO515 := Aside0.mk (Kd.V_lower (Kd.V_mono (ok' := fun k_ => k_ ≠ gb478 ∧ k_ ≠ gb479 ∧ k_ ≠ gb480 ∧ k_ ≠ gb488) ho0 (fun k_ hk_ => ⟨(fb BK478.out k_ hk_), (fb BK479.out k_ hk_), (fb BK480.out k_ hk_), (fb BK488.out k_ hk_)⟩)) (bz HB.out))
      replace BK478 := Aside0.mk (bb BK478.out hb)
      replace BK479 := Aside0.mk (bb BK479.out hb)
      replace BK480 := Aside0.mk (bb BK480.out hb)
      replace BK488 := Aside0.mk (bb BK488.out hb)
      replace HB := Aside0.mk (bs HB.out hb)
      (try clear hb)
      (try clear hb2)
      (try clear hk)
      (try clear hi)
      (try clear ho0)
      obtain ⟨Ao99, co99, eo99⟩ := Kd.V_slice HO509.out
      (first | subst eo99 | (injection eo99 with f1_ f2_ f3_; have f4_ := f1_.symm; have f5_ := f3_.symm; clear f1_ f2_ f3_; subst f4_; subst f5_))
      obtain ⟨Ao100, co100, eo100⟩ := Kd.V_slice HO515.out
      (first | subst eo100 | (injection eo100 with f1_ f2_ f3_; have f4_ := f1_.symm; have f5_ := f3_.symm; clear f1_ f2_ f3_; subst f4_; subst f5_))
      refine hK.out _ _ ⟨(blk_cell BK478.out 0).trans rfl, (blk_cell BK479.out 0).trans rfl, (blk_cell BK480.out 0).trans rfl, (blk_cell BK488.out 0).trans rfl⟩ (fun hHeld => ?_)
      clear hK K
      refine norm_ (a' := ?_) ?_ ?_
      rotate_left
      · show Act.put _ (some 60) _ = _
        simp only [Act.put, List.setIfInBounds_toArray, List.set_cons_zero, List.set_cons_succ, i64_w, i32_w]
        rfl
      refine one_ (i := 32) (N := some 61) (fl 33 90 []) rfl rfl (one_of HT_.out (by kernel_rfl)) (by decide) (fun K hK => ?_)
      refine goes_ Try.func21 (by kernel_rfl) rfl #[.agg #[.slice Ao99 t507.length co99], .agg #[.slice Ao100 t513.length co100]] (by rfl) rfl rfl (by (try simp only [List.map_toArray, List.map_cons, List.map_nil]); first | done | rfl | (simp only [List.length_drop, List.length_take]; rfl)) ?_
      with_reducible refine (nat_Nat_Cmp.calls k _ _ t507 _ _ t513 t516 _ ?side1 ?side2 ?side3 ?side4 A26.out).mono ?_
      (case side1 => exact cv HO509.out)
      (case side2 => exact (Kd.V_reads' HO509.out).2.1)
      (case side3 => exact cv HO515.out)
      (case side4 => exact (Kd.V_reads' HO515.out).2.1)
      rintro e w101 ⟨rfl, hb⟩
      refine ⟨_, rfl, ?_⟩
      replace HO462 := Aside0.mk (vb HO462.out hb)
      replace HO465 := Aside0.mk (vb HO465.out hb)
      replace HO468 := Aside0.mk (vb HO468.out hb)
      replace HO471 := Aside0.mk (vb HO471.out hb)
      replace HO474 := Aside0.mk (vb HO474.out hb)
      replace HO477 := Aside0.mk (vb HO477.out hb)
      replace HO483 := Aside0.mk (vb HO483.out hb)
      replace HO486 := Aside0.mk (vb HO486.out hb)
      replace HO492 := Aside0.mk (vb HO492.out hb)
      replace HO495 := Aside0.mk (vb HO495.out hb)
      replace HO499 := Aside0.mk (vb HO499.out hb)
      replace HO502 := Aside0.mk (vb HO502.out hb)
      replace HO506 := Aside0.mk (vb HO506.out hb)
      replace HO509 := Aside0.mk (vb HO509.out hb)
      replace HO512 := Aside0.mk (vb HO512.out hb)
      replace HO515 := Aside0.mk (vb HO515.out hb)
      replace BK478 := Aside0.mk (bb BK478.out hb)
      replace BK479 := Aside0.mk (bb BK479.out hb)
      replace BK480 := Aside0.mk (bb BK480.out hb)
      replace BK488 := Aside0.mk (bb BK488.out hb)
      replace HB := Aside0.mk (bs HB.out hb)
      (try clear hb)
      (try clear hb2)
      (try clear hk)
      (try clear hi)
      refine hK.out _ _ ⟨(blk_cell BK478.out 0).trans rfl, (blk_cell BK479.out 0).trans rfl, (blk_cell BK480.out 0).trans rfl, (blk_cell BK488.out 0).trans rfl⟩ (fun hHeld => ?_)
      clear hK K
      refine norm_ (a' := ?_) ?_ ?_
      rotate_left
      · show Act.put _ (some 61) _ = _
        simp only [Act.put, List.setIfInBounds_toArray, List.set_cons_zero, List.set_cons_succ, i64_w, i32_w]
        rfl
      refine pure_ (i := 33) (N := some 62) (v := ?_) (a' := ?_) (fl 34 90 []) rfl rfl (any_of HT_.out (by kernel_rfl)) (fun _ _ _ h => h) (Or.inl ⟨by rfl, ?_⟩) ?_ ?_
      rotate_left
      · intro w'
        go_simp
        with_reducible rfl
      rotate_left
      · simp only [Act.put, List.setIfInBounds_toArray, List.set_cons_zero, List.set_cons_succ, i64_w, i32_w]
        rfl
      refine pure_ (i := 34) (N := some 63) (v := ?_) (a' := ?_) (fl 35 90 []) rfl rfl (any_of HT_.out (by kernel_rfl)) (fun _ _ _ h => h) (Or.inl ⟨by rfl, ?_⟩) ?_ ?_
      rotate_left
      · intro w'
        go_simp
        with_reducible rfl
      rotate_left
      · simp only [Act.put, List.setIfInBounds_toArray, List.set_cons_zero, List.set_cons_succ, i64_w, i32_w]
        rfl
      refine pure_ (i := 35) (N := some 64) (v := ?_) (a' := ?_) (fl 36 90 []) rfl rfl (any_of HT_.out (by kernel_rfl)) (fun _ _ _ h => h) (Or.inl ⟨by rfl, ?_⟩) ?_ ?_
      rotate_left
      · intro w'
        go_simp
        with_reducible rfl
      rotate_left
      · simp only [Act.put, List.setIfInBounds_toArray, List.set_cons_zero, List.set_cons_succ, i64_w, i32_w]
        rfl
      refine take_ (i := 36) (N := some 65) (v := ?_) (a' := ?_) (fl 37 90 []) rfl rfl (take_ofW HT_.out HW_.out (by kernel_rfl)) (fun _ _ _ h => h) (Or.inl ⟨by rfl, ?_⟩) hHeld ?_ ?_
      rotate_left
      · rintro w' ⟨s0, s1, s2, s3⟩
        go_simp
        with_reducible rfl
      rotate_left
      · simp only [Act.put, List.setIfInBounds_toArray, List.set_cons_zero, List.set_cons_succ, i64_w, i32_w]
        rfl
      refine take_ (i := 37) (N := some 66) (v := ?_) (a' := ?_) (fl 38 90 []) rfl rfl (take_ofW HT_.out HW_.out (by kernel_rfl)) (fun _ _ _ h => h) (Or.inl ⟨by rfl, ?_⟩) hHeld ?_ ?_
      rotate_left
      · rintro w' ⟨s0, s1, s2, s3⟩
        go_simp
        with_reducible rfl
      rotate_left
      · simp only [Act.put, List.setIfInBounds_toArray, List.set_cons_zero, List.set_cons_succ, i64_w, i32_w]
        rfl
      refine take_ (i := 39) (N := some 68) (v := ?_) (a' := ?_) (fl 38 90 [39]) rfl rfl (take_ofW HT_.out HW_.out (by kernel_rfl)) (fun _ _ _ h => h) (Or.inl ⟨by rfl, ?_⟩) hHeld ?_ ?_
      rotate_left
      · rintro w' ⟨s0, s1, s2, s3⟩
        go_simp
        with_reducible rfl
      rotate_left
      · simp only [Act.put, List.setIfInBounds_toArray, List.set_cons_zero, List.set_cons_succ, i64_w, i32_w]
        rfl
      refine take_ (i := 41) (N := some 70) (v := ?_) (a' := ?_) (fl 38 90 [39, 41]) rfl rfl (take_ofW HT_.out HW_.out (by kernel_rfl)) (fun _ _ _ h => h) (Or.inl ⟨by rfl, ?_⟩) hHeld ?_ ?_
      rotate_left
      · rintro w' ⟨s0, s1, s2, s3⟩
        go_simp
        with_reducible rfl
      rotate_left
      · simp only [Act.put, List.setIfInBounds_toArray, List.set_cons_zero, List.set_cons_succ, i64_w, i32_w]
        rfl
      refine take_ (i := 42) (N := some 71) (v := ?_) (a' := ?_) (fl 38 90 [39, 41, 42]) rfl rfl (take_ofW HT_.out HW_.out (by kernel_rfl)) (fun _ _ _ h => h) (Or.inl ⟨by rfl, ?_⟩) hHeld ?_ ?_
      rotate_left
      · rintro w' ⟨s0, s1, s2, s3⟩
        go_simp
        with_reducible rfl
      rotate_left
      · simp only [Act.put, List.setIfInBounds_toArray, List.set_cons_zero, List.set_cons_succ, i64_w, i32_w]
        rfl
      refine take_ (i := 43) (N := some 72) (v := ?_) (a' := ?_) (fl 38 90 [39, 41, 42, 43]) rfl rfl (take_ofW HT_.out HW_.out (by kernel_rfl)) (fun _ _ _ h => h) (Or.inl ⟨by rfl, ?_⟩) hHeld ?_ ?_
      rotate_left
      · rintro w' ⟨s0, s1, s2, s3⟩
        go_simp
        with_reducible rfl
      rotate_left
      · simp only [Act.put, List.setIfInBounds_toArray, List.set_cons_zero, List.set_cons_succ, i64_w, i32_w]
        rfl
      refine one_ (i := 38) (N := some 67) (fl 40 90 [41, 42, 43]) rfl rfl (one_of HT_.out (by kernel_rfl)) (by decide) (fun K hK => ?_)
      refine goes_ Try.func24 (by kernel_rfl) rfl #[.agg #[.slice Ao62 t463.length co62], .agg #[.slice Ao66 t469.length co66]] (by rfl) rfl rfl (by (try simp only [List.map_toArray, List.map_cons, List.map_nil]); first | done | rfl | (simp only [List.length_drop, List.length_take]; rfl)) ?_
      with_reducible refine (nat_Nat_Mul.calls k _ _ t463 _ _ t469 t517 _ ?side1 ?side2 ?side3 ?side4 A28.out).mono ?_
      (case side1 => exact cv HO465.out)
      (case side2 => exact (Kd.V_reads' HO465.out).2.1)
      (case side3 => exact cv HO471.out)
      (case side4 => exact (Kd.V_reads' HO471.out).2.1)
      rintro e w102 ⟨v518, rfl, ho0, hb⟩
      refine ⟨_, rfl, ?_⟩
      replace HO462 := Aside0.mk (vb HO462.out hb)
      replace HO465 := Aside0.mk (vb HO465.out hb)
      replace HO468 := Aside0.mk (vb HO468.out hb)
      replace HO471 := Aside0.mk (vb HO471.out hb)
      replace HO474 := Aside0.mk (vb HO474.out hb)
      replace HO477 := Aside0.mk (vb HO477.out hb)
      replace HO483 := Aside0.mk (vb HO483.out hb)
      replace HO486 := Aside0.mk (vb HO486.out hb)
      replace HO492 := Aside0.mk (vb HO492.out hb)
      replace HO495 := Aside0.mk (vb HO495.out hb)
      replace HO499 := Aside0.mk (vb HO499.out hb)
      replace HO502 := Aside0.mk (vb HO502.out hb)
      replace HO506 := Aside0.mk (vb HO506.out hb)
      replace HO509 := Aside0.mk (vb HO509.out hb)
      replace HO512 := Aside0.mk (vb HO512.out hb)
      replace HO515 := Aside0.mk (vb HO515.out hb)
      have HO519 := Aside0.mk (Kd.V_lower (Kd.V_mono (ok' := fun k_ => k_ ≠ gb478 ∧ k_ ≠ gb479 ∧ k_ ≠ gb480 ∧ k_ ≠ gb488) ho0 (fun k_ hk_ => ⟨(fb BK478.out k_ hk_), (fb BK479.out k_ hk_), (fb BK480.out k_ hk_), (fb BK488.out k_ hk_)⟩)) (bz HB.out))
      replace BK478 := Aside0.mk (bb BK478.out hb)
      replace BK479 := Aside0.mk (bb BK479.out hb)
      replace BK480 := Aside0.mk (bb BK480.out hb)
      replace BK488 := Aside0.mk (bb BK488.out hb)
      replace HB := Aside0.mk (bs HB.out hb)
      (try clear hb)
      (try clear hb2)
      (try clear hk)
      (try clear hi)
      (try clear ho0)
      obtain ⟨Ao103, co103, eo103⟩ := Kd.V_slice HO519.out
      (first | subst eo103 | (injection eo103 with f1_ f2_ f3_; have f4_ := f1_.symm; have f5_ := f3_.symm; clear f1_ f2_ f3_; subst f4_; subst f5_))
      refine hK.out _ _ ⟨(blk_cell BK478.out 0).trans rfl, (blk_cell BK479.out 0).trans rfl, (blk_cell BK480.out 0).trans rfl, (blk_cell BK488.out 0).trans rfl⟩ (fun hHeld => ?_)
      clear hK K
      refine norm_ (a' := ?_) ?_ ?_
      rotate_left
      · show Act.put _ (some 67) _ = _
        simp only [Act.put, List.setIfInBounds_toArray, List.set_cons_zero, List.set_cons_succ, i64_w, i32_w]
        rfl
      refine one_ (i := 40) (N := some 69) (fl 44 90 []) rfl rfl (one_of HT_.out (by kernel_rfl)) (by decide) (fun K hK => ?_)
      refine goes_ Try.func24 (by kernel_rfl) rfl #[.agg #[.slice Ao103 t517.length co103], .agg #[.slice Ao69 t475.length co69]] (by rfl) rfl rfl (by (try simp only [List.map_toArray, List.map_cons, List.map_nil]); first | done | rfl | (simp only [List.length_drop, List.length_take]; rfl)) ?_
      with_reducible refine (nat_Nat_Mul.calls k _ _ t517 _ _ t475 t520 _ ?side1 ?side2 ?side3 ?side4 A29.out).mono ?_
      (case side1 => exact cv HO519.out)
      (case side2 => exact (Kd.V_reads' HO519.out).2.1)
      (case side3 => exact cv HO477.out)
      (case side4 => exact (Kd.V_reads' HO477.out).2.1)
      rintro e w104 ⟨v521, rfl, ho0, hb⟩
      refine ⟨_, rfl, ?_⟩
      replace HO462 := Aside0.mk (vb HO462.out hb)
      replace HO465 := Aside0.mk (vb HO465.out hb)
      replace HO468 := Aside0.mk (vb HO468.out hb)
      replace HO471 := Aside0.mk (vb HO471.out hb)
      replace HO474 := Aside0.mk (vb HO474.out hb)
      replace HO477 := Aside0.mk (vb HO477.out hb)
      replace HO483 := Aside0.mk (vb HO483.out hb)
      replace HO486 := Aside0.mk (vb HO486.out hb)
      replace HO492 := Aside0.mk (vb HO492.out hb)
      replace HO495 := Aside0.mk (vb HO495.out hb)
      replace HO499 := Aside0.mk (vb HO499.out hb)
      replace HO502 := Aside0.mk (vb HO502.out hb)
      replace HO506 := Aside0.mk (vb HO506.out hb)
      replace HO509 := Aside0.mk (vb HO509.out hb)
      replace HO512 := Aside0.mk (vb HO512.out hb)
      replace HO515 := Aside0.mk (vb HO515.out hb)
      replace HO519 := Aside0.mk (vb HO519.out hb)
      have HO522 := Aside0.mk (Kd.V_lower (Kd.V_mono (ok' := fun k_ => k_ ≠ gb478 ∧ k_ ≠ gb479 ∧ k_ ≠ gb480 ∧ k_ ≠ gb488) ho0 (fun k_ hk_ => ⟨(fb BK478.out k_ hk_), (fb BK479.out k_ hk_), (fb BK480.out k_ hk_), (fb BK488.out k_ hk_)⟩)) (bz HB.out))
      replace BK478 := Aside0.mk (bb BK478.out hb)
      replace BK479 := Aside0.mk (bb BK479.out hb)
      replace BK480 := Aside0.mk (bb BK480.out hb)
      replace BK488 := Aside0.mk (bb BK488.out hb)
      replace HB := Aside0.mk (bs HB.out hb)
      (try clear hb)
      (try clear hb2)
      (try clear hk)
      (try clear hi)
      (try clear ho0)
      refine hK.out _ _ ⟨(blk_cell BK478.out 0).trans rfl, (blk_cell BK479.out 0).trans rfl, (blk_cell BK480.out 0).trans rfl, (blk_cell BK488.out 0).trans rfl⟩ (fun hHeld => ?_)
      clear hK K
      refine norm_ (a' := ?_) ?_ ?_
      rotate_left
      · show Act.put _ (some 69) _ = _
        simp only [Act.put, List.setIfInBounds_toArray, List.set_cons_zero, List.set_cons_succ, i64_w, i32_w]
        rfl
      refine one_ (i := 44) (N := some 73) (fl 45 90 []) rfl rfl (one_of HT_.out (by kernel_rfl)) (by decide) (fun K hK => ?_)
      refine goes_ Try.func24 (by kernel_rfl) rfl #[.agg #[.slice Ao66 t469.length co66], .agg #[.slice Ao69 t475.length co69]] (by rfl) rfl rfl (by (try simp only [List.map_toArray, List.map_cons, List.map_nil]); first | done | rfl | (simp only [List.length_drop, List.length_take]; rfl)) ?_
      with_reducible refine (nat_Nat_Mul.calls k _ _ t469 _ _ t475 t523 _ ?side1 ?side2 ?side3 ?side4 A30.out).mono ?_
      (case side1 => exact cv HO471.out)
      (case side2 => exact (Kd.V_reads' HO471.out).2.1)
      (case side3 => exact cv HO477.out)
      (case side4 => exact (Kd.V_reads' HO477.out).2.1)
      rintro e w105 ⟨v524, rfl, ho0, hb⟩
      refine ⟨_, rfl, ?_⟩
      replace HO462 := Aside0.mk (vb HO462.out hb)
      replace HO465 := Aside0.mk (vb HO465.out hb)
      replace HO468 := Aside0.mk (vb HO468.out hb)
      replace HO471 := Aside0.mk (vb HO471.out hb)
      replace HO474 := Aside0.mk (vb HO474.out hb)
      replace HO477 := Aside0.mk (vb HO477.out hb)
      replace HO483 := Aside0.mk (vb HO483.out hb)
      replace HO486 := Aside0.mk (vb HO486.out hb)
      replace HO492 := Aside0.mk (vb HO492.out hb)
      replace HO495 := Aside0.mk (vb HO495.out hb)
      replace HO499 := Aside0.mk (vb HO499.out hb)
      replace HO502 := Aside0.mk (vb HO502.out hb)
      replace HO506 := Aside0.mk (vb HO506.out hb)
      replace HO509 := Aside0.mk (vb HO509.out hb)
      replace HO512 := Aside0.mk (vb HO512.out hb)
      replace HO515 := Aside0.mk (vb HO515.out hb)
      replace HO519 := Aside0.mk (vb HO519.out hb)
      replace HO522 := Aside0.mk (vb HO522.out hb)
      have HO525 := Aside0.mk (Kd.V_lower (Kd.V_mono (ok' := fun k_ => k_ ≠ gb478 ∧ k_ ≠ gb479 ∧ k_ ≠ gb480 ∧ k_ ≠ gb488) ho0 (fun k_ hk_ => ⟨(fb BK478.out k_ hk_), (fb BK479.out k_ hk_), (fb BK480.out k_ hk_), (fb BK488.out k_ hk_)⟩)) (bz HB.out))
      replace BK478 := Aside0.mk (bb BK478.out hb)
      replace BK479 := Aside0.mk (bb BK479.out hb)
      replace BK480 := Aside0.mk (bb BK480.out hb)
      replace BK488 := Aside0.mk (bb BK488.out hb)
      replace HB := Aside0.mk (bs HB.out hb)
      (try clear hb)
      (try clear hb2)
      (try clear hk)
      (try clear hi)
      (try clear ho0)
      obtain ⟨Ao106, co106, eo106⟩ := Kd.V_slice HO525.out
      (first | subst eo106 | (injection eo106 with f1_ f2_ f3_; have f4_ := f1_.symm; have f5_ := f3_.symm; clear f1_ f2_ f3_; subst f4_; subst f5_))
      refine hK.out _ _ ⟨(blk_cell BK478.out 0).trans rfl, (blk_cell BK479.out 0).trans rfl, (blk_cell BK480.out 0).trans rfl, (blk_cell BK488.out 0).trans rfl⟩ (fun hHeld => ?_)
      clear hK K
      refine norm_ (a' := ?_) ?_ ?_
      rotate_left
      · show Act.put _ (some 73) _ = _
        simp only [Act.put, List.setIfInBounds_toArray, List.set_cons_zero, List.set_cons_succ, i64_w, i32_w]
        rfl
      refine one_ (i := 45) (N := some 74) (fl 46 90 []) rfl rfl (one_of HT_.out (by kernel_rfl)) (by decide) (fun K hK => ?_)
      refine goes_ Try.func24 (by kernel_rfl) rfl #[.agg #[.slice Ao62 t463.length co62], .agg #[.slice Ao106 t523.length co106]] (by rfl) rfl rfl (by (try simp only [List.map_toArray, List.map_cons, List.map_nil]); first | done | rfl | (simp only [List.length_drop, List.length_take]; rfl)) ?_
      with_reducible refine (nat_Nat_Mul.calls k _ _ t463 _ _ t523 t526 _ ?side1 ?side2 ?side3 ?side4 A31.out).mono ?_
      (case side1 => exact cv HO465.out)
      (case side2 => exact (Kd.V_reads' HO465.out).2.1)
      (case side3 => exact cv HO525.out)
      (case side4 => exact (Kd.V_reads' HO525.out).2.1)
      rintro e w107 ⟨v527, rfl, ho0, hb⟩
      refine ⟨_, rfl, ?_⟩
      replace HO462 := Aside0.mk (vb HO462.out hb)
      replace HO465 := Aside0.mk (vb HO465.out hb)
      replace HO468 := Aside0.mk (vb HO468.out hb)
      replace HO471 := Aside0.mk (vb HO471.out hb)
      replace HO474 := Aside0.mk (vb HO474.out hb)
      replace HO477 := Aside0.mk (vb HO477.out hb)
      replace HO483 := Aside0.mk (vb HO483.out hb)
      replace HO486 := Aside0.mk (vb HO486.out hb)
      replace HO492 := Aside0.mk (vb HO492.out hb)
      replace HO495 := Aside0.mk (vb HO495.out hb)
      replace HO499 := Aside0.mk (vb HO499.out hb)
      replace HO502 := Aside0.mk (vb HO502.out hb)
      replace HO506 := Aside0.mk (vb HO506.out hb)
      replace HO509 := Aside0.mk (vb HO509.out hb)
      replace HO512 := Aside0.mk (vb HO512.out hb)
      replace HO515 := Aside0.mk (vb HO515.out hb)
      replace HO519 := Aside0.mk (vb HO519.out hb)
      replace HO522 := Aside0.mk (vb HO522.out hb)
      replace HO525 := Aside0.mk (vb HO525.out hb)
      have HO528 := Aside0.mk (Kd.V_lower (Kd.V_mono (ok' := fun k_ => k_ ≠ gb478 ∧ k_ ≠ gb479 ∧ k_ ≠ gb480 ∧ k_ ≠ gb488) ho0 (fun k_ hk_ => ⟨(fb BK478.out k_ hk_), (fb BK479.out k_ hk_), (fb BK480.out k_ hk_), (fb BK488.out k_ hk_)⟩)) (bz HB.out))
      replace BK478 := Aside0.mk (bb BK478.out hb)
      replace BK479 := Aside0.mk (bb BK479.out hb)
      replace BK480 := Aside0.mk (bb BK480.out hb)
      replace BK488 := Aside0.mk (bb BK488.out hb)
      replace HB := Aside0.mk (bs HB.out hb)
      (try clear hb)
      (try clear hb2)
      (try clear hk)
      (try clear hi)
      (try clear ho0)
      obtain ⟨Ao108, co108, eo108⟩ := Kd.V_slice HO522.out
      (first | subst eo108 | (injection eo108 with f1_ f2_ f3_; have f4_ := f1_.symm; have f5_ := f3_.symm; clear f1_ f2_ f3_; subst f4_; subst f5_))
      obtain ⟨Ao109, co109, eo109⟩ := Kd.V_slice HO528.out
      (first | subst eo109 | (injection eo109 with f1_ f2_ f3_; have f4_ := f1_.symm; have f5_ := f3_.symm; clear f1_ f2_ f3_; subst f4_; subst f5_))
      refine hK.out _ _ ⟨(blk_cell BK478.out 0).trans rfl, (blk_cell BK479.out 0).trans rfl, (blk_cell BK480.out 0).trans rfl, (blk_cell BK488.out 0).trans rfl⟩ (fun hHeld => ?_)
      clear hK K
      refine norm_ (a' := ?_) ?_ ?_
      rotate_left
      · show Act.put _ (some 74) _ = _
        simp only [Act.put, List.setIfInBounds_toArray, List.set_cons_zero, List.set_cons_succ, i64_w, i32_w]
        rfl
      refine one_ (i := 46) (N := some 75) (fl 47 90 []) rfl rfl (one_of HT_.out (by kernel_rfl)) (by decide) (fun K hK => ?_)
      refine goes_ Try.func21 (by kernel_rfl) rfl #[.agg #[.slice Ao108 t520.length co108], .agg #[.slice Ao109 t526.length co109]] (by rfl) rfl rfl (by (try simp only [List.map_toArray, List.map_cons, List.map_nil]); first | done | rfl | (simp only [List.length_drop, List.length_take]; rfl)) ?_
      with_reducible refine (nat_Nat_Cmp.calls k _ _ t520 _ _ t526 t529 _ ?side1 ?side2 ?side3 ?side4 A32.out).mono ?_
      (case side1 => exact cv HO522.out)
      (case side2 => exact (Kd.V_reads' HO522.out).2.1)
      (case side3 => exact cv HO528.out)
      (case side4 => exact (Kd.V_reads' HO528.out).2.1)
      rintro e w110 ⟨rfl, hb⟩
      refine ⟨_, rfl, ?_⟩
      replace HO462 := Aside0.mk (vb HO462.out hb)
      replace HO465 := Aside0.mk (vb HO465.out hb)
      replace HO468 := Aside0.mk (vb HO468.out hb)
      replace HO471 := Aside0.mk (vb HO471.out hb)
      replace HO474 := Aside0.mk (vb HO474.out hb)
      replace HO477 := Aside0.mk (vb HO477.out hb)
      replace HO483 := Aside0.mk (vb HO483.out hb)
      replace HO486 := Aside0.mk (vb HO486.out hb)
      replace HO492 := Aside0.mk (vb HO492.out hb)
      replace HO495 := Aside0.mk (vb HO495.out hb)
      replace HO499 := Aside0.mk (vb HO499.out hb)
      replace HO502 := Aside0.mk (vb HO502.out hb)
      replace HO506 := Aside0.mk (vb HO506.out hb)
      replace HO509 := Aside0.mk (vb HO509.out hb)
      replace HO512 := Aside0.mk (vb HO512.out hb)
      replace HO515 := Aside0.mk (vb HO515.out hb)
      replace HO519 := Aside0.mk (vb HO519.out hb)
      replace HO522 := Aside0.mk (vb HO522.out hb)
      replace HO525 := Aside0.mk (vb HO525.out hb)
      replace HO528 := Aside0.mk (vb HO528.out hb)
      replace BK478 := Aside0.mk (bb BK478.out hb)
      replace BK479 := Aside0.mk (bb BK479.out hb)
      replace BK480 := Aside0.mk (bb BK480.out hb)
      replace BK488 := Aside0.mk (bb BK488.out hb)
      replace HB := Aside0.mk (bs HB.out hb)
      (try clear hb)
      (try clear hb2)
      (try clear hk)
      (try clear hi)
      refine hK.out _ _ ⟨(blk_cell BK478.out 0).trans rfl, (blk_cell BK479.out 0).trans rfl, (blk_cell BK480.out 0).trans rfl, (blk_cell BK488.out 0).trans rfl⟩ (fun hHeld => ?_)
      clear hK K
      refine norm_ (a' := ?_) ?_ ?_
      rotate_left
      · show Act.put _ (some 75) _ = _
        simp only [Act.put, List.setIfInBounds_toArray, List.set_cons_zero, List.set_cons_succ, i64_w, i32_w]
        rfl
      refine pure_ (i := 47) (N := some 76) (v := ?_) (a' := ?_) (fl 48 90 []) rfl rfl (any_of HT_.out (by kernel_rfl)) (fun _ _ _ h => h) (Or.inl ⟨by rfl, ?_⟩) ?_ ?_
      rotate_left
      · intro w'
        go_simp
        with_reducible rfl
      rotate_left
      · simp only [Act.put, List.setIfInBounds_toArray, List.set_cons_zero, List.set_cons_succ, i64_w, i32_w]
        rfl
      refine pure_ (i := 48) (N := some 77) (v := ?_) (a' := ?_) (fl 49 90 []) rfl rfl (any_of HT_.out (by kernel_rfl)) (fun _ _ _ h => h) (Or.inl ⟨by rfl, ?_⟩) ?_ ?_
      rotate_left
      · intro w'
        go_simp
        with_reducible rfl
      rotate_left
      · simp only [Act.put, List.setIfInBounds_toArray, List.set_cons_zero, List.set_cons_succ, i64_w, i32_w]
        rfl
      refine pure_ (i := 49) (N := some 78) (v := ?_) (a' := ?_) (fl 50 90 []) rfl rfl (any_of HT_.out (by kernel_rfl)) (fun _ _ _ h => h) (Or.inl ⟨by rfl, ?_⟩) ?_ ?_
      rotate_left
      · intro w'
        go_simp
        with_reducible rfl
      rotate_left
      · simp only [Act.put, List.setIfInBounds_toArray, List.set_cons_zero, List.set_cons_succ, i64_w, i32_w]
        rfl
      refine take_ (i := 50) (N := some 79) (v := ?_) (a' := ?_) (fl 51 90 []) rfl rfl (take_ofW HT_.out HW_.out (by kernel_rfl)) (fun _ _ _ h => h) (Or.inl ⟨by rfl, ?_⟩) hHeld ?_ ?_
      rotate_left
      · rintro w' ⟨s0, s1, s2, s3⟩
        go_simp
        with_reducible rfl
      rotate_left
      · simp only [Act.put, List.setIfInBounds_toArray, List.set_cons_zero, List.set_cons_succ, i64_w, i32_w]
        rfl
      refine take_ (i := 51) (N := some 80) (v := ?_) (a' := ?_) (fl 52 90 []) rfl rfl (take_ofW HT_.out HW_.out (by kernel_rfl)) (fun _ _ _ h => h) (Or.inl ⟨by rfl, ?_⟩) hHeld ?_ ?_
      rotate_left
      · rintro w' ⟨s0, s1, s2, s3⟩
        go_simp
        with_reducible rfl
      rotate_left
      · simp only [Act.put, List.setIfInBounds_toArray, List.set_cons_zero, List.set_cons_succ, i64_w, i32_w]
        rfl
      refine take_ (i := 52) (N := some 81) (v := ?_) (a' := ?_) (fl 53 90 []) rfl rfl (take_ofW HT_.out HW_.out (by kernel_rfl)) (fun _ _ _ h => h) (Or.inl ⟨by rfl, ?_⟩) hHeld ?_ ?_
      rotate_left
      · rintro w' ⟨s0, s1, s2, s3⟩
        go_simp
        with_reducible rfl
      rotate_left
      · simp only [Act.put, List.setIfInBounds_toArray, List.set_cons_zero, List.set_cons_succ, i64_w, i32_w]
        rfl
      refine take_ (i := 55) (N := some 84) (v := ?_) (a' := ?_) (fl 53 90 [55]) rfl rfl (take_ofW HT_.out HW_.out (by kernel_rfl)) (fun _ _ _ h => h) (Or.inl ⟨by rfl, ?_⟩) hHeld ?_ ?_
      rotate_left
      · rintro w' ⟨s0, s1, s2, s3⟩
        go_simp
        with_reducible rfl
      rotate_left
      · simp only [Act.put, List.setIfInBounds_toArray, List.set_cons_zero, List.set_cons_succ, i64_w, i32_w]
        rfl
      refine take_ (i := 56) (N := some 85) (v := ?_) (a' := ?_) (fl 53 90 [55, 56]) rfl rfl (take_ofW HT_.out HW_.out (by kernel_rfl)) (fun _ _ _ h => h) (Or.inl ⟨by rfl, ?_⟩) hHeld ?_ ?_
      rotate_left
      · rintro w' ⟨s0, s1, s2, s3⟩
        go_simp
        with_reducible rfl
      rotate_left
      · simp only [Act.put, List.setIfInBounds_toArray, List.set_cons_zero, List.set_cons_succ, i64_w, i32_w]
        rfl
      refine take_ (i := 58) (N := some 87) (v := ?_) (a' := ?_) (fl 53 90 [55, 56, 58]) rfl rfl (take_ofW HT_.out HW_.out (by kernel_rfl)) (fun _ _ _ h => h) (Or.inl ⟨by rfl, ?_⟩) hHeld ?_ ?_
      rotate_left
      · rintro w' ⟨s0, s1, s2, s3⟩
        go_simp
        with_reducible rfl
      rotate_left
      · simp only [Act.put, List.setIfInBounds_toArray, List.set_cons_zero, List.set_cons_succ, i64_w, i32_w]
        rfl
      refine take_ (i := 59) (N := some 88) (v := ?_) (a' := ?_) (fl 53 90 [55, 56, 58, 59]) rfl rfl (take_ofW HT_.out HW_.out (by kernel_rfl)) (fun _ _ _ h => h) (Or.inl ⟨by rfl, ?_⟩) hHeld ?_ ?_
      rotate_left
      · rintro w' ⟨s0, s1, s2, s3⟩
        go_simp
        with_reducible rfl
      rotate_left
      · simp only [Act.put, List.setIfInBounds_toArray, List.set_cons_zero, List.set_cons_succ, i64_w, i32_w]
        rfl
      refine one_ (i := 53) (N := some 82) (fl 54 90 [55, 56, 58, 59]) rfl rfl (one_of HT_.out (by kernel_rfl)) (by decide) (fun K hK => ?_)
      refine goes_ Try.func25 (by kernel_rfl) rfl #[.agg #[.slice Ao66 t469.length co66], .agg #[.slice Ao69 t475.length co69]] (by rfl) rfl rfl (by (try simp only [List.map_toArray, List.map_cons, List.map_nil]); first | done | rfl | (simp only [List.length_drop, List.length_take]; rfl)) ?_
      with_reducible refine (nat_Nat_Add.calls k _ _ t469 _ _ t475 t530 _ ?side1 ?side2 ?side3 ?side4 A34.out).mono ?_
      (case side1 => exact cv HO471.out)
      (case side2 => exact (Kd.V_reads' HO471.out).2.1)
      (case side3 => exact cv HO477.out)
      (case side4 => exact (Kd.V_reads' HO477.out).2.1)
      rintro e w111 ⟨v531, rfl, ho0, hb⟩
      refine ⟨_, rfl, ?_⟩
      replace HO462 := Aside0.mk (vb HO462.out hb)
      replace HO465 := Aside0.mk (vb HO465.out hb)
      replace HO468 := Aside0.mk (vb HO468.out hb)
      replace HO471 := Aside0.mk (vb HO471.out hb)
      replace HO474 := Aside0.mk (vb HO474.out hb)
      replace HO477 := Aside0.mk (vb HO477.out hb)
      replace HO483 := Aside0.mk (vb HO483.out hb)
      replace HO486 := Aside0.mk (vb HO486.out hb)
      replace HO492 := Aside0.mk (vb HO492.out hb)
      replace HO495 := Aside0.mk (vb HO495.out hb)
      replace HO499 := Aside0.mk (vb HO499.out hb)
      replace HO502 := Aside0.mk (vb HO502.out hb)
      replace HO506 := Aside0.mk (vb HO506.out hb)
      replace HO509 := Aside0.mk (vb HO509.out hb)
      replace HO512 := Aside0.mk (vb HO512.out hb)
      replace HO515 := Aside0.mk (vb HO515.out hb)
      replace HO519 := Aside0.mk (vb HO519.out hb)
      replace HO522 := Aside0.mk (vb HO522.out hb)
      replace HO525 := Aside0.mk (vb HO525.out hb)
      replace HO528 := Aside0.mk (vb HO528.out hb)
      have HO532 := Aside0.mk (Kd.V_lower (Kd.V_mono (ok' := fun k_ => k_ ≠ gb478 ∧ k_ ≠ gb479 ∧ k_ ≠ gb480 ∧ k_ ≠ gb488) ho0 (fun k_ hk_ => ⟨(fb BK478.out k_ hk_), (fb BK479.out k_ hk_), (fb BK480.out k_ hk_), (fb BK488.out k_ hk_)⟩)) (bz HB.out))
      replace BK478 := Aside0.mk (bb BK478.out hb)
      replace BK479 := Aside0.mk (bb BK479.out hb)
      replace BK480 := Aside0.mk (bb BK480.out hb)
      replace BK488 := Aside0.mk (bb BK488.out hb)
      replace HB := Aside0.mk (bs HB.out hb)
      (try clear hb)
      (try clear hb2)
      (try clear hk)
      (try clear hi)
      (try clear ho0)
      obtain ⟨Ao112, co112, eo112⟩ := Kd.V_slice HO532.out
      (first | subst eo112 | (injection eo112 with f1_ f2_ f3_; have f4_ := f1_.symm; have f5_ := f3_.symm; clear f1_ f2_ f3_; subst f4_; subst f5_))
      refine hK.out _ _ ⟨(blk_cell BK478.out 0).trans rfl, (blk_cell BK479.out 0).trans rfl, (blk_cell BK480.out 0).trans rfl, (blk_cell BK488.out 0).trans rfl⟩ (fun hHeld => ?_)
      clear hK K
      refine norm_ (a' := ?_) ?_ ?_
      rotate_left
      · show Act.put _ (some 82) _ = _
        simp only [Act.put, List.setIfInBounds_toArray, List.set_cons_zero, List.set_cons_succ, i64_w, i32_w]
        rfl
      refine one_ (i := 54) (N := some 83) (fl 57 90 [58, 59]) rfl rfl (one_of HT_.out (by kernel_rfl)) (by decide) (fun K hK => ?_)
      refine goes_ Try.func24 (by kernel_rfl) rfl #[.agg #[.slice Ao62 t463.length co62], .agg #[.slice Ao112 t530.length co112]] (by rfl) rfl rfl (by (try simp only [List.map_toArray, List.map_cons, List.map_nil]); first | done | rfl | (simp only [List.length_drop, List.length_take]; rfl)) ?_
      with_reducible refine (nat_Nat_Mul.calls k _ _ t463 _ _ t530 t533 _ ?side1 ?side2 ?side3 ?side4 A35.out).mono ?_
      (case side1 => exact cv HO465.out)
      (case side2 => exact (Kd.V_reads' HO465.out).2.1)
      (case side3 => exact cv HO532.out)
      (case side4 => exact (Kd.V_reads' HO532.out).2.1)
      rintro e w113 ⟨v534, rfl, ho0, hb⟩
      refine ⟨_, rfl, ?_⟩
      replace HO462 := Aside0.mk (vb HO462.out hb)
      replace HO465 := Aside0.mk (vb HO465.out hb)
      replace HO468 := Aside0.mk (vb HO468.out hb)
      replace HO471 := Aside0.mk (vb HO471.out hb)
      replace HO474 := Aside0.mk (vb HO474.out hb)
      replace HO477 := Aside0.mk (vb HO477.out hb)
      replace HO483 := Aside0.mk (vb HO483.out hb)
      replace HO486 := Aside0.mk (vb HO486.out hb)
      replace HO492 := Aside0.mk (vb HO492.out hb)
      replace HO495 := Aside0.mk (vb HO495.out hb)
      replace HO499 := Aside0.mk (vb HO499.out hb)
      replace HO502 := Aside0.mk (vb HO502.out hb)
      replace HO506 := Aside0.mk (vb HO506.out hb)
      replace HO509 := Aside0.mk (vb HO509.out hb)
      replace HO512 := Aside0.mk (vb HO512.out hb)
      replace HO515 := Aside0.mk (vb HO515.out hb)
      replace HO519 := Aside0.mk (vb HO519.out hb)
      replace HO522 := Aside0.mk (vb HO522.out hb)
      replace HO525 := Aside0.mk (vb HO525.out hb)
      replace HO528 := Aside0.mk (vb HO528.out hb)
      replace HO532 := Aside0.mk (vb HO532.out hb)
      have HO535 := Aside0.mk (Kd.V_lower (Kd.V_mono (ok' := fun k_ => k_ ≠ gb478 ∧ k_ ≠ gb479 ∧ k_ ≠ gb480 ∧ k_ ≠ gb488) ho0 (fun k_ hk_ => ⟨(fb BK478.out k_ hk_), (fb BK479.out k_ hk_), (fb BK480.out k_ hk_), (fb BK488.out k_ hk_)⟩)) (bz HB.out))
      replace BK478 := Aside0.mk (bb BK478.out hb)
      replace BK479 := Aside0.mk (bb BK479.out hb)
      replace BK480 := Aside0.mk (bb BK480.out hb)
      replace BK488 := Aside0.mk (bb BK488.out hb)
      replace HB := Aside0.mk (bs HB.out hb)
      (try clear hb)
      (try clear hb2)
      (try clear hk)
      (try clear hi)
      (try clear ho0)
      refine hK.out _ _ ⟨(blk_cell BK478.out 0).trans rfl, (blk_cell BK479.out 0).trans rfl, (blk_cell BK480.out 0).trans rfl, (blk_cell BK488.out 0).trans rfl⟩ (fun hHeld => ?_)
      clear hK K
      refine norm_ (a' := ?_) ?_ ?_
      rotate_left
      · show Act.put _ (some 83) _ = _
        simp only [Act.put, List.setIfInBounds_toArray, List.set_cons_zero, List.set_cons_succ, i64_w, i32_w]
        rfl
      refine one_ (i := 57) (N := some 86) (fl 60 90 []) rfl rfl (one_of HT_.out (by kernel_rfl)) (by decide) (fun K hK => ?_)
      refine goes_ Try.func24 (by kernel_rfl) rfl #[.agg #[.slice Ao62 t463.length co62], .agg #[.slice Ao66 t469.length co66]] (by rfl) rfl rfl (by (try simp only [List.map_toArray, List.map_cons, List.map_nil]); first | done | rfl | (simp only [List.length_drop, List.length_take]; rfl)) ?_
      with_reducible refine (nat_Nat_Mul.calls k _ _ t463 _ _ t469 t536 _ ?side1 ?side2 ?side3 ?side4 A36.out).mono ?_
      (case side1 => exact cv HO465.out)
      (case side2 => exact (Kd.V_reads' HO465.out).2.1)
      (case side3 => exact cv HO471.out)
      (case side4 => exact (Kd.V_reads' HO471.out).2.1)
      rintro e w114 ⟨v537, rfl, ho0, hb⟩
      refine ⟨_, rfl, ?_⟩
      replace HO462 := Aside0.mk (vb HO462.out hb)
      replace HO465 := Aside0.mk (vb HO465.out hb)
      replace HO468 := Aside0.mk (vb HO468.out hb)
      replace HO471 := Aside0.mk (vb HO471.out hb)
      replace HO474 := Aside0.mk (vb HO474.out hb)
      replace HO477 := Aside0.mk (vb HO477.out hb)
      replace HO483 := Aside0.mk (vb HO483.out hb)
      replace HO486 := Aside0.mk (vb HO486.out hb)
      replace HO492 := Aside0.mk (vb HO492.out hb)
      replace HO495 := Aside0.mk (vb HO495.out hb)
      replace HO499 := Aside0.mk (vb HO499.out hb)
      replace HO502 := Aside0.mk (vb HO502.out hb)
      replace HO506 := Aside0.mk (vb HO506.out hb)
      replace HO509 := Aside0.mk (vb HO509.out hb)
      replace HO512 := Aside0.mk (vb HO512.out hb)
      replace HO515 := Aside0.mk (vb HO515.out hb)
      replace HO519 := Aside0.mk (vb HO519.out hb)
      replace HO522 := Aside0.mk (vb HO522.out hb)
      replace HO525 := Aside0.mk (vb HO525.out hb)
      replace HO528 := Aside0.mk (vb HO528.out hb)
      replace HO532 := Aside0.mk (vb HO532.out hb)
      replace HO535 := Aside0.mk (vb HO535.out hb)
      have HO538 := Aside0.mk (Kd.V_lower (Kd.V_mono (ok' := fun k_ => k_ ≠ gb478 ∧ k_ ≠ gb479 ∧ k_ ≠ gb480 ∧ k_ ≠ gb488) ho0 (fun k_ hk_ => ⟨(fb BK478.out k_ hk_), (fb BK479.out k_ hk_), (fb BK480.out k_ hk_), (fb BK488.out k_ hk_)⟩)) (bz HB.out))
      replace BK478 := Aside0.mk (bb BK478.out hb)
      replace BK479 := Aside0.mk (bb BK479.out hb)
      replace BK480 := Aside0.mk (bb BK480.out hb)
      replace BK488 := Aside0.mk (bb BK488.out hb)
      replace HB := Aside0.mk (bs HB.out hb)
      (try clear hb)
      (try clear hb2)
      (try clear hk)
      (try clear hi)
      (try clear ho0)
      refine hK.out _ _ ⟨(blk_cell BK478.out 0).trans rfl, (blk_cell BK479.out 0).trans rfl, (blk_cell BK480.out 0).trans rfl, (blk_cell BK488.out 0).trans rfl⟩ (fun hHeld => ?_)
      clear hK K
      refine norm_ (a' := ?_) ?_ ?_
      rotate_left
      · show Act.put _ (some 86) _ = _
        simp only [Act.put, List.setIfInBounds_toArray, List.set_cons_zero, List.set_cons_succ, i64_w, i32_w]
        rfl
      refine one_ (i := 60) (N := some 89) (fl 61 90 []) rfl rfl (one_of HT_.out (by kernel_rfl)) (by decide) (fun K hK => ?_)
      refine goes_ Try.func24 (by kernel_rfl) rfl #[.agg #[.slice Ao62 t463.length co62], .agg #[.slice Ao69 t475.length co69]] (by rfl) rfl rfl (by (try simp only [List.map_toArray, List.map_cons, List.map_nil]); first | done | rfl | (simp only [List.length_drop, List.length_take]; rfl)) ?_
      with_reducible refine (nat_Nat_Mul.calls k _ _ t463 _ _ t475 t539 _ ?side1 ?side2 ?side3 ?side4 A37.out).mono ?_
      (case side1 => exact cv HO465.out)
      (case side2 => exact (Kd.V_reads' HO465.out).2.1)
      (case side3 => exact cv HO477.out)
      (case side4 => exact (Kd.V_reads' HO477.out).2.1)
      rintro e w115 ⟨v540, rfl, ho0, hb⟩
      refine ⟨_, rfl, ?_⟩
      replace HO462 := Aside0.mk (vb HO462.out hb)
      replace HO465 := Aside0.mk (vb HO465.out hb)
      replace HO468 := Aside0.mk (vb HO468.out hb)
      replace HO471 := Aside0.mk (vb HO471.out hb)
      replace HO474 := Aside0.mk (vb HO474.out hb)
      replace HO477 := Aside0.mk (vb HO477.out hb)
      replace HO483 := Aside0.mk (vb HO483.out hb)
      replace HO486 := Aside0.mk (vb HO486.out hb)
      replace HO492 := Aside0.mk (vb HO492.out hb)
      replace HO495 := Aside0.mk (vb HO495.out hb)
      replace HO499 := Aside0.mk (vb HO499.out hb)
      replace HO502 := Aside0.mk (vb HO502.out hb)
      replace HO506 := Aside0.mk (vb HO506.out hb)
      replace HO509 := Aside0.mk (vb HO509.out hb)
      replace HO512 := Aside0.mk (vb HO512.out hb)
      replace HO515 := Aside0.mk (vb HO515.out hb)
      replace HO519 := Aside0.mk (vb HO519.out hb)
      replace HO522 := Aside0.mk (vb HO522.out hb)
      replace HO525 := Aside0.mk (vb HO525.out hb)
      replace HO528 := Aside0.mk (vb HO528.out hb)
      replace HO532 := Aside0.mk (vb HO532.out hb)
      replace HO535 := Aside0.mk (vb HO535.out hb)
      replace HO538 := Aside0.mk (vb HO538.out hb)
      have HO541 := Aside0.mk (Kd.V_lower (Kd.V_mono (ok' := fun k_ => k_ ≠ gb478 ∧ k_ ≠ gb479 ∧ k_ ≠ gb480 ∧ k_ ≠ gb488) ho0 (fun k_ hk_ => ⟨(fb BK478.out k_ hk_), (fb BK479.out k_ hk_), (fb BK480.out k_ hk_), (fb BK488.out k_ hk_)⟩)) (bz HB.out))
      replace BK478 := Aside0.mk (bb BK478.out hb)
      replace BK479 := Aside0.mk (bb BK479.out hb)
      replace BK480 := Aside0.mk (bb BK480.out hb)
      replace BK488 := Aside0.mk (bb BK488.out hb)
      replace HB := Aside0.mk (bs HB.out hb)
      (try clear hb)
      (try clear hb2)
      (try clear hk)
      (try clear hi)
      (try clear ho0)
      obtain ⟨Ao116, co116, eo116⟩ := Kd.V_slice HO538.out
      (first | subst eo116 | (injection eo116 with f1_ f2_ f3_; have f4_ := f1_.symm; have f5_ := f3_.symm; clear f1_ f2_ f3_; subst f4_; subst f5_))
      obtain ⟨Ao117, co117, eo117⟩ := Kd.V_slice HO541.out
      (first | subst eo117 | (injection eo117 with f1_ f2_ f3_; have f4_ := f1_.symm; have f5_ := f3_.symm; clear f1_ f2_ f3_; subst f4_; subst f5_))
      refine hK.out _ _ ⟨(blk_cell BK478.out 0).trans rfl, (blk_cell BK479.out 0).trans rfl, (blk_cell BK480.out 0).trans rfl, (blk_cell BK488.out 0).trans rfl⟩ (fun hHeld => ?_)
      clear hK K
      refine norm_ (a' := ?_) ?_ ?_
      rotate_left
      · show Act.put _ (some 89) _ = _
        simp only [Act.put, List.setIfInBounds_toArray, List.set_cons_zero, List.set_cons_succ, i64_w, i32_w]
        rfl
      refine one_ (i := 61) (N := some 90) (fl 62 90 []) rfl rfl (one_of HT_.out (by kernel_rfl)) (by decide) (fun K hK => ?_)
      refine goes_ Try.func25 (by kernel_rfl) rfl #[.agg #[.slice Ao116 t536.length co116], .agg #[.slice Ao117 t539.length co117]] (by rfl) rfl rfl (by (try simp only [List.map_toArray, List.map_cons, List.map_nil]); first | done | rfl | (simp only [List.length_drop, List.length_take]; rfl)) ?_
      with_reducible refine (nat_Nat_Add.calls k _ _ t536 _ _ t539 t542 _ ?side1 ?side2 ?side3 ?side4 A38.out).mono ?_
      (case side1 => exact cv HO538.out)
      (case side2 => exact (Kd.V_reads' HO538.out).2.1)
      (case side3 => exact cv HO541.out)
      (case side4 => exact (Kd.V_reads' HO541.out).2.1)
      rintro e w118 ⟨v543, rfl, ho0, hb⟩
      refine ⟨_, rfl, ?_⟩
      replace HO462 := Aside0.mk (vb HO462.out hb)
      replace HO465 := Aside0.mk (vb HO465.out hb)
      replace HO468 := Aside0.mk (vb HO468.out hb)
      replace HO471 := Aside0.mk (vb HO471.out hb)
      replace HO474 := Aside0.mk (vb HO474.out hb)
      replace HO477 := Aside0.mk (vb HO477.out hb)
      replace HO483 := Aside0.mk (vb HO483.out hb)
      replace HO486 := Aside0.mk (vb HO486.out hb)
      replace HO492 := Aside0.mk (vb HO492.out hb)
      replace HO495 := Aside0.mk (vb HO495.out hb)
      replace HO499 := Aside0.mk (vb HO499.out hb)
      replace HO502 := Aside0.mk (vb HO502.out hb)
      replace HO506 := Aside0.mk (vb HO506.out hb)
      replace HO509 := Aside0.mk (vb HO509.out hb)
      replace HO512 := Aside0.mk (vb HO512.out hb)
      replace HO515 := Aside0.mk (vb HO515.out hb)
      replace HO519 := Aside0.mk (vb HO519.out hb)
      replace HO522 := Aside0.mk (vb HO522.out hb)
      replace HO525 := Aside0.mk (vb HO525.out hb)
      replace HO528 := Aside0.mk (vb HO528.out hb)
      replace HO532 := Aside0.mk (vb HO532.out hb)
      replace HO535 := Aside0.mk (vb HO535.out hb)
      replace HO538 := Aside0.mk (vb HO538.out hb)
      replace HO541 := Aside0.mk (vb HO541.out hb)
      have HO544 := Aside0.mk (Kd.V_lower (Kd.V_mono (ok' := fun k_ => k_ ≠ gb478 ∧ k_ ≠ gb479 ∧ k_ ≠ gb480 ∧ k_ ≠ gb488) ho0 (fun k_ hk_ => ⟨(fb BK478.out k_ hk_), (fb BK479.out k_ hk_), (fb BK480.out k_ hk_), (fb BK488.out k_ hk_)⟩)) (bz HB.out))
      replace BK478 := Aside0.mk (bb BK478.out hb)
      replace BK479 := Aside0.mk (bb BK479.out hb)
      replace BK480 := Aside0.mk (bb BK480.out hb)
      replace BK488 := Aside0.mk (bb BK488.out hb)
      replace HB := Aside0.mk (bs HB.out hb)
      (try clear hb)
      (try clear hb2)
      (try clear hk)
      (try clear hi)
      (try clear ho0)
      obtain ⟨Ao119, co119, eo119⟩ := Kd.V_slice HO535.out
      (first | subst eo119 | (injection eo119 with f1_ f2_ f3_; have f4_ := f1_.symm; have f5_ := f3_.symm; clear f1_ f2_ f3_; subst f4_; subst f5_))
      obtain ⟨Ao120, co120, eo120⟩ := Kd.V_slice HO544.out
      (first | subst eo120 | (injection eo120 with f1_ f2_ f3_; have f4_ := f1_.symm; have f5_ := f3_.symm; clear f1_ f2_ f3_; subst f4_; subst f5_))
      refine hK.out _ _ ⟨(blk_cell BK478.out 0).trans rfl, (blk_cell BK479.out 0).trans rfl, (blk_cell BK480.out 0).trans rfl, (blk_cell BK488.out 0).trans rfl⟩ (fun hHeld => ?_)
      clear hK K
      refine norm_ (a' := ?_) ?_ ?_
      rotate_left
      · show Act.put _ (some 90) _ = _
        simp only [Act.put, List.setIfInBounds_toArray, List.set_cons_zero, List.set_cons_succ, i64_w, i32_w]
        rfl
      refine one_ (i := 62) (N := some 91) (fl 63 90 []) rfl rfl (one_of HT_.out (by kernel_rfl)) (by decide) (fun K hK => ?_)
      refine goes_ Try.func21 (by kernel_rfl) rfl #[.agg #[.slice Ao119 t533.length co119], .agg #[.slice Ao120 t542.length co120]] (by rfl) rfl rfl (by (try simp only [List.map_toArray, List.map_cons, List.map_nil]); first | done | rfl | (simp only [List.length_drop, List.length_take]; rfl)) ?_
      with_reducible refine (nat_Nat_Cmp.calls k _ _ t533 _ _ t542 t545 _ ?side1 ?side2 ?side3 ?side4 A39.out).mono ?_
      (case side1 => exact cv HO535.out)
      (case side2 => exact (Kd.V_reads' HO535.out).2.1)
      (case side3 => exact cv HO544.out)
      (case side4 => exact (Kd.V_reads' HO544.out).2.1)
      rintro e w121 ⟨rfl, hb⟩
      refine ⟨_, rfl, ?_⟩
      replace HO462 := Aside0.mk (vb HO462.out hb)
      replace HO465 := Aside0.mk (vb HO465.out hb)
      replace HO468 := Aside0.mk (vb HO468.out hb)
      replace HO471 := Aside0.mk (vb HO471.out hb)
      replace HO474 := Aside0.mk (vb HO474.out hb)
      replace HO477 := Aside0.mk (vb HO477.out hb)
      replace HO483 := Aside0.mk (vb HO483.out hb)
      replace HO486 := Aside0.mk (vb HO486.out hb)
      replace HO492 := Aside0.mk (vb HO492.out hb)
      replace HO495 := Aside0.mk (vb HO495.out hb)
      replace HO499 := Aside0.mk (vb HO499.out hb)
      replace HO502 := Aside0.mk (vb HO502.out hb)
      replace HO506 := Aside0.mk (vb HO506.out hb)
      replace HO509 := Aside0.mk (vb HO509.out hb)
      replace HO512 := Aside0.mk (vb HO512.out hb)
      replace HO515 := Aside0.mk (vb HO515.out hb)
      replace HO519 := Aside0.mk (vb HO519.out hb)
      replace HO522 := Aside0.mk (vb HO522.out hb)
      replace HO525 := Aside0.mk (vb HO525.out hb)
      replace HO528 := Aside0.mk (vb HO528.out hb)
      replace HO532 := Aside0.mk (vb HO532.out hb)
      replace HO535 := Aside0.mk (vb HO535.out hb)
      replace HO538 := Aside0.mk (vb HO538.out hb)
      replace HO541 := Aside0.mk (vb HO541.out hb)
      replace HO544 := Aside0.mk (vb HO544.out hb)
      replace BK478 := Aside0.mk (bb BK478.out hb)
      replace BK479 := Aside0.mk (bb BK479.out hb)
      replace BK480 := Aside0.mk (bb BK480.out hb)
      replace BK488 := Aside0.mk (bb BK488.out hb)
      replace HB := Aside0.mk (bs HB.out hb)
      (try clear hb)
      (try clear hb2)
      (try clear hk)
      (try clear hi)
      refine hK.out _ _ ⟨(blk_cell BK478.out 0).trans rfl, (blk_cell BK479.out 0).trans rfl, (blk_cell BK480.out 0).trans rfl, (blk_cell BK488.out 0).trans rfl⟩ (fun hHeld => ?_)
      clear hK K
      refine norm_ (a' := ?_) ?_ ?_
      rotate_left
      · show Act.put _ (some 91) _ = _
        simp only [Act.put, List.setIfInBounds_toArray, List.set_cons_zero, List.set_cons_succ, i64_w, i32_w]
        rfl
      refine pure_ (i := 63) (N := some 92) (v := ?_) (a' := ?_) (fl 64 90 []) rfl rfl (any_of HT_.out (by kernel_rfl)) (fun _ _ _ h => h) (Or.inl ⟨by rfl, ?_⟩) ?_ ?_
      rotate_left
      · intro w'
        go_simp
        with_reducible rfl
      rotate_left
      · simp only [Act.put, List.setIfInBounds_toArray, List.set_cons_zero, List.set_cons_succ, i64_w, i32_w]
        rfl
      refine pure_ (i := 64) (N := some 93) (v := ?_) (a' := ?_) (fl 65 90 []) rfl rfl (any_of HT_.out (by kernel_rfl)) (fun _ _ _ h => h) (Or.inl ⟨by rfl, ?_⟩) ?_ ?_
      rotate_left
      · intro w'
        go_simp
        with_reducible rfl
      rotate_left
      · simp only [Act.put, List.setIfInBounds_toArray, List.set_cons_zero, List.set_cons_succ, i64_w, i32_w]
        rfl
      refine pure_ (i := 65) (N := some 94) (v := ?_) (a' := ?_) (fl 66 90 []) rfl rfl (any_of HT_.out (by kernel_rfl)) (fun _ _ _ h => h) (Or.inl ⟨by rfl, ?_⟩) ?_ ?_
      rotate_left
      · intro w'
        go_simp
        with_reducible rfl
      rotate_left
      · simp only [Act.put, List.setIfInBounds_toArray, List.set_cons_zero, List.set_cons_succ, i64_w, i32_w]
        rfl
      refine pure_ (i := 66) (N := some 95) (v := ?_) (a' := ?_) (fl 67 90 []) rfl rfl (any_of HT_.out (by kernel_rfl)) (fun _ _ _ h => h) (Or.inl ⟨by rfl, ?_⟩) ?_ ?_
      rotate_left
      · intro w'
        go_simp
        with_reducible rfl
      rotate_left
      · simp only [Act.put, List.setIfInBounds_toArray, List.set_cons_zero, List.set_cons_succ, i64_w, i32_w]
        rfl
      refine pure_ (i := 67) (N := some 96) (v := ?_) (a' := ?_) (fl 68 90 []) rfl rfl (any_of HT_.out (by kernel_rfl)) (fun _ _ _ h => h) (Or.inl ⟨by rfl, ?_⟩) ?_ ?_
      rotate_left
      · intro w'
        go_simp
        with_reducible rfl
      rotate_left
      · simp only [Act.put, List.setIfInBounds_toArray, List.set_cons_zero, List.set_cons_succ, i64_w, i32_w]
        rfl
      refine pure_ (i := 68) (N := some 97) (v := ?_) (a' := ?_) (fl 69 90 []) rfl rfl (any_of HT_.out (by kernel_rfl)) (fun _ _ _ h => h) (Or.inl ⟨by rfl, ?_⟩) ?_ ?_
      rotate_left
      · intro w'
        go_simp
        with_reducible rfl
      rotate_left
      · simp only [Act.put, List.setIfInBounds_toArray, List.set_cons_zero, List.set_cons_succ, i64_w, i32_w]
        rfl
      refine take_ (i := 69) (N := some 98) (v := ?_) (a' := ?_) (fl 70 90 []) rfl rfl (take_ofW HT_.out HW_.out (by kernel_rfl)) (fun _ _ _ h => h) (Or.inl ⟨by rfl, ?_⟩) hHeld ?_ ?_
      rotate_left
      · rintro w' ⟨s0, s1, s2, s3⟩
        go_simp
        with_reducible rfl
      rotate_left
      · simp only [Act.put, List.setIfInBounds_toArray, List.set_cons_zero, List.set_cons_succ, i64_w, i32_w]
        rfl
      refine take_ (i := 70) (N := some 99) (v := ?_) (a' := ?_) (fl 71 90 []) rfl rfl (take_ofW HT_.out HW_.out (by kernel_rfl)) (fun _ _ _ h => h) (Or.inl ⟨by rfl, ?_⟩) hHeld ?_ ?_
      rotate_left
      · rintro w' ⟨s0, s1, s2, s3⟩
        go_simp
        with_reducible rfl
      rotate_left
      · simp only [Act.put, List.setIfInBounds_toArray, List.set_cons_zero, List.set_cons_succ, i64_w, i32_w]
        rfl
      refine one_ (i := 71) (N := some 100) (fl 72 90 []) rfl rfl (one_of HT_.out (by kernel_rfl)) (by decide) (fun K hK => ?_)
      refine goes_ Try.func21 (by kernel_rfl) rfl #[.agg #[.slice Ao78 t484.length co78], .agg #[.slice Ao62 t463.length co62]] (by rfl) rfl rfl (by (try simp only [List.map_toArray, List.map_cons, List.map_nil]); first | done | rfl | (simp only [List.length_drop, List.length_take]; rfl)) ?_
      with_reducible refine (nat_Nat_Cmp.calls k _ _ t484 _ _ t463 t546 _ ?side1 ?side2 ?side3 ?side4 A42.out).mono ?_
      (case side1 => exact cv HO486.out)
      (case side2 => exact (Kd.V_reads' HO486.out).2.1)
      (case side3 => exact cv HO465.out)
      (case side4 => exact (Kd.V_reads' HO465.out).2.1)
      rintro e w122 ⟨rfl, hb⟩
      refine ⟨_, rfl, ?_⟩
      replace HO462 := Aside0.mk (vb HO462.out hb)
      replace HO465 := Aside0.mk (vb HO465.out hb)
      replace HO468 := Aside0.mk (vb HO468.out hb)
      replace HO471 := Aside0.mk (vb HO471.out hb)
      replace HO474 := Aside0.mk (vb HO474.out hb)
      replace HO477 := Aside0.mk (vb HO477.out hb)
      replace HO483 := Aside0.mk (vb HO483.out hb)
      replace HO486 := Aside0.mk (vb HO486.out hb)
      replace HO492 := Aside0.mk (vb HO492.out hb)
      replace HO495 := Aside0.mk (vb HO495.out hb)
      replace HO499 := Aside0.mk (vb HO499.out hb)
      replace HO502 := Aside0.mk (vb HO502.out hb)
      replace HO506 := Aside0.mk (vb HO506.out hb)
      replace HO509 := Aside0.mk (vb HO509.out hb)
      replace HO512 := Aside0.mk (vb HO512.out hb)
      replace HO515 := Aside0.mk (vb HO515.out hb)
      replace HO519 := Aside0.mk (vb HO519.out hb)
      replace HO522 := Aside0.mk (vb HO522.out hb)
      replace HO525 := Aside0.mk (vb HO525.out hb)
      replace HO528 := Aside0.mk (vb HO528.out hb)
      replace HO532 := Aside0.mk (vb HO532.out hb)
      replace HO535 := Aside0.mk (vb HO535.out hb)
      replace HO538 := Aside0.mk (vb HO538.out hb)
      replace HO541 := Aside0.mk (vb HO541.out hb)
      replace HO544 := Aside0.mk (vb HO544.out hb)
      replace BK478 := Aside0.mk (bb BK478.out hb)
      replace BK479 := Aside0.mk (bb BK479.out hb)
      replace BK480 := Aside0.mk (bb BK480.out hb)
      replace BK488 := Aside0.mk (bb BK488.out hb)
      replace HB := Aside0.mk (bs HB.out hb)
      (try clear hb)
      (try clear hb2)
      (try clear hk)
      (try clear hi)
      refine hK.out _ _ ⟨(blk_cell BK478.out 0).trans rfl, (blk_cell BK479.out 0).trans rfl, (blk_cell BK480.out 0).trans rfl, (blk_cell BK488.out 0).trans rfl⟩ (fun hHeld => ?_)
      clear hK K
      refine norm_ (a' := ?_) ?_ ?_
      rotate_left
      · show Act.put _ (some 100) _ = _
        simp only [Act.put, List.setIfInBounds_toArray, List.set_cons_zero, List.set_cons_succ, i64_w, i32_w]
        rfl
      refine pure_ (i := 72) (N := some 101) (v := ?_) (a' := ?_) (fl 73 90 []) rfl rfl (any_of HT_.out (by kernel_rfl)) (fun _ _ _ h => h) (Or.inl ⟨by rfl, ?_⟩) ?_ ?_
      rotate_left
      · intro w'
        go_simp
        with_reducible rfl
      rotate_left
      · simp only [Act.put, List.setIfInBounds_toArray, List.set_cons_zero, List.set_cons_succ, i64_w, i32_w]
        rfl
      refine pure_ (i := 73) (N := some 102) (v := ?_) (a' := ?_) (fl 74 90 []) rfl rfl (any_of HT_.out (by kernel_rfl)) (fun _ _ _ h => h) (Or.inl ⟨by rfl, ?_⟩) ?_ ?_
      rotate_left
      · intro w'
        go_simp
        with_reducible rfl
      rotate_left
      · simp only [Act.put, List.setIfInBounds_toArray, List.set_cons_zero, List.set_cons_succ, i64_w, i32_w]
        rfl
      refine pure_ (i := 74) (N := some 103) (v := ?_) (a' := ?_) (fl 75 90 []) rfl rfl (any_of HT_.out (by kernel_rfl)) (fun _ _ _ h => h) (Or.inl ⟨by rfl, ?_⟩) ?_ ?_
      rotate_left
      · intro w'
        go_simp
        with_reducible rfl
      rotate_left
      · simp only [Act.put, List.setIfInBounds_toArray, List.set_cons_zero, List.set_cons_succ, i64_w, i32_w]
        rfl
      refine take_ (i := 75) (N := some 104) (v := ?_) (a' := ?_) (fl 76 90 []) rfl rfl (take_ofW HT_.out HW_.out (by kernel_rfl)) (fun _ _ _ h => h) (Or.inl ⟨by rfl, ?_⟩) hHeld ?_ ?_
      rotate_left
      · rintro w' ⟨s0, s1, s2, s3⟩
        go_simp
        with_reducible rfl
      rotate_left
      · simp only [Act.put, List.setIfInBounds_toArray, List.set_cons_zero, List.set_cons_succ, i64_w, i32_w]
        rfl
      refine take_ (i := 79) (N := some 108) (v := ?_) (a' := ?_) (fl 76 90 [79]) rfl rfl (take_ofW HT_.out HW_.out (by kernel_rfl)) (fun _ _ _ h => h) (Or.inl ⟨by rfl, ?_⟩) hHeld ?_ ?_
      rotate_left
      · rintro w' ⟨s0, s1, s2, s3⟩
        go_simp
        with_reducible rfl
      rotate_left
      · simp only [Act.put, List.setIfInBounds_toArray, List.set_cons_zero, List.set_cons_succ, i64_w, i32_w]
        rfl
      refine one_ (i := 76) (N := some 105) (fl 77 90 [79]) rfl rfl (one_of HT_.out (by kernel_rfl)) (by decide) (fun K hK => ?_)
      refine Kd.R_lit_step (Kd.int .u64) _ 27 ?hg (N := 105) ?hd (xs := ([1] : List Int)) (inner := [.int .u64 1]) (ok := fun _ => True) (okp := fun _ => True) ?hr ?hp (fun _ hk => hk) trivial (Below.refl _ _) (Nat.le_refl _) (by simp) ?_; (case hd => rfl); (case hg => rfl); (case hr => first | (go_simp; done) | (go_simp; rfl)); (case hp => exact (Reps.one (show Kd.M (Kd.int .u64) _ _ _ 1 [.int .u64 1] from rfl) (Reps.none _ _)))
      intro v548 w123 ho124 hb hg_ hnew_
      clear hg_ hnew_
      (first | rw [← Ny547.out] at ho124 | (simp only [Int.reduceToNat] at ho124; rw [← Ny547.out] at ho124))
      replace HO462 := Aside0.mk (Kd.V_elder' (by (with_reducible repeat (first | apply Kd.V_alloc | apply Kd.V_drewN | apply Kd.V_drew)); exact HO462.out) (Kd.R_base ho124) hb)
      replace HO465 := Aside0.mk (Kd.V_elder' (by (with_reducible repeat (first | apply Kd.V_alloc | apply Kd.V_drewN | apply Kd.V_drew)); exact HO465.out) (Kd.R_base ho124) hb)
      replace HO468 := Aside0.mk (Kd.V_elder' (by (with_reducible repeat (first | apply Kd.V_alloc | apply Kd.V_drewN | apply Kd.V_drew)); exact HO468.out) (Kd.R_base ho124) hb)
      replace HO471 := Aside0.mk (Kd.V_elder' (by (with_reducible repeat (first | apply Kd.V_alloc | apply Kd.V_drewN | apply Kd.V_drew)); exact HO471.out) (Kd.R_base ho124) hb)
      replace HO474 := Aside0.mk (Kd.V_elder' (by (with_reducible repeat (first | apply Kd.V_alloc | apply Kd.V_drewN | apply Kd.V_drew)); exact HO474.out) (Kd.R_base ho124) hb)
      replace HO477 := Aside0.mk (Kd.V_elder' (by (with_reducible repeat (first | apply Kd.V_alloc | apply Kd.V_drewN | apply Kd.V_drew)); exact HO477.out) (Kd.R_base ho124) hb)
      replace HO483 := Aside0.mk (Kd.V_elder' (by (with_reducible repeat (first | apply Kd.V_alloc | apply Kd.V_drewN | apply Kd.V_drew)); exact HO483.out) (Kd.R_base ho124) hb)
      replace HO486 := Aside0.mk (Kd.V_elder' (by (with_reducible repeat (first | apply Kd.V_alloc | apply Kd.V_drewN | apply Kd.V_drew)); exact HO486.out) (Kd.R_base ho124) hb)
      replace HO492 := Aside0.mk (Kd.V_elder' (by (with_reducible repeat (first | apply Kd.V_alloc | apply Kd.V_drewN | apply Kd.V_drew)); exact HO492.out) (Kd.R_base ho124) hb)
      replace HO495 := Aside0.mk (Kd.V_elder' (by (with_reducible repeat (first | apply Kd.V_alloc | apply Kd.V_drewN | apply Kd.V_drew)); exact HO495.out) (Kd.R_base ho124) hb)
      replace HO499 := Aside0.mk (Kd.V_elder' (by (with_reducible repeat (first | apply Kd.V_alloc | apply Kd.V_drewN | apply Kd.V_drew)); exact HO499.out) (Kd.R_base ho124) hb)
      replace HO502 := Aside0.mk (Kd.V_elder' (by (with_reducible repeat (first | apply Kd.V_alloc | apply Kd.V_drewN | apply Kd.V_drew)); exact HO502.out) (Kd.R_base ho124) hb)
      replace HO506 := Aside0.mk (Kd.V_elder' (by (with_reducible repeat (first | apply Kd.V_alloc | apply Kd.V_drewN | apply Kd.V_drew)); exact HO506.out) (Kd.R_base ho124) hb)
      replace HO509 := Aside0.mk (Kd.V_elder' (by (with_reducible repeat (first | apply Kd.V_alloc | apply Kd.V_drewN | apply Kd.V_drew)); exact HO509.out) (Kd.R_base ho124) hb)
      replace HO512 := Aside0.mk (Kd.V_elder' (by (with_reducible repeat (first | apply Kd.V_alloc | apply Kd.V_drewN | apply Kd.V_drew)); exact HO512.out) (Kd.R_base ho124) hb)
      replace HO515 := Aside0.mk (Kd.V_elder' (by (with_reducible repeat (first | apply Kd.V_alloc | apply Kd.V_drewN | apply Kd.V_drew)); exact HO515.out) (Kd.R_base ho124) hb)
      replace HO519 := Aside0.mk (Kd.V_elder' (by (with_reducible repeat (first | apply Kd.V_alloc | apply Kd.V_drewN | apply Kd.V_drew)); exact HO519.out) (Kd.R_base ho124) hb)
      replace HO522 := Aside0.mk (Kd.V_elder' (by (with_reducible repeat (first | apply Kd.V_alloc | apply Kd.V_drewN | apply Kd.V_drew)); exact HO522.out) (Kd.R_base ho124) hb)
      replace HO525 := Aside0.mk (Kd.V_elder' (by (with_reducible repeat (first | apply Kd.V_alloc | apply Kd.V_drewN | apply Kd.V_drew)); exact HO525.out) (Kd.R_base ho124) hb)
      replace HO528 := Aside0.mk (Kd.V_elder' (by (with_reducible repeat (first | apply Kd.V_alloc | apply Kd.V_drewN | apply Kd.V_drew)); exact HO528.out) (Kd.R_base ho124) hb)
      replace HO532 := Aside0.mk (Kd.V_elder' (by (with_reducible repeat (first | apply Kd.V_alloc | apply Kd.V_drewN | apply Kd.V_drew)); exact HO532.out) (Kd.R_base ho124) hb)
      replace HO535 := Aside0.mk (Kd.V_elder' (by (with_reducible repeat (first | apply Kd.V_alloc | apply Kd.V_drewN | apply Kd.V_drew)); exact HO535.out) (Kd.R_base ho124) hb)
      replace HO538 := Aside0.mk (Kd.V_elder' (by (with_reducible repeat (first | apply Kd.V_alloc | apply Kd.V_drewN | apply Kd.V_drew)); exact HO538.out) (Kd.R_base ho124) hb)
      replace HO541 := Aside0.mk (Kd.V_elder' (by (with_reducible repeat (first | apply Kd.V_alloc | apply Kd.V_drewN | apply Kd.V_drew)); exact HO541.out) (Kd.R_base ho124) hb)
      replace HO544 := Aside0.mk (Kd.V_elder' (by (with_reducible repeat (first | apply Kd.V_alloc | apply Kd.V_drewN | apply Kd.V_drew)); exact HO544.out) (Kd.R_base ho124) hb)
      have HO549 := Aside0.mk (Kd.R_lower ho124 (bz HB.out))
      replace BK478 := Aside0.mk (bb BK478.out hb)
      replace BK479 := Aside0.mk (bb BK479.out hb)
      replace BK480 := Aside0.mk (bb BK480.out hb)
      replace BK488 := Aside0.mk (bb BK488.out hb)
      replace HB := Aside0.mk (bs HB.out hb)
      clear hb ho124
      obtain ⟨Ao125, co125, eo125⟩ := Kd.R_slice HO549.out
      (first | subst eo125 | (injection eo125 with f1_ f2_ f3_; have f4_ := f1_.symm; have f5_ := f3_.symm; clear f1_ f2_ f3_; subst f4_; subst f5_))
      refine hK.out _ _ ⟨(blk_cell BK478.out 0).trans rfl, (blk_cell BK479.out 0).trans rfl, (blk_cell BK480.out 0).trans rfl, (blk_cell BK488.out 0).trans rfl⟩ (fun hHeld => ?_)
      clear hK K
      refine norm_ (a' := ?_) ?_ ?_
      rotate_left
      · show Act.put _ (some 105) _ = _
        simp only [Act.put, List.setIfInBounds_toArray, List.set_cons_zero, List.set_cons_succ, i64_w, i32_w]
        rfl
      refine one_ (i := 77) (N := some 106) (fl 78 90 [79]) rfl rfl (one_of HT_.out (by kernel_rfl)) (by decide) (fun K hK => ?_)
      refine goes_ Try.func14 (by kernel_rfl) rfl #[.slice Ao125 y547.length co125] (by rfl) rfl rfl (by (try simp only [List.map_toArray, List.map_cons, List.map_nil]); first | done | rfl | (simp only [List.length_drop, List.length_take]; rfl)) ?_
      with_reducible refine (nat_Of.calls k _ _ y547 t550 _ ?side1 ?side2 A44.out).mono ?_
      (case side1 => exact cr HO549.out)
      (case side2 => exact (Kd.R_reads' HO549.out).2.1)
      rintro e w126 ⟨v551, rfl, ho0, hb⟩
      refine ⟨_, rfl, ?_⟩
      have n0_ := Aside0.mk (vb HO462.out hb)
      have n1_ := Aside0.mk (vb HO465.out hb)
      have n2_ := Aside0.mk (vb HO468.out hb)
      have n3_ := Aside0.mk (vb HO471.out hb)
      have n4_ := Aside0.mk (vb HO474.out hb)
      have n5_ := Aside0.mk (vb HO477.out hb)
      have n6_ := Aside0.mk (vb HO483.out hb)
      have n7_ := Aside0.mk (vb HO486.out hb)
      have n8_ := Aside0.mk (vb HO492.out hb)
      have n9_ := Aside0.mk (vb HO495.out hb)
      have n10_ := Aside0.mk (vb HO499.out hb)
      have n11_ := Aside0.mk (vb HO502.out hb)
      have n12_ := Aside0.mk (vb HO506.out hb)
      have n13_ := Aside0.mk (vb HO509.out hb)
      have n14_ := Aside0.mk (vb HO512.out hb)
      have n15_ := Aside0.mk (vb HO515.out hb)
      have n16_ := Aside0.mk (vb HO519.out hb)
      have n17_ := Aside0.mk (vb HO522.out hb)
      have n18_ := Aside0.mk (vb HO525.out hb)
      have n19_ := Aside0.mk (vb HO528.out hb)
      have n20_ := Aside0.mk (vb HO532.out hb)
      have n21_ := Aside0.mk (vb HO535.out hb)
      have n22_ := Aside0.mk (vb HO538.out hb)
      have n23_ := Aside0.mk (vb HO541.out hb)
      have n24_ := Aside0.mk (vb HO544.out hb)
      have n25_ := Aside0.mk (rb HO549.out hb)
      have n26_ := Aside0.mk (Kd.V_lower (Kd.V_mono (ok' := fun k_ => some k_ ≠ (.slice Ao125 y547.length co125 : Value).ownBlock ∧ k_ ≠ gb478 ∧ k_ ≠ gb479 ∧ k_ ≠ gb480 ∧ k_ ≠ gb488) ho0 (fun k_ hk_ => ⟨(Kd.fresh' (Kd.R_lt (by (with_reducible repeat (first | apply Kd.R_alloc | apply Kd.R_drewN | apply Kd.R_drew)); exact HO549.out)) k_ hk_), (fb BK478.out k_ hk_), (fb BK479.out k_ hk_), (fb BK480.out k_ hk_), (fb BK488.out k_ hk_)⟩)) (bz HB.out))
      have n27_ := Aside0.mk (bb BK478.out hb)
      have n28_ := Aside0.mk (bb BK479.out hb)
      have n29_ := Aside0.mk (bb BK480.out hb)
      have n30_ := Aside0.mk (bb BK488.out hb)
      have n31_ := Aside0.mk (bs HB.out hb)
      clear HO462
      clear HO465
      clear HO468
      clear HO471
      clear HO474
      clear HO477
      clear HO483
      clear HO486
      clear HO492
      clear HO495
      clear HO499
      clear HO502
      clear HO506
      clear HO509
      clear HO512
      clear HO515
      clear HO519
      clear HO522
      clear HO525
      clear HO528
      clear HO532
      clear HO535
      clear HO538
      clear HO541
      clear HO544
      clear HO549
      clear BK478
      clear BK479
      clear BK480
      clear BK488
      clear HB
      have HO462 := n0_
      have HO465 := n1_
      have HO468 := n2_
      have HO471 := n3_
      have HO474 := n4_
      have HO477 := n5_
      have HO483 := n6_
      have HO486 := n7_
      have HO492 := n8_
      have HO495 := n9_
      have HO499 := n10_
      have HO502 := n11_
      have HO506 := n12_
      have HO509 := n13_
      have HO512 := n14_
      have HO515 := n15_
      have HO519 := n16_
      have HO522 := n17_
      have HO525 := n18_
      have HO528 := n19_
      have HO532 := n20_
      have HO535 := n21_
      have HO538 := n22_
      have HO541 := n23_
      have HO544 := n24_
      have HO549 := n25_
      have HO552 := n26_
      have BK478 := n27_
      have BK479 := n28_
      have BK480 := n29_
      have BK488 := n30_
      have HB := n31_
      clear n0_ n1_ n2_ n3_ n4_ n5_ n6_ n7_ n8_ n9_ n10_ n11_ n12_ n13_ n14_ n15_ n16_ n17_ n18_ n19_ n20_ n21_ n22_ n23_ n24_ n25_ n26_ n27_ n28_ n29_ n30_ n31_
      (try clear hb)
      (try clear hb2)
      (try clear hk)
      (try clear hi)
      (try clear ho0)
      obtain ⟨Ao127, co127, eo127⟩ := Kd.V_slice HO552.out
      (first | subst eo127 | (injection eo127 with f1_ f2_ f3_; have f4_ := f1_.symm; have f5_ := f3_.symm; clear f1_ f2_ f3_; subst f4_; subst f5_))
      refine hK.out _ _ ⟨(blk_cell BK478.out 0).trans rfl, (blk_cell BK479.out 0).trans rfl, (blk_cell BK480.out 0).trans rfl, (blk_cell BK488.out 0).trans rfl⟩ (fun hHeld => ?_)
      clear hK K
      refine norm_ (a' := ?_) ?_ ?_
      rotate_left
      · show Act.put _ (some 106) _ = _
        simp only [Act.put, List.setIfInBounds_toArray, List.set_cons_zero, List.set_cons_succ, i64_w, i32_w]
        rfl
      refine one_ (i := 78) (N := some 107) (fl 80 90 []) rfl rfl (one_of HT_.out (by kernel_rfl)) (by decide) (fun K hK => ?_)
      refine goes_ Try.func24 (by kernel_rfl) rfl #[.agg #[.slice Ao62 t463.length co62], .agg #[.slice Ao127 t550.length co127]] (by rfl) rfl rfl (by (try simp only [List.map_toArray, List.map_cons, List.map_nil]); first | done | rfl | (simp only [List.length_drop, List.length_take]; rfl)) ?_
      with_reducible refine (nat_Nat_Mul.calls k _ _ t463 _ _ t550 t553 _ ?side1 ?side2 ?side3 ?side4 A45.out).mono ?_
      (case side1 => exact cv HO465.out)
      (case side2 => exact (Kd.V_reads' HO465.out).2.1)
      (case side3 => exact cv HO552.out)
      (case side4 => exact (Kd.V_reads' HO552.out).2.1)
      rintro e w128 ⟨v554, rfl, ho0, hb⟩
      refine ⟨_, rfl, ?_⟩
      have n0_ := Aside0.mk (vb HO462.out hb)
      have n1_ := Aside0.mk (vb HO465.out hb)
      have n2_ := Aside0.mk (vb HO468.out hb)
      have n3_ := Aside0.mk (vb HO471.out hb)
      have n4_ := Aside0.mk (vb HO474.out hb)
      have n5_ := Aside0.mk (vb HO477.out hb)
      have n6_ := Aside0.mk (vb HO483.out hb)
      have n7_ := Aside0.mk (vb HO486.out hb)
      have n8_ := Aside0.mk (vb HO492.out hb)
      have n9_ := Aside0.mk (vb HO495.out hb)
      have n10_ := Aside0.mk (vb HO499.out hb)
      have n11_ := Aside0.mk (vb HO502.out hb)
      have n12_ := Aside0.mk (vb HO506.out hb)
      have n13_ := Aside0.mk (vb HO509.out hb)
      have n14_ := Aside0.mk (vb HO512.out hb)
      have n15_ := Aside0.mk (vb HO515.out hb)
      have n16_ := Aside0.mk (vb HO519.out hb)
      have n17_ := Aside0.mk (vb HO522.out hb)
      have n18_ := Aside0.mk (vb HO525.out hb)
      have n19_ := Aside0.mk (vb HO528.out hb)
      have n20_ := Aside0.mk (vb HO532.out hb)
      have n21_ := Aside0.mk (vb HO535.out hb)
      have n22_ := Aside0.mk (vb HO538.out hb)
      have n23_ := Aside0.mk (vb HO541.out hb)
      have n24_ := Aside0.mk (vb HO544.out hb)
      have n25_ := Aside0.mk (rb HO549.out hb)
      have n26_ := Aside0.mk (vb HO552.out hb)
      have n27_ := Aside0.mk (Kd.V_lower (Kd.V_mono (ok' := fun k_ => some k_ ≠ (.slice Ao125 y547.length co125 : Value).ownBlock ∧ k_ ≠ gb478 ∧ k_ ≠ gb479 ∧ k_ ≠ gb480 ∧ k_ ≠ gb488) ho0 (fun k_ hk_ => ⟨(Kd.fresh' (Kd.R_lt (by (with_reducible repeat (first | apply Kd.R_alloc | apply Kd.R_drewN | apply Kd.R_drew)); exact HO549.out)) k_ hk_), (fb BK478.out k_ hk_), (fb BK479.out k_ hk_), (fb BK480.out k_ hk_), (fb BK488.out k_ hk_)⟩)) (bz HB.out))
      have n28_ := Aside0.mk (bb BK478.out hb)
      have n29_ := Aside0.mk (bb BK479.out hb)
      have n30_ := Aside0.mk (bb BK480.out hb)
      have n31_ := Aside0.mk (bb BK488.out hb)
      have n32_ := Aside0.mk (bs HB.out hb)
      clear HO462
      clear HO465
      clear HO468
      clear HO471
      clear HO474
      clear HO477
      clear HO483
      clear HO486
      clear HO492
      clear HO495
      clear HO499
      clear HO502
      clear HO506
      clear HO509
      clear HO512
      clear HO515
      clear HO519
      clear HO522
      clear HO525
      clear HO528
      clear HO532
      clear HO535
      clear HO538
      clear HO541
      clear HO544
      clear HO549
      clear HO552
      clear BK478
      clear BK479
      clear BK480
      clear BK488
      clear HB
      have HO462 := n0_
      have HO465 := n1_
      have HO468 := n2_
      have HO471 := n3_
      have HO474 := n4_
      have HO477 := n5_
      have HO483 := n6_
      have HO486 := n7_
      have HO492 := n8_
      have HO495 := n9_
      have HO499 := n10_
      have HO502 := n11_
      have HO506 := n12_
      have HO509 := n13_
      have HO512 := n14_
      have HO515 := n15_
      have HO519 := n16_
      have HO522 := n17_
      have HO525 := n18_
      have HO528 := n19_
      have HO532 := n20_
      have HO535 := n21_
      have HO538 := n22_
      have HO541 := n23_
      have HO544 := n24_
      have HO549 := n25_
      have HO552 := n26_
      have HO555 := n27_
      have BK478 := n28_
      have BK479 := n29_
      have BK480 := n30_
      have BK488 := n31_
      have HB := n32_
      clear n0_ n1_ n2_ n3_ n4_ n5_ n6_ n7_ n8_ n9_ n10_ n11_ n12_ n13_ n14_ n15_ n16_ n17_ n18_ n19_ n20_ n21_ n22_ n23_ n24_ n25_ n26_ n27_ n28_ n29_ n30_ n31_ n32_
      (try clear hb)
      (try clear hb2)
      (try clear hk)
      (try clear hi)
      (try clear ho0)
      obtain ⟨Ao129, co129, eo129⟩ := Kd.V_slice HO555.out
      (first | subst eo129 | (injection eo129 with f1_ f2_ f3_; have f4_ := f1_.symm; have f5_ := f3_.symm; clear f1_ f2_ f3_; subst f4_; subst f5_))
      refine hK.out _ _ ⟨(blk_cell BK478.out 0).trans rfl, (blk_cell BK479.out 0).trans rfl, (blk_cell BK480.out 0).trans rfl, (blk_cell BK488.out 0).trans rfl⟩ (fun hHeld => ?_)
      clear hK K
      refine norm_ (a' := ?_) ?_ ?_
      rotate_left
      · show Act.put _ (some 107) _ = _
        simp only [Act.put, List.setIfInBounds_toArray, List.set_cons_zero, List.set_cons_succ, i64_w, i32_w]
        rfl
      refine one_ (i := 80) (N := some 109) (fl 81 90 []) rfl rfl (one_of HT_.out (by kernel_rfl)) (by decide) (fun K hK => ?_)
      refine goes_ Try.func21 (by kernel_rfl) rfl #[.agg #[.slice Ao129 t553.length co129], .agg #[.slice Ao62 t463.length co62]] (by rfl) rfl rfl (by (try simp only [List.map_toArray, List.map_cons, List.map_nil]); first | done | rfl | (simp only [List.length_drop, List.length_take]; rfl)) ?_
      with_reducible refine (nat_Nat_Cmp.calls k _ _ t553 _ _ t463 t556 _ ?side1 ?side2 ?side3 ?side4 A46.out).mono ?_
      (case side1 => exact cv HO555.out)
      (case side2 => exact (Kd.V_reads' HO555.out).2.1)
      (case side3 => exact cv HO465.out)
      (case side4 => exact (Kd.V_reads' HO465.out).2.1)
      rintro e w130 ⟨rfl, hb⟩
      refine ⟨_, rfl, ?_⟩
      replace HO462 := Aside0.mk (vb HO462.out hb)
      replace HO465 := Aside0.mk (vb HO465.out hb)
      replace HO468 := Aside0.mk (vb HO468.out hb)
      replace HO471 := Aside0.mk (vb HO471.out hb)
      replace HO474 := Aside0.mk (vb HO474.out hb)
      replace HO477 := Aside0.mk (vb HO477.out hb)
      replace HO483 := Aside0.mk (vb HO483.out hb)
      replace HO486 := Aside0.mk (vb HO486.out hb)
      replace HO492 := Aside0.mk (vb HO492.out hb)
      replace HO495 := Aside0.mk (vb HO495.out hb)
      replace HO499 := Aside0.mk (vb HO499.out hb)
      replace HO502 := Aside0.mk (vb HO502.out hb)
      replace HO506 := Aside0.mk (vb HO506.out hb)
      replace HO509 := Aside0.mk (vb HO509.out hb)
      replace HO512 := Aside0.mk (vb HO512.out hb)
      replace HO515 := Aside0.mk (vb HO515.out hb)
      replace HO519 := Aside0.mk (vb HO519.out hb)
      replace HO522 := Aside0.mk (vb HO522.out hb)
      replace HO525 := Aside0.mk (vb HO525.out hb)
      replace HO528 := Aside0.mk (vb HO528.out hb)
      replace HO532 := Aside0.mk (vb HO532.out hb)
      replace HO535 := Aside0.mk (vb HO535.out hb)
      replace HO538 := Aside0.mk (vb HO538.out hb)
      replace HO541 := Aside0.mk (vb HO541.out hb)
      replace HO544 := Aside0.mk (vb HO544.out hb)
      replace HO549 := Aside0.mk (rb HO549.out hb)
      replace HO552 := Aside0.mk (vb HO552.out hb)
      replace HO555 := Aside0.mk (vb HO555.out hb)
      replace BK478 := Aside0.mk (bb BK478.out hb)
      replace BK479 := Aside0.mk (bb BK479.out hb)
      replace BK480 := Aside0.mk (bb BK480.out hb)
      replace BK488 := Aside0.mk (bb BK488.out hb)
      replace HB := Aside0.mk (bs HB.out hb)
      (try clear hb)
      (try clear hb2)
      (try clear hk)
      (try clear hi)
      refine hK.out _ _ ⟨(blk_cell BK478.out 0).trans rfl, (blk_cell BK479.out 0).trans rfl, (blk_cell BK480.out 0).trans rfl, (blk_cell BK488.out 0).trans rfl⟩ (fun hHeld => ?_)
      clear hK K
      refine norm_ (a' := ?_) ?_ ?_
      rotate_left
      · show Act.put _ (some 109) _ = _
        simp only [Act.put, List.setIfInBounds_toArray, List.set_cons_zero, List.set_cons_succ, i64_w, i32_w]
        rfl
      refine pure_ (i := 81) (N := some 110) (v := ?_) (a' := ?_) (fl 82 90 []) rfl rfl (any_of HT_.out (by kernel_rfl)) (fun _ _ _ h => h) (Or.inl ⟨by rfl, ?_⟩) ?_ ?_
      rotate_left
      · intro w'
        go_simp
        with_reducible rfl
      rotate_left
      · simp only [Act.put, List.setIfInBounds_toArray, List.set_cons_zero, List.set_cons_succ, i64_w, i32_w]
        rfl
      refine pure_ (i := 82) (N := some 111) (v := ?_) (a' := ?_) (fl 83 90 []) rfl rfl (any_of HT_.out (by kernel_rfl)) (fun _ _ _ h => h) (Or.inl ⟨by rfl, ?_⟩) ?_ ?_
      rotate_left
      · intro w'
        go_simp
        with_reducible rfl
      rotate_left
      · simp only [Act.put, List.setIfInBounds_toArray, List.set_cons_zero, List.set_cons_succ, i64_w, i32_w]
        rfl
      refine pure_ (i := 83) (N := some 112) (v := ?_) (a' := ?_) (fl 84 90 []) rfl rfl (any_of HT_.out (by kernel_rfl)) (fun _ _ _ h => h) (Or.inl ⟨by rfl, ?_⟩) ?_ ?_
      rotate_left
      · intro w'
        go_simp
        with_reducible rfl
      rotate_left
      · simp only [Act.put, List.setIfInBounds_toArray, List.set_cons_zero, List.set_cons_succ, i64_w, i32_w]
        rfl
      refine pure_ (i := 85) (N := some 114) (v := ?_) (a' := ?_) (fl 84 90 [85]) rfl rfl (any_of HT_.out (by kernel_rfl)) (fun _ _ _ h => h) (Or.inl ⟨by rfl, ?_⟩) ?_ ?_
      rotate_left
      · intro w'
        go_simp
        with_reducible rfl
      rotate_left
      · simp only [Act.put, List.setIfInBounds_toArray, List.set_cons_zero, List.set_cons_succ, i64_w, i32_w]
        rfl
      refine take_ (i := 84) (N := some 113) (v := ?_) (a' := ?_) (fl 86 90 []) rfl rfl (take_ofW HT_.out HW_.out (by kernel_rfl)) (fun _ _ _ h => h) (Or.inl ⟨by rfl, ?_⟩) hHeld ?_ ?_
      rotate_left
      · rintro w' ⟨s0, s1, s2, s3⟩
        go_simp
        with_reducible rfl
      rotate_left
      · simp only [Act.put, List.setIfInBounds_toArray, List.set_cons_zero, List.set_cons_succ, i64_w, i32_w]
        rfl
      refine one_ (i := 86) (N := some 115) (fl 87 90 []) rfl rfl (one_of HT_.out (by kernel_rfl)) (by decide) (fun K hK => ?_)
      refine goes_ Try.func24 (by kernel_rfl) rfl #[.agg #[.slice Ao62 t463.length co62], .agg #[.slice none 0 0]] (by rfl) rfl rfl (by (try simp only [List.map_toArray, List.map_cons, List.map_nil]); first | done | rfl | (simp only [List.length_drop, List.length_take]; rfl)) ?_
      refine (nat_Nat_Mul.calls k _ _ t463 _ _ ([] : List Int) t557 _ ?side1 ?side2 ?side3 ?side4 A48.out).mono ?_
      (case side1 => exact cv HO465.out)
      (case side2 => exact (Kd.V_reads' HO465.out).2.1)
      (case side3 => exact Kd.C_nil _ _)
      (case side4 => exact Nat.le_refl _)
      rintro e w131 ⟨v558, rfl, ho0, hb⟩
      refine ⟨_, rfl, ?_⟩
      have n0_ := Aside0.mk (vb HO462.out hb)
      have n1_ := Aside0.mk (vb HO465.out hb)
      have n2_ := Aside0.mk (vb HO468.out hb)
      have n3_ := Aside0.mk (vb HO471.out hb)
      have n4_ := Aside0.mk (vb HO474.out hb)
      have n5_ := Aside0.mk (vb HO477.out hb)
      have n6_ := Aside0.mk (vb HO483.out hb)
      have n7_ := Aside0.mk (vb HO486.out hb)
      have n8_ := Aside0.mk (vb HO492.out hb)
      have n9_ := Aside0.mk (vb HO495.out hb)
      have n10_ := Aside0.mk (vb HO499.out hb)
      have n11_ := Aside0.mk (vb HO502.out hb)
      have n12_ := Aside0.mk (vb HO506.out hb)
      have n13_ := Aside0.mk (vb HO509.out hb)
      have n14_ := Aside0.mk (vb HO512.out hb)
      have n15_ := Aside0.mk (vb HO515.out hb)
      have n16_ := Aside0.mk (vb HO519.out hb)
      have n17_ := Aside0.mk (vb HO522.out hb)
      have n18_ := Aside0.mk (vb HO525.out hb)
      have n19_ := Aside0.mk (vb HO528.out hb)
      have n20_ := Aside0.mk (vb HO532.out hb)
      have n21_ := Aside0.mk (vb HO535.out hb)
      have n22_ := Aside0.mk (vb HO538.out hb)
      have n23_ := Aside0.mk (vb HO541.out hb)
      have n24_ := Aside0.mk (vb HO544.out hb)
      have n25_ := Aside0.mk (rb HO549.out hb)
      have n26_ := Aside0.mk (vb HO552.out hb)
      have n27_ := Aside0.mk (vb HO555.out hb)
      have n28_ := Aside0.mk (Kd.V_lower (Kd.V_mono (ok' := fun k_ => some k_ ≠ (.slice Ao125 y547.length co125 : Value).ownBlock ∧ k_ ≠ gb478 ∧ k_ ≠ gb479 ∧ k_ ≠ gb480 ∧ k_ ≠ gb488) ho0 (fun k_ hk_ => ⟨(Kd.fresh' (Kd.R_lt (by (with_reducible repeat (first | apply Kd.R_alloc | apply Kd.R_drewN | apply Kd.R_drew)); exact HO549.out)) k_ hk_), (fb BK478.out k_ hk_), (fb BK479.out k_ hk_), (fb BK480.out k_ hk_), (fb BK488.out k_ hk_)⟩)) (bz HB.out))
      have n29_ := Aside0.mk (bb BK478.out hb)
      have n30_ := Aside0.mk (bb BK479.out hb)
      have n31_ := Aside0.mk (bb BK480.out hb)
      have n32_ := Aside0.mk (bb BK488.out hb)
      have n33_ := Aside0.mk (bs HB.out hb)
      clear HO462
      clear HO465
      clear HO468
      clear HO471
      clear HO474
      clear HO477
      clear HO483
      clear HO486
      clear HO492
      clear HO495
      clear HO499
      clear HO502
      clear HO506
      clear HO509
      clear HO512
      clear HO515
      clear HO519
      clear HO522
      clear HO525
      clear HO528
      clear HO532
      clear HO535
      clear HO538
      clear HO541
      clear HO544
      clear HO549
      clear HO552
      clear HO555
      clear BK478
      clear BK479
      clear BK480
      clear BK488
      clear HB
      have HO462 := n0_
      have HO465 := n1_
      have HO468 := n2_
      have HO471 := n3_
      have HO474 := n4_
      have HO477 := n5_
      have HO483 := n6_
      have HO486 := n7_
      have HO492 := n8_
      have HO495 := n9_
      have HO499 := n10_
      have HO502 := n11_
      have HO506 := n12_
      have HO509 := n13_
      have HO512 := n14_
      have HO515 := n15_
      have HO519 := n16_
      have HO522 := n17_
      have HO525 := n18_
      have HO528 := n19_
      have HO532 := n20_
      have HO535 := n21_
      have HO538 := n22_
      have HO541 := n23_
      have HO544 := n24_
      have HO549 := n25_
      have HO552 := n26_
      have HO555 := n27_
      have HO559 := n28_
      have BK478 := n29_
      have BK479 := n30_
      have BK480 := n31_
      have BK488 := n32_
      have HB := n33_
      clear n0_ n1_ n2_ n3_ n4_ n5_ n6_ n7_ n8_ n9_ n10_ n11_ n12_ n13_ n14_ n15_ n16_ n17_ n18_ n19_ n20_ n21_ n22_ n23_ n24_ n25_ n26_ n27_ n28_ n29_ n30_ n31_ n32_ n33_
      (try clear hb)
      (try clear hb2)
      (try clear hk)
      (try clear hi)
      (try clear ho0)
      obtain ⟨Ao132, co132, eo132⟩ := Kd.V_slice HO559.out
      (first | subst eo132 | (injection eo132 with f1_ f2_ f3_; have f4_ := f1_.symm; have f5_ := f3_.symm; clear f1_ f2_ f3_; subst f4_; subst f5_))
      refine hK.out _ _ ⟨(blk_cell BK478.out 0).trans rfl, (blk_cell BK479.out 0).trans rfl, (blk_cell BK480.out 0).trans rfl, (blk_cell BK488.out 0).trans rfl⟩ (fun hHeld => ?_)
      clear hK K
      refine norm_ (a' := ?_) ?_ ?_
      rotate_left
      · show Act.put _ (some 115) _ = _
        simp only [Act.put, List.setIfInBounds_toArray, List.set_cons_zero, List.set_cons_succ, i64_w, i32_w]
        rfl
      refine one_ (i := 87) (N := some 116) (fl 88 90 []) rfl rfl (one_of HT_.out (by kernel_rfl)) (by decide) (fun K hK => ?_)
      refine goes_ Try.func18 (by kernel_rfl) rfl #[.agg #[.slice Ao132 t557.length co132]] (by rfl) rfl rfl (by (try simp only [List.map_toArray, List.map_cons, List.map_nil]); first | done | rfl | (simp only [List.length_drop, List.length_take]; rfl)) ?_
      with_reducible refine (nat_Nat_Zero.calls _ _ t557 t560 _ ?side1 ?side2 A49.out).mono ?_
      (case side1 => exact cv HO559.out)
      (case side2 => exact (Kd.V_reads' HO559.out).2.1)
      rintro e w133 ⟨rfl, hb⟩
      refine ⟨_, rfl, ?_⟩
      replace HO462 := Aside0.mk (vb HO462.out hb)
      replace HO465 := Aside0.mk (vb HO465.out hb)
      replace HO468 := Aside0.mk (vb HO468.out hb)
      replace HO471 := Aside0.mk (vb HO471.out hb)
      replace HO474 := Aside0.mk (vb HO474.out hb)
      replace HO477 := Aside0.mk (vb HO477.out hb)
      replace HO483 := Aside0.mk (vb HO483.out hb)
      replace HO486 := Aside0.mk (vb HO486.out hb)
      replace HO492 := Aside0.mk (vb HO492.out hb)
      replace HO495 := Aside0.mk (vb HO495.out hb)
      replace HO499 := Aside0.mk (vb HO499.out hb)
      replace HO502 := Aside0.mk (vb HO502.out hb)
      replace HO506 := Aside0.mk (vb HO506.out hb)
      replace HO509 := Aside0.mk (vb HO509.out hb)
      replace HO512 := Aside0.mk (vb HO512.out hb)
      replace HO515 := Aside0.mk (vb HO515.out hb)
      replace HO519 := Aside0.mk (vb HO519.out hb)
      replace HO522 := Aside0.mk (vb HO522.out hb)
      replace HO525 := Aside0.mk (vb HO525.out hb)
      replace HO528 := Aside0.mk (vb HO528.out hb)
      replace HO532 := Aside0.mk (vb HO532.out hb)
      replace HO535 := Aside0.mk (vb HO535.out hb)
      replace HO538 := Aside0.mk (vb HO538.out hb)
      replace HO541 := Aside0.mk (vb HO541.out hb)
      replace HO544 := Aside0.mk (vb HO544.out hb)
      replace HO549 := Aside0.mk (rb HO549.out hb)
      replace HO552 := Aside0.mk (vb HO552.out hb)
      replace HO555 := Aside0.mk (vb HO555.out hb)
      replace HO559 := Aside0.mk (vb HO559.out hb)
      replace BK478 := Aside0.mk (bb BK478.out hb)
      replace BK479 := Aside0.mk (bb BK479.out hb)
      replace BK480 := Aside0.mk (bb BK480.out hb)
      replace BK488 := Aside0.mk (bb BK488.out hb)
      replace HB := Aside0.mk (bs HB.out hb)
      (try clear hb)
      (try clear hb2)
      (try clear hk)
      (try clear hi)
      refine hK.out _ _ ⟨(blk_cell BK478.out 0).trans rfl, (blk_cell BK479.out 0).trans rfl, (blk_cell BK480.out 0).trans rfl, (blk_cell BK488.out 0).trans rfl⟩ (fun hHeld => ?_)
      clear hK K
      refine norm_ (a' := ?_) ?_ ?_
      rotate_left
      · show Act.put _ (some 116) _ = _
        simp only [Act.put, List.setIfInBounds_toArray, List.set_cons_zero, List.set_cons_succ, i64_w, i32_w]
        rfl
      refine pure_ (i := 88) (N := some 117) (v := ?_) (a' := ?_) (fl 89 90 []) rfl rfl (any_of HT_.out (by kernel_rfl)) (fun _ _ _ h => h) (Or.inl ⟨by rfl, ?_⟩) ?_ ?_
      rotate_left
      · intro w'
        go_simp
        with_reducible rfl
      rotate_left
      · simp only [Act.put, List.setIfInBounds_toArray, List.set_cons_zero, List.set_cons_succ, i64_w, i32_w]
        rfl
      refine pure_ (i := 89) (N := some 6) (v := ?_) (a' := ?_) (fl 90 90 []) rfl rfl (any_of HT_.out (by kernel_rfl)) (fun _ _ _ h => h) (Or.inl ⟨by rfl, ?_⟩) ?_ ?_
      rotate_left
      · intro w'
        go_simp
        with_reducible rfl
      rotate_left
      · simp only [Act.put, List.setIfInBounds_toArray, List.set_cons_zero, List.set_cons_succ, i64_w, i32_w]
        rfl
      refine done_ (done_of HT_.out (by kernel_rfl)) ?_
      try go_wp2
      go_ret
      exact ⟨by first | rfl | (simp [errW_none, errW_some] <;> rfl) | (simp [*, errW_none, errW_some] <;> rfl), by repeat (first | (with_reducible first | exact HB.out | apply below_alloc | apply pw_below_drewN | apply below_drew1 | refine below_set ?_ GE478.out | refine below_set ?_ GE479.out | refine below_set ?_ GE480.out | refine below_set ?_ GE488.out) | exact HB.out)⟩
    · replace c41 := Bool.eq_false_iff.mpr c41
      subst c41
      have H1 : (some false) = some r := by rw [if_neg (show ¬ (false = true) by decide)] at H; exact H
      clear H
      have H := H1
      clear H1
      exact absurd (Option.some.inj H) (by rw [ht_]; decide)
  · replace c13 := Bool.eq_false_iff.mpr c13
    subst c13
    have H1 : (some false) = some r := by rw [if_neg (show ¬ (false = true) by decide)] at H; exact H
    clear H
    have H := H1
    clear H1
    exact absurd (Option.some.inj H) (by rw [ht_]; decide)

/-- THE ONE PURE STATEMENT of chattellaw01_NatRules: yours. -/
def chattellaw01_NatRules.Pure : Prop := ∀ (l0 : List Int) (l1 : List Int) (l2 : List Int), l0.length ≤ maxLen → l0.length * 8 ≤ 140737488351232 → (∀ x ∈ l0, (Lit.int .u64 x).wf = true) → l1.length ≤ maxLen → l1.length * 8 ≤ 140737488351232 → (∀ x ∈ l1, (Lit.int .u64 x).wf = true) → l2.length ≤ maxLen → l2.length * 8 ≤ 140737488351232 → (∀ x ∈ l2, (Lit.int .u64 x).wf = true) → ∃ k, chattellaw01_NatRules.f k l0 l1 l2 = some true
theorem chattellaw01_NatRules.walk (P : chattellaw01_NatRules.Pure) (a0 : Option Addr) (len0 cap0 : Nat) (z0 : List Int) (a1 : Option Addr) (len1 cap1 : Nat) (z1 : List Int) (a2 : Option Addr) (len2 cap2 : Nat) (z2 : List Int) (w : World) (w0 : (a0 = none ∧ len0 = 0 ∧ cap0 = 0 ∧ z0 = []) ∨ ∃ x, a0 = some x ∧ len0 ≤ cap0 ∧ cap0 ≤ maxLen ∧ z0.length = cap0 ∧ (∀ i, i < z0.length → w.cell? (x.add i) = some (.int .u64 (z0.getD i 0))) ∧ ∀ n ∈ z0, (Lit.int .u64 n).wf = true) (y0 : len0 * 8 ≤ 140737488351232) (w1 : (a1 = none ∧ len1 = 0 ∧ cap1 = 0 ∧ z1 = []) ∨ ∃ x, a1 = some x ∧ len1 ≤ cap1 ∧ cap1 ≤ maxLen ∧ z1.length = cap1 ∧ (∀ i, i < z1.length → w.cell? (x.add i) = some (.int .u64 (z1.getD i 0))) ∧ ∀ n ∈ z1, (Lit.int .u64 n).wf = true) (y1 : len1 * 8 ≤ 140737488351232) (w2 : (a2 = none ∧ len2 = 0 ∧ cap2 = 0 ∧ z2 = []) ∨ ∃ x, a2 = some x ∧ len2 ≤ cap2 ∧ cap2 ≤ maxLen ∧ z2.length = cap2 ∧ (∀ i, i < z2.length → w.cell? (x.add i) = some (.int .u64 (z2.getD i 0))) ∧ ∀ n ∈ z2, (Lit.int .u64 n).wf = true) (y2 : len2 * 8 ≤ 140737488351232) :
    Calls Try.prog 6 #[.slice a0 len0 cap0, .slice a1 len1 cap1, .slice a2 len2 cap2] w fun e w' => e = .returned (.bool true) ∧ Below w.heap.size w w' := by
  obtain ⟨l0, rfl, hr0, hm0, hw0, hc0⟩ := ReadsInt.ofRowC w0
  obtain ⟨l1, rfl, hr1, hm1, hw1, hc1⟩ := ReadsInt.ofRowC w1
  obtain ⟨l2, rfl, hr2, hm2, hw2, hc2⟩ := ReadsInt.ofRowC w2
  obtain ⟨k, h⟩ := P l0 l1 l2 hm0 y0 hw0 hm1 y1 hw1 hm2 y2 hw2
  refine (chattellaw01_NatRules.calls k _ _ l0 _ _ l1 _ _ l2 true w (Kd.C_of_reads (d := (0 : Int)) (h1 := fun _ => rfl) hr0) hc0 (Kd.C_of_reads (d := (0 : Int)) (h1 := fun _ => rfl) hr1) hc1 (Kd.C_of_reads (d := (0 : Int)) (h1 := fun _ => rfl) hr2) hc2 h rfl).mono ?_
  rintro e w' ⟨rfl, hd⟩
  exact ⟨rfl, hd⟩

end Go.Proofs.Ytebjbmgfbejapaa.F
