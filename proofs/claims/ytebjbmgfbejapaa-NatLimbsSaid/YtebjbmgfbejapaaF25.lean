-- Written by this session's printer (wip/tools), out of the translation's own print. Lean checks it.
import Derived.Test.YtebjbmgfbejapaaF0
import Derived.Test.YtebjbmgfbejapaaF1
import Derived.Test.YtebjbmgfbejapaaF2
import Derived.Test.YtebjbmgfbejapaaF4
import Derived.Test.YtebjbmgfbejapaaF5
import Derived.Test.YtebjbmgfbejapaaF6
import Derived.Test.YtebjbmgfbejapaaF7
import Derived.Test.YtebjbmgfbejapaaF9
import Derived.Test.YtebjbmgfbejapaaF14
import Derived.Test.YtebjbmgfbejapaaF17
import Derived.Test.YtebjbmgfbejapaaF18
import Derived.Test.YtebjbmgfbejapaaF24
namespace Go.Proofs.Ytebjbmgfbejapaa.F
open Go.RowKit Go.Proofs.YtebjbmgfbejapaaW.PrintWords Go.Proofs.YtebjbmgfbejapaaW.PrintLast Go.Proofs.YtebjbmgfbejapaaW.PrintMore Go.Proofs.YtebjbmgfbejapaaX
attribute [local go_sem] max2_int xrun_add64 xrun_sub64
attribute [local go_sem] max2_int min2_int max_two min_two max_three min_three max_four min_four   -- for this text's walks alone
set_option linter.unusedVariables false
set_option linter.unusedSimpArgs false

/-! ### chattellaw01_NatLimbs: function 3 -/
mutual
def chattellaw01_NatLimbs.j1 : Nat → List Int → List Int → List Int → List Int → List Int → Option (Bool)
  | 0, _, _, _, _, _ => none
  | k + 1, x0, x1, x7, x277000, x278000 => (nat_Nat_Limbs.f x277000).bind fun t285 => ((slices_Equal_uint64_uint64.f k t285 x7).bind fun t288 => (if t288 = true then ((nat_Nat_Zero.f x277000).bind fun t289 => (chattellaw01_NatLimbs.j2 k x0 x1 x7 t285 (t289 != ((x7.length : Int) == 0)) x277000 x278000)) else (chattellaw01_NatLimbs.j2 k x0 x1 x7 t285 true x277000 x278000)))
def chattellaw01_NatLimbs.j2 : Nat → List Int → List Int → List Int → List Int → Bool → List Int → List Int → Option (Bool)
  | 0, _, _, _, _, _, _, _ => none
  | k + 1, x0, x1, x7, x8, x51, x277000, x278000 => if x51 = true then (some false) else (chattellaw01_NatLimbs.l1 k x0 x1 x7 x8 (x8.length : Int) 0 x277000 x278000)
def chattellaw01_NatLimbs.l1 : Nat → List Int → List Int → List Int → List Int → Int → Int → List Int → List Int → Option (Bool)
  | 0, _, _, _, _, _, _, _, _ => none
  | k + 1, x0, x1, x7, x8, x53, x54, x277000, x278000 => if x54 < x53 then (if 0 ≤ x54 then (if x54 < (x8.length : Int) then (chattellaw01_NatLimbs.l1 k x0 x1 x7 (x8.set (x54 : Int).toNat (IntKind.u64.wrap ((rd x8 x54) + 1))) x53 (wrap64 (x54 + 1)) x277000 x278000) else (none)) else (none)) else ((nat_Nat_Limbs.f x277000).bind fun t292 => ((slices_Equal_uint64_uint64.f k t292 x7).bind fun t295 => (if t295 = true then ((nat_Nat_Bits.f k x277000).bind fun t296 => (if (x7.length : Int) > 0 then (if t296 ≤ (wrap64 (64 * (wrap64 ((x7.length : Int) - 1)))) then (chattellaw01_NatLimbs.j4 k x0 x1 true x277000 x278000) else (if t296 > (wrap64 (64 * (x7.length : Int))) then (chattellaw01_NatLimbs.j4 k x0 x1 true x277000 x278000) else (if 0 ≤ (wrap64 ((x7.length : Int) - 1)) then (if (wrap64 ((x7.length : Int) - 1)) < (x7.length : Int) then (if 0 ≤ (IntKind.u64.wrap (Int.tmod (wrap64 (t296 - 1)) 64)) then (if (shr .u64 (rd x7 (wrap64 ((x7.length : Int) - 1))) (IntKind.u64.wrap (Int.tmod (wrap64 (t296 - 1)) 64))) = 1 then (if (x7.length : Int) = 0 then (chattellaw01_NatLimbs.j4 k x0 x1 (t296 != 0) x277000 x278000) else (chattellaw01_NatLimbs.j4 k x0 x1 false x277000 x278000)) else (chattellaw01_NatLimbs.j4 k x0 x1 true x277000 x278000)) else (none)) else (none)) else (none)))) else (if (x7.length : Int) = 0 then (chattellaw01_NatLimbs.j4 k x0 x1 (t296 != 0) x277000 x278000) else (chattellaw01_NatLimbs.j4 k x0 x1 false x277000 x278000)))) else (some false))))
def chattellaw01_NatLimbs.j4 : Nat → List Int → List Int → Bool → List Int → List Int → Option (Bool)
  | 0, _, _, _, _, _ => none
  | k + 1, x0, x1, x111, x277000, x278000 => if x111 = true then (some false) else ((chattellaw01_wakes.f k).bind fun t298 => (if t298 = true then ((nat_Nat_Cmp.f k x277000 x278000).bind fun t299 => ((chattelref01_Of.f k x0).bind fun t300 => ((chattelref01_Of.f k x1).bind fun t303 => ((chattelref01_Cmp.f k t300 t303).bind fun t306 => (if t299 = t306 then ((nat_Nat_Cmp.f k x277000 x278000).bind fun t307 => ((nat_Nat_Cmp.f k x278000 x277000).bind fun t308 => (if t307 = (wrap64 (-t308)) then ((nat_Nat_Cmp.f k x277000 x277000).bind fun t309 => (some (t309 == 0))) else (some false)))) else (some false)))))) else (some false)))
def chattellaw01_NatLimbs.l0 : Nat → List Int → List Int → List Int → List Int → List Int → Option (Bool)
  | 0, _, _, _, _, _ => none
  | k + 1, x0, x1, x7, x277000, x278000 => if (x7.length : Int) > 0 then (if 0 ≤ (wrap64 ((x7.length : Int) - 1)) then (if (wrap64 ((x7.length : Int) - 1)) < (x7.length : Int) then (if (rd x7 (wrap64 ((x7.length : Int) - 1))) = 0 then (if (wrap64 ((x7.length : Int) - 1)) ≤ (x7.length : Int) then (chattellaw01_NatLimbs.l0 k x0 x1 (x7.take ((wrap64 ((x7.length : Int) - 1)) : Int).toNat) x277000 x278000) else (none)) else (chattellaw01_NatLimbs.j1 k x0 x1 x7 x277000 x278000)) else (none)) else (none)) else (chattellaw01_NatLimbs.j1 k x0 x1 x7 x277000 x278000)
end
def chattellaw01_NatLimbs.f (k : Nat) (l0 : List Int) (l1 : List Int) : Option (Bool) := (chattellaw01_cut.f l0).bind fun t264 => ((chattellaw01_cut.f l1).bind fun t267 => ((nat_Of.f k t264).bind fun t270 => ((nat_Of.f k t267).bind fun t273 => ((slices_Clone_uint64_uint64.f t264).bind fun t278 => (chattellaw01_NatLimbs.l0 k t264 t267 t278 t270 t273)))))
theorem chattellaw01_NatLimbs.mono_l : ∀ k, (∀ y0 y1 y2 y3 y4, LeO (chattellaw01_NatLimbs.j1 k y0 y1 y2 y3 y4) (chattellaw01_NatLimbs.j1 (k + 1) y0 y1 y2 y3 y4)) ∧ (∀ y0 y1 y2 y3 y4 y5 y6, LeO (chattellaw01_NatLimbs.j2 k y0 y1 y2 y3 y4 y5 y6) (chattellaw01_NatLimbs.j2 (k + 1) y0 y1 y2 y3 y4 y5 y6)) ∧ (∀ y0 y1 y2 y3 y4 y5 y6 y7, LeO (chattellaw01_NatLimbs.l1 k y0 y1 y2 y3 y4 y5 y6 y7) (chattellaw01_NatLimbs.l1 (k + 1) y0 y1 y2 y3 y4 y5 y6 y7)) ∧ (∀ y0 y1 y2 y3 y4, LeO (chattellaw01_NatLimbs.j4 k y0 y1 y2 y3 y4) (chattellaw01_NatLimbs.j4 (k + 1) y0 y1 y2 y3 y4)) ∧ (∀ y0 y1 y2 y3 y4, LeO (chattellaw01_NatLimbs.l0 k y0 y1 y2 y3 y4) (chattellaw01_NatLimbs.l0 (k + 1) y0 y1 y2 y3 y4))
  | 0 => ⟨fun _ _ _ _ _ r h => by simp [chattellaw01_NatLimbs.j1] at h, fun _ _ _ _ _ _ _ r h => by simp [chattellaw01_NatLimbs.j2] at h, fun _ _ _ _ _ _ _ _ r h => by simp [chattellaw01_NatLimbs.l1] at h, fun _ _ _ _ _ r h => by simp [chattellaw01_NatLimbs.j4] at h, fun _ _ _ _ _ r h => by simp [chattellaw01_NatLimbs.l0] at h⟩
  | k + 1 => by
    obtain ⟨ih0, ih1, ih2, ih3, ih4⟩ := chattellaw01_NatLimbs.mono_l k
    refine ⟨?_, ?_, ?_, ?_, ?_⟩
    · intro y0 y1 y2 y3 y4
      unfold chattellaw01_NatLimbs.j1
      repeat' first
      | (with_reducible exact ih0 _ _ _ _ _)
      | (with_reducible exact ih1 _ _ _ _ _ _ _)
      | (with_reducible exact ih2 _ _ _ _ _ _ _ _)
      | (with_reducible exact ih3 _ _ _ _ _)
      | (with_reducible exact ih4 _ _ _ _ _)
      | (with_reducible exact chattellaw01_wakes.mono _)
      | (with_reducible exact chattelref01_Cmp.mono _ _ _)
      | (with_reducible exact chattelref01_Of.mono _ _)
      | (with_reducible exact nat_Nat_Bits.mono _ _)
      | (with_reducible exact nat_Nat_Cmp.mono _ _ _)
      | (with_reducible exact nat_Of.mono _ _)
      | (with_reducible exact slices_Equal_uint64_uint64.mono _ _ _)
      | (with_reducible exact LeO.refl _)
      | (with_reducible exact LeO.none _)
      | (with_reducible refine LeO.ite ?_ ?_)
      | (with_reducible refine LeO.bind ?_ (fun _ => ?_))
      | exact ih0 _ _ _ _ _
      | exact ih1 _ _ _ _ _ _ _
      | exact ih2 _ _ _ _ _ _ _ _
      | exact ih3 _ _ _ _ _
      | exact ih4 _ _ _ _ _
      | exact chattellaw01_wakes.mono _
      | exact chattelref01_Cmp.mono _ _ _
      | exact chattelref01_Of.mono _ _
      | exact nat_Nat_Bits.mono _ _
      | exact nat_Nat_Cmp.mono _ _ _
      | exact nat_Of.mono _ _
      | exact slices_Equal_uint64_uint64.mono _ _ _
      | exact LeO.none _
      | refine LeO.ite ?_ ?_
      | refine LeO.bind ?_ (fun _ => ?_)
    · intro y0 y1 y2 y3 y4 y5 y6
      unfold chattellaw01_NatLimbs.j2
      repeat' first
      | (with_reducible exact ih0 _ _ _ _ _)
      | (with_reducible exact ih1 _ _ _ _ _ _ _)
      | (with_reducible exact ih2 _ _ _ _ _ _ _ _)
      | (with_reducible exact ih3 _ _ _ _ _)
      | (with_reducible exact ih4 _ _ _ _ _)
      | (with_reducible exact chattellaw01_wakes.mono _)
      | (with_reducible exact chattelref01_Cmp.mono _ _ _)
      | (with_reducible exact chattelref01_Of.mono _ _)
      | (with_reducible exact nat_Nat_Bits.mono _ _)
      | (with_reducible exact nat_Nat_Cmp.mono _ _ _)
      | (with_reducible exact nat_Of.mono _ _)
      | (with_reducible exact slices_Equal_uint64_uint64.mono _ _ _)
      | (with_reducible exact LeO.refl _)
      | (with_reducible exact LeO.none _)
      | (with_reducible refine LeO.ite ?_ ?_)
      | (with_reducible refine LeO.bind ?_ (fun _ => ?_))
      | exact ih0 _ _ _ _ _
      | exact ih1 _ _ _ _ _ _ _
      | exact ih2 _ _ _ _ _ _ _ _
      | exact ih3 _ _ _ _ _
      | exact ih4 _ _ _ _ _
      | exact chattellaw01_wakes.mono _
      | exact chattelref01_Cmp.mono _ _ _
      | exact chattelref01_Of.mono _ _
      | exact nat_Nat_Bits.mono _ _
      | exact nat_Nat_Cmp.mono _ _ _
      | exact nat_Of.mono _ _
      | exact slices_Equal_uint64_uint64.mono _ _ _
      | exact LeO.none _
      | refine LeO.ite ?_ ?_
      | refine LeO.bind ?_ (fun _ => ?_)
    · intro y0 y1 y2 y3 y4 y5 y6 y7
      unfold chattellaw01_NatLimbs.l1
      repeat' first
      | (with_reducible exact ih0 _ _ _ _ _)
      | (with_reducible exact ih1 _ _ _ _ _ _ _)
      | (with_reducible exact ih2 _ _ _ _ _ _ _ _)
      | (with_reducible exact ih3 _ _ _ _ _)
      | (with_reducible exact ih4 _ _ _ _ _)
      | (with_reducible exact chattellaw01_wakes.mono _)
      | (with_reducible exact chattelref01_Cmp.mono _ _ _)
      | (with_reducible exact chattelref01_Of.mono _ _)
      | (with_reducible exact nat_Nat_Bits.mono _ _)
      | (with_reducible exact nat_Nat_Cmp.mono _ _ _)
      | (with_reducible exact nat_Of.mono _ _)
      | (with_reducible exact slices_Equal_uint64_uint64.mono _ _ _)
      | (with_reducible exact LeO.refl _)
      | (with_reducible exact LeO.none _)
      | (with_reducible refine LeO.ite ?_ ?_)
      | (with_reducible refine LeO.bind ?_ (fun _ => ?_))
      | exact ih0 _ _ _ _ _
      | exact ih1 _ _ _ _ _ _ _
      | exact ih2 _ _ _ _ _ _ _ _
      | exact ih3 _ _ _ _ _
      | exact ih4 _ _ _ _ _
      | exact chattellaw01_wakes.mono _
      | exact chattelref01_Cmp.mono _ _ _
      | exact chattelref01_Of.mono _ _
      | exact nat_Nat_Bits.mono _ _
      | exact nat_Nat_Cmp.mono _ _ _
      | exact nat_Of.mono _ _
      | exact slices_Equal_uint64_uint64.mono _ _ _
      | exact LeO.none _
      | refine LeO.ite ?_ ?_
      | refine LeO.bind ?_ (fun _ => ?_)
    · intro y0 y1 y2 y3 y4
      unfold chattellaw01_NatLimbs.j4
      repeat' first
      | (with_reducible exact ih0 _ _ _ _ _)
      | (with_reducible exact ih1 _ _ _ _ _ _ _)
      | (with_reducible exact ih2 _ _ _ _ _ _ _ _)
      | (with_reducible exact ih3 _ _ _ _ _)
      | (with_reducible exact ih4 _ _ _ _ _)
      | (with_reducible exact chattellaw01_wakes.mono _)
      | (with_reducible exact chattelref01_Cmp.mono _ _ _)
      | (with_reducible exact chattelref01_Of.mono _ _)
      | (with_reducible exact nat_Nat_Bits.mono _ _)
      | (with_reducible exact nat_Nat_Cmp.mono _ _ _)
      | (with_reducible exact nat_Of.mono _ _)
      | (with_reducible exact slices_Equal_uint64_uint64.mono _ _ _)
      | (with_reducible exact LeO.refl _)
      | (with_reducible exact LeO.none _)
      | (with_reducible refine LeO.ite ?_ ?_)
      | (with_reducible refine LeO.bind ?_ (fun _ => ?_))
      | exact ih0 _ _ _ _ _
      | exact ih1 _ _ _ _ _ _ _
      | exact ih2 _ _ _ _ _ _ _ _
      | exact ih3 _ _ _ _ _
      | exact ih4 _ _ _ _ _
      | exact chattellaw01_wakes.mono _
      | exact chattelref01_Cmp.mono _ _ _
      | exact chattelref01_Of.mono _ _
      | exact nat_Nat_Bits.mono _ _
      | exact nat_Nat_Cmp.mono _ _ _
      | exact nat_Of.mono _ _
      | exact slices_Equal_uint64_uint64.mono _ _ _
      | exact LeO.none _
      | refine LeO.ite ?_ ?_
      | refine LeO.bind ?_ (fun _ => ?_)
    · intro y0 y1 y2 y3 y4
      unfold chattellaw01_NatLimbs.l0
      repeat' first
      | (with_reducible exact ih0 _ _ _ _ _)
      | (with_reducible exact ih1 _ _ _ _ _ _ _)
      | (with_reducible exact ih2 _ _ _ _ _ _ _ _)
      | (with_reducible exact ih3 _ _ _ _ _)
      | (with_reducible exact ih4 _ _ _ _ _)
      | (with_reducible exact chattellaw01_wakes.mono _)
      | (with_reducible exact chattelref01_Cmp.mono _ _ _)
      | (with_reducible exact chattelref01_Of.mono _ _)
      | (with_reducible exact nat_Nat_Bits.mono _ _)
      | (with_reducible exact nat_Nat_Cmp.mono _ _ _)
      | (with_reducible exact nat_Of.mono _ _)
      | (with_reducible exact slices_Equal_uint64_uint64.mono _ _ _)
      | (with_reducible exact LeO.refl _)
      | (with_reducible exact LeO.none _)
      | (with_reducible refine LeO.ite ?_ ?_)
      | (with_reducible refine LeO.bind ?_ (fun _ => ?_))
      | exact ih0 _ _ _ _ _
      | exact ih1 _ _ _ _ _ _ _
      | exact ih2 _ _ _ _ _ _ _ _
      | exact ih3 _ _ _ _ _
      | exact ih4 _ _ _ _ _
      | exact chattellaw01_wakes.mono _
      | exact chattelref01_Cmp.mono _ _ _
      | exact chattelref01_Of.mono _ _
      | exact nat_Nat_Bits.mono _ _
      | exact nat_Nat_Cmp.mono _ _ _
      | exact nat_Of.mono _ _
      | exact slices_Equal_uint64_uint64.mono _ _ _
      | exact LeO.none _
      | refine LeO.ite ?_ ?_
      | refine LeO.bind ?_ (fun _ => ?_)
theorem chattellaw01_NatLimbs.mono : ∀ a0 a1 k, LeO (chattellaw01_NatLimbs.f k a0 a1) (chattellaw01_NatLimbs.f (k + 1) a0 a1) := by
  intro a0 a1 k
  obtain ⟨ih0, ih1, ih2, ih3, ih4⟩ := chattellaw01_NatLimbs.mono_l k
  unfold chattellaw01_NatLimbs.f
  repeat' first
      | (with_reducible exact ih0 _ _ _ _ _)
      | (with_reducible exact ih1 _ _ _ _ _ _ _)
      | (with_reducible exact ih2 _ _ _ _ _ _ _ _)
      | (with_reducible exact ih3 _ _ _ _ _)
      | (with_reducible exact ih4 _ _ _ _ _)
      | (with_reducible exact chattellaw01_wakes.mono _)
      | (with_reducible exact chattelref01_Cmp.mono _ _ _)
      | (with_reducible exact chattelref01_Of.mono _ _)
      | (with_reducible exact nat_Nat_Bits.mono _ _)
      | (with_reducible exact nat_Nat_Cmp.mono _ _ _)
      | (with_reducible exact nat_Of.mono _ _)
      | (with_reducible exact slices_Equal_uint64_uint64.mono _ _ _)
      | (with_reducible exact LeO.refl _)
      | (with_reducible exact LeO.none _)
      | (with_reducible refine LeO.ite ?_ ?_)
      | (with_reducible refine LeO.bind ?_ (fun _ => ?_))
      | exact ih0 _ _ _ _ _
      | exact ih1 _ _ _ _ _ _ _
      | exact ih2 _ _ _ _ _ _ _ _
      | exact ih3 _ _ _ _ _
      | exact ih4 _ _ _ _ _
      | exact chattellaw01_wakes.mono _
      | exact chattelref01_Cmp.mono _ _ _
      | exact chattelref01_Of.mono _ _
      | exact nat_Nat_Bits.mono _ _
      | exact nat_Nat_Cmp.mono _ _ _
      | exact nat_Of.mono _ _
      | exact slices_Equal_uint64_uint64.mono _ _ _
      | exact LeO.none _
      | refine LeO.ite ?_ ?_
      | refine LeO.bind ?_ (fun _ => ?_)
def chattellaw01_NatLimbs.T19 : Bool × List (List Nat × List Nat) := (true, [([], []), ([0, 0], [0]), ([1], [1]), ([1], [1]), ([2, 3, 1, 1], [1, 2, 3]), ([1], [1]), ([5, 4, 1], [1, 5]), ([1], [1]), ([7, 6, 1], [1, 7]), ([6, 8, 8, 1], [1, 6, 8]), ([4, 9, 1], [1, 4, 9]), ([1, 10], [1, 10]), ([11, 9], [11]), ([12], [12]), ([12], [12]), ([13, 14, 12, 12], [12, 13, 14]), ([12], [12]), ([12], [12]), ([16, 17, 15, 12], [12, 16, 17]), ([18, 12], [12, 18]), ([15, 19, 12], [12, 15, 19]), ([12, 20], [12, 20]), ([21, 18], [21]), ([22], [22]), ([22], [22]), ([23, 24, 22, 22], [22, 23, 24]), ([25, 22], [22, 25]), ([22, 26], [22, 26]), ([27, 25, 0, 1, 2, 3, 4, 5, 6, 7, 8, 9, 10, 11, 12, 13, 14, 15, 16, 17, 18, 19, 20, 21, 22, 23, 24, 25, 26, 27], [27])])
def chattellaw01_NatLimbs.B19 : List Nat := [0, 1, 3, 3, 15, 3, 63, 3, 255, 511, 1023, 2047, 4095, 8191, 8191, 32767, 8191, 8191, 262143, 524287, 1048575, 2097151, 4194303, 8388607, 8388607, 33554431, 67108863, 134217727, 268435455]
theorem chattellaw01_NatLimbs.tab19 : rtab .any (opsOf Try.f3 19) = chattellaw01_NatLimbs.T19 := by kernel_rfl
theorem chattellaw01_NatLimbs.bits19 : waitsOk chattellaw01_NatLimbs.T19.2 chattellaw01_NatLimbs.B19 = true := by kernel_rfl
set_option maxHeartbeats 8000000 in
set_option maxRecDepth 100000 in
theorem chattellaw01_NatLimbs.calls (k : Nat) (A0 : Option Addr) (c0 : Nat) (l0 : List Int) (A1 : Option Addr) (c1 : Nat) (l1 : List Int) (r : Bool) (w : World) (hr0 : Kd.C (Kd.int .u64) w A0 l0.length l0) (hc0 : l0.length ≤ c0) (hr1 : Kd.C (Kd.int .u64) w A1 l1.length l1) (hc1 : l1.length ≤ c1) (h : chattellaw01_NatLimbs.f k l0 l1 = some r) (ht_ : r = true) :
    Calls Try.prog 3 #[.slice A0 l0.length c0, .slice A1 l1.length c1] w fun e w' => e = .returned (.bool r) ∧ Below w.heap.size w w' := by
  have hu25 := Try.underlying25
  have HR0 := Aside0.mk hr0
  have HC0 := Aside0.mk hc0
  clear hr0 hc0
  have HR1 := Aside0.mk hr1
  have HC1 := Aside0.mk hc1
  clear hr1 hc1
  have HB := Aside0.mk (Below.refl w.heap.size w)
  have H : ((chattellaw01_cut.f l0).bind fun t264 => ((chattellaw01_cut.f l1).bind fun t267 => ((nat_Of.f k t264).bind fun t270 => ((nat_Of.f k t267).bind fun t273 => ((slices_Clone_uint64_uint64.f t264).bind fun t278 => (chattellaw01_NatLimbs.l0 k t264 t267 t278 t270 t273)))))) = some r := h
  clear h
  replace H := Option.bind_eq_some_iff.mp H
  obtain ⟨t264, A30, H⟩ := H
  replace H : ((chattellaw01_cut.f l1).bind fun t267 => ((nat_Of.f k t264).bind fun t270 => ((nat_Of.f k t267).bind fun t273 => ((slices_Clone_uint64_uint64.f t264).bind fun t278 => (chattellaw01_NatLimbs.l0 k t264 t267 t278 t270 t273))))) = some r := H
  have A3 := Aside0.mk A30
  clear A30
  replace H := Option.bind_eq_some_iff.mp H
  obtain ⟨t267, A40, H⟩ := H
  replace H : ((nat_Of.f k t264).bind fun t270 => ((nat_Of.f k t267).bind fun t273 => ((slices_Clone_uint64_uint64.f t264).bind fun t278 => (chattellaw01_NatLimbs.l0 k t264 t267 t278 t270 t273)))) = some r := H
  have A4 := Aside0.mk A40
  clear A40
  replace H := Option.bind_eq_some_iff.mp H
  obtain ⟨t270, A50, H⟩ := H
  replace H : ((nat_Of.f k t267).bind fun t273 => ((slices_Clone_uint64_uint64.f t264).bind fun t278 => (chattellaw01_NatLimbs.l0 k t264 t267 t278 t270 t273))) = some r := H
  have A5 := Aside0.mk A50
  clear A50
  replace H := Option.bind_eq_some_iff.mp H
  obtain ⟨t273, A60, H⟩ := H
  replace H : ((slices_Clone_uint64_uint64.f t264).bind fun t278 => (chattellaw01_NatLimbs.l0 k t264 t267 t278 t270 t273)) = some r := H
  have A6 := Aside0.mk A60
  clear A60
  replace H := Option.bind_eq_some_iff.mp H
  obtain ⟨t278, A70, H⟩ := H
  replace H : (chattellaw01_NatLimbs.l0 k t264 t267 t278 t270 t273) = some r := H
  have A7 := Aside0.mk A70
  clear A70
  have HC8 := Aside0.mk H
  clear H
  go_enter Try.func3, Try.ntmps3
  go_upto_block 0 with (first | ((with_reducible refine gate_callee (f := 13) rfl ?_); refine goesL_ (some 12) rfl rfl Try.func13 (by kernel_rfl) rfl #[.slice A0 l0.length c0] rfl (by (try simp only [List.map_toArray, List.map_cons, List.map_nil]); first | done | rfl | (simp only [List.length_drop, List.length_take]; rfl)) ?_; (with_reducible refine (chattellaw01_cut.calls (fun k_ => k_ < w.heap.size) _ _ l0 t264 _ ?side1 A3.out).mono ?_); (case side1 => exact Kd.V_mk HC0.out (Kd.F_below (Kd.C_F (Kd.heap_int .u64) HR0.out) (by repeat (first | (with_reducible first | exact HB.out | apply below_alloc | apply pw_below_drewN | apply below_drew1) | exact HB.out)))); rintro e w9 ⟨v265, rfl, ho0, hb⟩; refine ⟨_, rfl, ?_⟩; have HO266 := Aside0.mk (Kd.V_lower (Kd.V_mono (ok' := fun k_ => True) ho0 (fun k_ hk_ => trivial)) (below_size (by repeat (first | (with_reducible first | exact HB.out | apply below_alloc | apply pw_below_drewN | apply below_drew1) | exact HB.out)))); replace HB := Aside0.mk (below_step (by repeat (first | (with_reducible first | exact HB.out | apply below_alloc | apply pw_below_drewN | apply below_drew1) | exact HB.out)) hb); (try clear hb); (try clear hb2); (try clear hk); (try clear hi); (try clear ho0)) | ((with_reducible refine gate_callee (f := 13) rfl ?_); refine goesL_ (some 14) rfl rfl Try.func13 (by kernel_rfl) rfl #[.slice A1 l1.length c1] rfl (by (try simp only [List.map_toArray, List.map_cons, List.map_nil]); first | done | rfl | (simp only [List.length_drop, List.length_take]; rfl)) ?_; (with_reducible refine (chattellaw01_cut.calls (fun k_ => k_ < w.heap.size) _ _ l1 t267 _ ?side1 A4.out).mono ?_); (case side1 => exact Kd.V_mk HC1.out (Kd.F_below (Kd.C_F (Kd.heap_int .u64) HR1.out) (by repeat (first | (with_reducible first | exact HB.out | apply below_alloc | apply pw_below_drewN | apply below_drew1) | exact HB.out)))); rintro e w10 ⟨v268, rfl, ho0, hb⟩; refine ⟨_, rfl, ?_⟩; replace HO266 := Aside0.mk (vb HO266.out hb); have HO269 := Aside0.mk (Kd.V_lower (Kd.V_mono (ok' := fun k_ => True) ho0 (fun k_ hk_ => trivial)) (bz HB.out)); replace HB := Aside0.mk (bs HB.out hb); (try clear hb); (try clear hb2); (try clear hk); (try clear hi); (try clear ho0); obtain ⟨Ao11, co11, eo11⟩ := Kd.V_slice HO266.out; subst eo11) | ((with_reducible refine gate_callee (f := 14) rfl ?_); refine goesL_ (some 16) rfl rfl Try.func14 (by kernel_rfl) rfl #[.slice Ao11 t264.length co11] rfl (by (try simp only [List.map_toArray, List.map_cons, List.map_nil]); first | done | rfl | (simp only [List.length_drop, List.length_take]; rfl)) ?_; (with_reducible refine (nat_Of.calls k _ _ t264 t270 _ ?side1 ?side2 A5.out).mono ?_); (case side1 => exact cv HO266.out); (case side2 => exact (Kd.V_reads' HO266.out).2.1); rintro e w12 ⟨v271, rfl, ho0, hb⟩; refine ⟨_, rfl, ?_⟩; replace HO266 := Aside0.mk (vb HO266.out hb); replace HO269 := Aside0.mk (vb HO269.out hb); have HO272 := Aside0.mk (Kd.V_lower (Kd.V_mono (ok' := fun k_ => True) ho0 (fun k_ hk_ => trivial)) (bz HB.out)); replace HB := Aside0.mk (bs HB.out hb); (try clear hb); (try clear hb2); (try clear hk); (try clear hi); (try clear ho0); obtain ⟨Ao13, co13, eo13⟩ := Kd.V_slice HO269.out; subst eo13) | ((with_reducible refine gate_callee (f := 14) rfl ?_); refine goesL_ (some 18) rfl rfl Try.func14 (by kernel_rfl) rfl #[.slice Ao13 t267.length co13] rfl (by (try simp only [List.map_toArray, List.map_cons, List.map_nil]); first | done | rfl | (simp only [List.length_drop, List.length_take]; rfl)) ?_; (with_reducible refine (nat_Of.calls k _ _ t267 t273 _ ?side1 ?side2 A6.out).mono ?_); (case side1 => exact cv HO269.out); (case side2 => exact (Kd.V_reads' HO269.out).2.1); rintro e w14 ⟨v274, rfl, ho0, hb⟩; refine ⟨_, rfl, ?_⟩; replace HO266 := Aside0.mk (vb HO266.out hb); replace HO269 := Aside0.mk (vb HO269.out hb); replace HO272 := Aside0.mk (vb HO272.out hb); have HO275 := Aside0.mk (Kd.V_lower (Kd.V_mono (ok' := fun k_ => True) ho0 (fun k_ hk_ => trivial)) (bz HB.out)); replace HB := Aside0.mk (bs HB.out hb); (try clear hb); (try clear hb2); (try clear hk); (try clear hi); (try clear ho0)) | ((with_reducible refine gate_dst (N := 5) rfl ?_); (try (refine gate_guard (by rfl) ?_; dsimp only)); refine box_event ?hg (N := 5) ?hd (cs := #[.slice none 0 0]) (t := 25) ?hr ?_; (case hd => rfl); (case hg => rfl); (case hr => first | (go_simp; done) | (go_simp; rfl)); intro gb276 hg w15 hbox hb; have n0_ := Aside0.mk (Kd.V_below (Kd.V_elderB (by (with_reducible repeat (first | apply Kd.V_alloc | apply Kd.V_drewN | apply Kd.V_drew)); exact HO266.out) gb276 (Nat.le_of_eq hg.symm)) hb); have n1_ := Aside0.mk (Kd.V_below (Kd.V_elderB (by (with_reducible repeat (first | apply Kd.V_alloc | apply Kd.V_drewN | apply Kd.V_drew)); exact HO269.out) gb276 (Nat.le_of_eq hg.symm)) hb); have n2_ := Aside0.mk (Kd.V_below (Kd.V_elderB (by (with_reducible repeat (first | apply Kd.V_alloc | apply Kd.V_drewN | apply Kd.V_drew)); exact HO272.out) gb276 (Nat.le_of_eq hg.symm)) hb); have n3_ := Aside0.mk (Kd.V_below (Kd.V_elderB (by (with_reducible repeat (first | apply Kd.V_alloc | apply Kd.V_drewN | apply Kd.V_drew)); exact HO275.out) gb276 (Nat.le_of_eq hg.symm)) hb); have n4_ := Aside0.mk (below_step (by repeat (first | (with_reducible first | exact HB.out | apply below_alloc | apply pw_below_drewN | apply below_drew1) | exact HB.out)) hb); have n5_ := Aside0.mk (hbox); have n6_ := Aside0.mk ((by rw [hg]; exact (below_size (by repeat (first | (with_reducible first | exact HB.out | apply below_alloc | apply pw_below_drewN | apply below_drew1) | exact HB.out))) : w.heap.size ≤ gb276)); have n7_ := Aside0.mk ((by rw [hg]; exact (below_size (by repeat (first | (with_reducible first | exact HB.out | apply below_alloc | apply pw_below_drewN | apply below_drew1) | exact HB.out))) : w.heap.size ≤ gb276)); clear HO266; clear HO269; clear HO272; clear HO275; clear HB; have HO266 := n0_; have HO269 := n1_; have HO272 := n2_; have HO275 := n3_; have HB := n4_; have BK276 := n5_; have GW276 := n6_; have GE276 := n7_; clear n0_ n1_ n2_ n3_ n4_ n5_ n6_ n7_; clear hb hbox hg) | ((with_reducible refine gate_dst (N := 6) rfl ?_); (try (refine gate_guard (by rfl) ?_; dsimp only)); refine box_event ?hg (N := 6) ?hd (cs := #[.slice none 0 0]) (t := 25) ?hr ?_; (case hd => rfl); (case hg => rfl); (case hr => first | (go_simp; done) | (go_simp; rfl)); intro gb277 hg w16 hbox hb; have n0_ := Aside0.mk (Kd.V_below (Kd.V_elderB (by (with_reducible repeat (first | apply Kd.V_alloc | apply Kd.V_drewN | apply Kd.V_drew)); exact HO266.out) gb277 (Nat.le_of_eq hg.symm)) hb); have n1_ := Aside0.mk (Kd.V_below (Kd.V_elderB (by (with_reducible repeat (first | apply Kd.V_alloc | apply Kd.V_drewN | apply Kd.V_drew)); exact HO269.out) gb277 (Nat.le_of_eq hg.symm)) hb); have n2_ := Aside0.mk (Kd.V_below (Kd.V_elderB (by (with_reducible repeat (first | apply Kd.V_alloc | apply Kd.V_drewN | apply Kd.V_drew)); exact HO272.out) gb277 (Nat.le_of_eq hg.symm)) hb); have n3_ := Aside0.mk (Kd.V_below (Kd.V_elderB (by (with_reducible repeat (first | apply Kd.V_alloc | apply Kd.V_drewN | apply Kd.V_drew)); exact HO275.out) gb277 (Nat.le_of_eq hg.symm)) hb); have n4_ := Aside0.mk (bb BK276.out hb); have n5_ := Aside0.mk (bs HB.out hb); have n6_ := Aside0.mk (hbox); have n7_ := Aside0.mk ((by rw [hg]; exact (bz HB.out) : w.heap.size ≤ gb277)); have n8_ := Aside0.mk ((by rw [hg]; exact (bz HB.out) : w.heap.size ≤ gb277)); have n9_ := Aside0.mk ((by rw [hg]; exact Nat.ne_of_lt (blk_lt (g := gb276) (o := .cells #[.slice none 0 0] 25 (0, 0)) (by (with_reducible repeat (first | refine blk_drewN ?_ _ | refine blk_drew ?_ | refine blk_alloc ?_ _)); exact BK276.out)) : gb276 ≠ gb277)); have n10_ := Aside0.mk ((by rw [hg]; exact Nat.ne_of_gt (blk_lt (g := gb276) (o := .cells #[.slice none 0 0] 25 (0, 0)) (by (with_reducible repeat (first | refine blk_drewN ?_ _ | refine blk_drew ?_ | refine blk_alloc ?_ _)); exact BK276.out)) : gb277 ≠ gb276)); clear HO266; clear HO269; clear HO272; clear HO275; clear BK276; clear HB; have HO266 := n0_; have HO269 := n1_; have HO272 := n2_; have HO275 := n3_; have BK276 := n4_; have HB := n5_; have BK277 := n6_; have GW277 := n7_; have GE277 := n8_; have NB276_277 := n9_; have NB277_276 := n10_; clear n0_ n1_ n2_ n3_ n4_ n5_ n6_ n7_ n8_ n9_ n10_; clear hb hbox hg; obtain ⟨Ao17, co17, eo17⟩ := Kd.V_slice HO272.out; subst eo17; have hnb18 := NB276_277.out; have hnc18 := NB277_276.out; have hcz19_0 : w16.cell? ⟨gb276, 0, none⟩ = some (.slice none 0 0) := (blk_cell BK276.out 0).trans rfl; have hfz19_0 := blk_frozen BK276.out 0; obtain ⟨Ao20, co20, eo20⟩ := Kd.V_slice HO275.out; subst eo20; have hcz21_0 : w16.cell? ⟨gb277, 0, none⟩ = some (.slice none 0 0) := (blk_cell BK277.out 0).trans rfl; have hfz21_0 := blk_frozen BK277.out 0) | ((with_reducible refine gate_callee (f := 15) rfl ?_); refine goesL_ (some 20) rfl rfl Try.func15 (by kernel_rfl) rfl #[.slice Ao11 t264.length co11] rfl (by (try simp only [List.map_toArray, List.map_cons, List.map_nil]); first | done | rfl | (simp only [List.length_drop, List.length_take]; rfl)) ?_; (with_reducible refine (slices_Clone_uint64_uint64.calls _ _ t264 t278 _ ?side1 ?side2 A7.out).mono ?_); (case side1 => refine (Kd.V_reads' (e := 27) (base := w.heap.size) (ok := fun k_ => ((True ∧ k_ ≠ gb276) ∧ k_ ≠ gb277)) (n := t264.length) (c := co11) ?_).2.2; exact (by (with_reducible repeat (first | apply Kd.V_alloc | apply Kd.V_drewN | apply Kd.V_drew)); exact (Kd.V_mono (Kd.V_mono (Kd.V_far (p := ⟨gb277, 0, none⟩) (Kd.V_far (p := ⟨gb276, 0, none⟩) (Kd.V_mono (Kd.V_mono HO266.out (fun k_ hk => (⟨hk, hk.1.2⟩ : _ ∧ k_ ≠ gb276))) (fun k_ hk => (⟨hk, hk.1.2⟩ : _ ∧ k_ ≠ gb277))) (fun _ hk => hk.1.2) (.slice Ao17 t270.length co17)) (fun _ hk => hk.2) (.slice Ao20 t273.length co20)) (fun _ h_ => h_.1)) (fun _ h_ => h_.1)))); (case side2 => exact (Kd.V_reads' HO266.out).2.1); rintro e w22 ⟨v279, rfl, ho0, hb⟩; refine ⟨_, rfl, ?_⟩; replace HO266 := Aside0.mk (Kd.V_elder' (by (with_reducible repeat (first | apply Kd.V_alloc | apply Kd.V_drewN | apply Kd.V_drew)); exact (Kd.V_mono (Kd.V_mono (Kd.V_far (p := ⟨gb277, 0, none⟩) (Kd.V_far (p := ⟨gb276, 0, none⟩) (Kd.V_mono (Kd.V_mono HO266.out (fun k_ hk => (⟨hk, hk.1.2⟩ : _ ∧ k_ ≠ gb276))) (fun k_ hk => (⟨hk, hk.1.2⟩ : _ ∧ k_ ≠ gb277))) (fun _ hk => hk.1.2) (.slice Ao17 t270.length co17)) (fun _ hk => hk.2) (.slice Ao20 t273.length co20)) (fun _ h_ => h_.1)) (fun _ h_ => h_.1))) (Kd.R_base ho0) hb); replace HO269 := Aside0.mk (Kd.V_elder' (by (with_reducible repeat (first | apply Kd.V_alloc | apply Kd.V_drewN | apply Kd.V_drew)); exact (Kd.V_mono (Kd.V_mono (Kd.V_far (p := ⟨gb277, 0, none⟩) (Kd.V_far (p := ⟨gb276, 0, none⟩) (Kd.V_mono (Kd.V_mono HO269.out (fun k_ hk => (⟨hk, hk.1.2⟩ : _ ∧ k_ ≠ gb276))) (fun k_ hk => (⟨hk, hk.1.2⟩ : _ ∧ k_ ≠ gb277))) (fun _ hk => hk.1.2) (.slice Ao17 t270.length co17)) (fun _ hk => hk.2) (.slice Ao20 t273.length co20)) (fun _ h_ => h_.1)) (fun _ h_ => h_.1))) (Kd.R_base ho0) hb); replace HO272 := Aside0.mk (Kd.V_elder' (by (with_reducible repeat (first | apply Kd.V_alloc | apply Kd.V_drewN | apply Kd.V_drew)); exact (Kd.V_mono (Kd.V_mono (Kd.V_far (p := ⟨gb277, 0, none⟩) (Kd.V_far (p := ⟨gb276, 0, none⟩) (Kd.V_mono (Kd.V_mono HO272.out (fun k_ hk => (⟨hk, hk.1.2⟩ : _ ∧ k_ ≠ gb276))) (fun k_ hk => (⟨hk, hk.1.2⟩ : _ ∧ k_ ≠ gb277))) (fun _ hk => hk.1.2) (.slice Ao17 t270.length co17)) (fun _ hk => hk.2) (.slice Ao20 t273.length co20)) (fun _ h_ => h_.1)) (fun _ h_ => h_.1))) (Kd.R_base ho0) hb); replace HO275 := Aside0.mk (Kd.V_elder' (by (with_reducible repeat (first | apply Kd.V_alloc | apply Kd.V_drewN | apply Kd.V_drew)); exact (Kd.V_mono (Kd.V_mono (Kd.V_far (p := ⟨gb277, 0, none⟩) (Kd.V_far (p := ⟨gb276, 0, none⟩) (Kd.V_mono (Kd.V_mono HO275.out (fun k_ hk => (⟨hk, hk.1.2⟩ : _ ∧ k_ ≠ gb276))) (fun k_ hk => (⟨hk, hk.1.2⟩ : _ ∧ k_ ≠ gb277))) (fun _ hk => hk.1.2) (.slice Ao17 t270.length co17)) (fun _ hk => hk.2) (.slice Ao20 t273.length co20)) (fun _ h_ => h_.1)) (fun _ h_ => h_.1))) (Kd.R_base ho0) hb); have HO280 := Aside0.mk (Kd.R_lower ho0 (below_size (by repeat (first | (with_reducible first | exact HB.out | apply below_alloc | apply pw_below_drewN | apply below_drew1 | refine below_set ?_ GE276.out | refine below_set ?_ GE277.out) | exact HB.out)))); replace BK276 := Aside0.mk (blk_below (g := gb276) (o := .cells #[.slice Ao17 t270.length co17] 25 (0, 0)) (by (with_reducible repeat (first | refine blk_drewN ?_ _ | refine blk_drew ?_ | refine blk_alloc ?_ _)); refine blk_far ?_ NB276_277.out _; (with_reducible repeat (first | refine blk_drewN ?_ _ | refine blk_drew ?_ | refine blk_alloc ?_ _)); refine blk_put (cs := #[.slice none 0 0]) ?_ 0 _ rfl; (with_reducible repeat (first | refine blk_drewN ?_ _ | refine blk_drew ?_ | refine blk_alloc ?_ _)); exact BK276.out) hb); replace BK277 := Aside0.mk (blk_below (g := gb277) (o := .cells #[.slice Ao20 t273.length co20] 25 (0, 0)) (by (with_reducible repeat (first | refine blk_drewN ?_ _ | refine blk_drew ?_ | refine blk_alloc ?_ _)); refine blk_put (cs := #[.slice none 0 0]) ?_ 0 _ rfl; (with_reducible repeat (first | refine blk_drewN ?_ _ | refine blk_drew ?_ | refine blk_alloc ?_ _)); refine blk_far ?_ NB277_276.out _; (with_reducible repeat (first | refine blk_drewN ?_ _ | refine blk_drew ?_ | refine blk_alloc ?_ _)); exact BK277.out) hb); replace HB := Aside0.mk (below_step (by repeat (first | (with_reducible first | exact HB.out | apply below_alloc | apply pw_below_drewN | apply below_drew1 | refine below_set ?_ GE276.out | refine below_set ?_ GE277.out) | exact HB.out)) hb); (try clear hb); (try clear hb2); (try clear hk); (try clear hi); (try clear ho0)))
  (try simp only [Act.put, List.setIfInBounds_toArray, List.set_cons_zero, List.set_cons_succ])
  go_cut [7] (fun v7 wc => ∃ (kq : Nat) (x7_7 : List Int), Aside0 (chattellaw01_NatLimbs.j1 kq t264 t267 x7_7 t270 t273 = some r) ∧ Aside0 (kq ≤ k) ∧ Aside0 (Kd.V (Kd.int .u64) 27 wc w.heap.size (fun k_ => some k_ ≠ (v7 : Value).ownBlock ∧ k_ ≠ gb276 ∧ k_ ≠ gb277) (.slice Ao11 t264.length co11) t264) ∧ Aside0 (Kd.V (Kd.int .u64) 27 wc w.heap.size (fun k_ => some k_ ≠ (v7 : Value).ownBlock ∧ k_ ≠ gb276 ∧ k_ ≠ gb277) (.slice Ao13 t267.length co13) t267) ∧ Aside0 (Kd.R (Kd.int .u64) 27 wc w.heap.size (fun _ => True) v7 x7_7) ∧ Aside0 (Kd.V (Kd.int .u64) 27 wc w.heap.size (fun k_ => some k_ ≠ (v7 : Value).ownBlock ∧ k_ ≠ gb276 ∧ k_ ≠ gb277) (.slice Ao17 t270.length co17) t270) ∧ Aside0 (Kd.V (Kd.int .u64) 27 wc w.heap.size (fun k_ => some k_ ≠ (v7 : Value).ownBlock ∧ k_ ≠ gb276 ∧ k_ ≠ gb277) (.slice Ao20 t273.length co20) t273) ∧ Aside0 (wc.heap[gb276]? = some (.cells #[(.slice Ao17 t270.length co17)] 25 (0, 0))) ∧ Aside0 (wc.heap[gb277]? = some (.cells #[(.slice Ao20 t273.length co20)] 25 (0, 0))) ∧ Aside0 (Below w.heap.size w wc))
  case first =>
    have H := HC8.out
    clear HC8
    have H' := Aside0.mk H
    clear H
    go_wp2
    go_loopg [7] k (fun kq v7 w' => ∃ (x7_1 : List Int), Aside0 (chattellaw01_NatLimbs.l0 kq t264 t267 x7_1 t270 t273 = some r) ∧ Aside0 (kq ≤ k) ∧ Aside0 (Kd.V (Kd.int .u64) 27 w' w.heap.size (fun k_ => some k_ ≠ (v7 : Value).ownBlock ∧ k_ ≠ gb276 ∧ k_ ≠ gb277) (.slice Ao11 t264.length co11) t264) ∧ Aside0 (Kd.V (Kd.int .u64) 27 w' w.heap.size (fun k_ => some k_ ≠ (v7 : Value).ownBlock ∧ k_ ≠ gb276 ∧ k_ ≠ gb277) (.slice Ao13 t267.length co13) t267) ∧ Aside0 (Kd.R (Kd.int .u64) 27 w' w.heap.size (fun _ => True) v7 x7_1) ∧ Aside0 (Kd.V (Kd.int .u64) 27 w' w.heap.size (fun k_ => some k_ ≠ (v7 : Value).ownBlock ∧ k_ ≠ gb276 ∧ k_ ≠ gb277) (.slice Ao17 t270.length co17) t270) ∧ Aside0 (Kd.V (Kd.int .u64) 27 w' w.heap.size (fun k_ => some k_ ≠ (v7 : Value).ownBlock ∧ k_ ≠ gb276 ∧ k_ ≠ gb277) (.slice Ao20 t273.length co20) t273) ∧ Aside0 (w'.heap[gb276]? = some (.cells #[(.slice Ao17 t270.length co17)] 25 (0, 0))) ∧ Aside0 (w'.heap[gb277]? = some (.cells #[(.slice Ao20 t273.length co20)] 25 (0, 0))) ∧ Aside0 (Below w.heap.size w w'))
    case atStart => exact ⟨(t278), H', ⟨Nat.le_refl _⟩, ⟨by (with_reducible repeat (first | apply Kd.V_alloc | apply Kd.V_drewN | apply Kd.V_drew)); exact Kd.V_mono HO266.out (fun _ hk => ⟨hk.2, ⟨hk.1.1.2, hk.1.2⟩⟩)⟩, ⟨by (with_reducible repeat (first | apply Kd.V_alloc | apply Kd.V_drewN | apply Kd.V_drew)); exact Kd.V_mono HO269.out (fun _ hk => ⟨hk.2, ⟨hk.1.1.2, hk.1.2⟩⟩)⟩, ⟨by (with_reducible repeat (first | apply Kd.R_alloc | apply Kd.R_drewN | apply Kd.R_drew)); exact HO280.out⟩, ⟨by (with_reducible repeat (first | apply Kd.V_alloc | apply Kd.V_drewN | apply Kd.V_drew)); exact Kd.V_mono HO272.out (fun _ hk => ⟨hk.2, ⟨hk.1.1.2, hk.1.2⟩⟩)⟩, ⟨by (with_reducible repeat (first | apply Kd.V_alloc | apply Kd.V_drewN | apply Kd.V_drew)); exact Kd.V_mono HO275.out (fun _ hk => ⟨hk.2, ⟨hk.1.1.2, hk.1.2⟩⟩)⟩, ⟨by (with_reducible repeat (first | refine blk_drewN ?_ _ | refine blk_drew ?_ | refine blk_alloc ?_ _)); exact BK276.out⟩, ⟨by (with_reducible repeat (first | refine blk_drewN ?_ _ | refine blk_drew ?_ | refine blk_alloc ?_ _)); exact BK277.out⟩, ⟨by repeat (first | (with_reducible first | exact HB.out | apply below_alloc | apply pw_below_drewN | apply below_drew1 | refine below_set ?_ GE276.out | refine below_set ?_ GE277.out) | exact HB.out)⟩⟩
    case round =>
      clear H'
      try clear c1
      try clear p2
      try clear c3
      try clear c13
      try clear c14
      try clear c15
      try clear c18
      try clear hcz19_0
      try clear hcz21_0
      try clear hfz19_0
      try clear hfz21_0
      obtain ⟨x7_1, HA, HK1, HO_0, HO_1, HO_7, HO_277000, HO_278000, BK276, BK277, HB⟩ := hrel
      cases gk with
      | zero => exact absurd HA.out (by simp [chattellaw01_NatLimbs.l0])
      | succ k1 =>
        have H := HA.out
        clear HA
        simp only [chattellaw01_NatLimbs.l0] at H
        by_cases c23 : (x7_1.length : Int) > 0
        · rw [if_pos c23] at H
          have c23b0 : decide (0 < (x7_1.length : Int)) = true := decide_eq_true c23
          have c23b1 : decide (0 < x7_1.length) = true := decide_eq_true (by omega)
          clear c23
          (first | rw [c23b0] | (simp only [i64_w, i32_w]; rw [c23b0]) | skip)
          obtain ⟨ji24, hji24⟩ : ∃ j_ : Int, (wrap64 ((x7_1.length : Int) - 1)) = j_ := ⟨_, rfl⟩
          replace H : (if 0 ≤ (ji24) then (if (ji24) < (x7_1.length : Int) then (if (rd x7_1 (ji24)) = 0 then (if (ji24) ≤ (x7_1.length : Int) then (chattellaw01_NatLimbs.l0 k1 t264 t267 (x7_1.take ((ji24) : Int).toNat) t270 t273) else (none)) else (chattellaw01_NatLimbs.j1 k1 t264 t267 x7_1 t270 t273)) else (none)) else (none)) = some r := by first | (rw [hji24] at H; exact H) | (simp only [hji24] at H ⊢; exact H)
          have hji24w : (IntKind.i64.wrap ((x7_1.length : Int) - 1)) = ji24 := (i64_w _).trans hji24
          by_cases c25 : 0 ≤ (ji24)
          rotate_left
          · rw [if_neg c25] at H
            exact absurd H (by simp)
          rw [if_pos c25] at H
          have c25b0 : decide (0 ≤ (ji24)) = true := decide_eq_true c25
          clear c25
          by_cases c26 : (ji24) < (x7_1.length : Int)
          rotate_left
          · rw [if_neg c26] at H
            exact absurd H (by simp)
          rw [if_pos c26] at H
          have c26b0 : decide ((ji24) < (x7_1.length : Int)) = true := decide_eq_true c26
          clear c26
          by_cases c27 : (rd x7_1 (ji24)) = 0
          · rw [if_pos c27] at H
            have c27b0 : ((rd x7_1 (ji24)) == 0) = true := beq_iff_eq.mpr c27
            have c27b1 : ((rd x7_1 (ji24)) != 0) = false := bne_eq_false_iff_eq.mpr c27
            clear c27
            by_cases c28 : (ji24) ≤ (x7_1.length : Int)
            rotate_left
            · rw [if_neg c28] at H
              exact absurd H (by simp)
            rw [if_pos c28] at H
            have c28b0 := eq_true c28
            have c28b1 : decide ((ji24) ≤ (x7_1.length : Int)) = true := decide_eq_true c28
            clear c28
            obtain ⟨y282, hy282⟩ : ∃ y_ : List Int, y_ = (x7_1.take ((ji24) : Int).toNat) := ⟨_, rfl⟩
            replace H : (chattellaw01_NatLimbs.l0 k1 t264 t267 y282 t270 t273) = some r := by first | (rw [hy282]; with_reducible exact H) | (have H2_ := (Option.bind_some _ _).symm.trans H; rw [hy282]; with_reducible exact H2_) | (have H2_ := (Option.bind_some _ _).symm.trans H; with_reducible exact H2_) | with_reducible exact H | (rw [hy282]; exact H) | exact H
            have Ny282 := Aside0.mk hy282
            clear hy282
            have H' := Aside0.mk H
            clear H
            obtain ⟨Ao29, co29, eo29⟩ := Kd.R_slice HO_7.out
            subst eo29
            have p281 : 0 ≤ ((ji24) : Int) := of_decide_eq_true (by first | (with_reducible assumption) | assumption)
            have q281 : (ji24) < (x7_1.length : Int) := of_decide_eq_true (by first | (with_reducible assumption) | assumption)
            obtain ⟨ad281, e281, hx281_0⟩ := Kd.at_int (Kd.R_reads' HO_7.out).2.2 (ji24) p281 q281
            cases e281
            replace p281 := eq_true p281
            replace q281 := eq_true q281
            have q30 : ((ji24) : Int) ≤ ((x7_1.length : Int) : Int) := of_decide_eq_true (by first | (with_reducible assumption) | assumption)
            obtain ⟨i030, hi030, _, hsz30, _⟩ := info_parts info27
            have hcut30 := cut_to (P := Try.prog) 22 27 .i64 Try.underlying22 hi030 (some ad281) x7_1.length co29 (ji24) (of_decide_eq_true (by first | (with_reducible assumption) | assumption)) q30 (Kd.R_reads' HO_7.out).2.1
            have hr30 := Kd.R_take (m := ((ji24) : Int).toNat) HO_7.out (by omega)
            have hy30 : y282.length = ((ji24) : Int).toNat := (by rw [Ny282.out, List.length_take]; omega)
            rw [← Ny282.out] at hr30
            rw [← hy30] at hr30 hcut30
            clear hy30 hi030 hsz30 HO_7
            have HO284 := Aside0.mk hr30
            clear hr30
            replace q30 := eq_true q30
            go_wp2
            go_roundg k1
            case measure => have := HK1.out; omega
            case rel => exact ⟨(y282), H', ⟨by have := HK1.out; omega⟩, ⟨by (with_reducible repeat (first | apply Kd.V_alloc | apply Kd.V_drewN | apply Kd.V_drew)); exact HO_0.out⟩, ⟨by (with_reducible repeat (first | apply Kd.V_alloc | apply Kd.V_drewN | apply Kd.V_drew)); exact HO_1.out⟩, ⟨by (with_reducible repeat (first | apply Kd.R_alloc | apply Kd.R_drewN | apply Kd.R_drew)); exact HO284.out⟩, ⟨by (with_reducible repeat (first | apply Kd.V_alloc | apply Kd.V_drewN | apply Kd.V_drew)); exact HO_277000.out⟩, ⟨by (with_reducible repeat (first | apply Kd.V_alloc | apply Kd.V_drewN | apply Kd.V_drew)); exact HO_278000.out⟩, ⟨by (with_reducible repeat (first | refine blk_drewN ?_ _ | refine blk_drew ?_ | refine blk_alloc ?_ _)); exact BK276.out⟩, ⟨by (with_reducible repeat (first | refine blk_drewN ?_ _ | refine blk_drew ?_ | refine blk_alloc ?_ _)); exact BK277.out⟩, ⟨by repeat (first | (with_reducible first | exact HB.out | apply below_alloc | apply pw_below_drewN | apply below_drew1 | refine below_set ?_ GE276.out | refine below_set ?_ GE277.out) | exact HB.out)⟩⟩
          · rw [if_neg c27] at H
            have c27b0 : ((rd x7_1 (ji24)) == 0) = false := beq_eq_false_iff_ne.mpr c27
            have c27b1 : ((rd x7_1 (ji24)) != 0) = true := bne_iff_ne.mpr c27
            have H' := Aside0.mk H
            clear H
            obtain ⟨Ao31, co31, eo31⟩ := Kd.R_slice HO_7.out
            subst eo31
            have p281 : 0 ≤ ((ji24) : Int) := of_decide_eq_true (by first | (with_reducible assumption) | assumption)
            have q281 : (ji24) < (x7_1.length : Int) := of_decide_eq_true (by first | (with_reducible assumption) | assumption)
            obtain ⟨ad281, e281, hx281_0⟩ := Kd.at_int (Kd.R_reads' HO_7.out).2.2 (ji24) p281 q281
            cases e281
            replace p281 := eq_true p281
            replace q281 := eq_true q281
            go_wp2
            (refine Met.intro ?_; go_step; (repeat apply Exists.intro); refine ⟨?rel, ?frame⟩)
            case frame => first | rfl | (rw [c27b1]; first | done | rfl) | (rw [c27b0]; first | done | rfl) | (rw [c26b0]; first | done | rfl) | (rw [c25b0]; first | done | rfl) | (simp only [c23b0, c23b1, c25b0, c26b0, c27b0, c27b1]; first | done | rfl)
            case rel => exact ⟨_, (x7_1), H', ⟨by have := HK1.out; first | omega | exact Nat.le_refl _⟩, ⟨by (with_reducible repeat (first | apply Kd.V_alloc | apply Kd.V_drewN | apply Kd.V_drew)); exact HO_0.out⟩, ⟨by (with_reducible repeat (first | apply Kd.V_alloc | apply Kd.V_drewN | apply Kd.V_drew)); exact HO_1.out⟩, ⟨by (with_reducible repeat (first | apply Kd.R_alloc | apply Kd.R_drewN | apply Kd.R_drew)); exact HO_7.out⟩, ⟨by (with_reducible repeat (first | apply Kd.V_alloc | apply Kd.V_drewN | apply Kd.V_drew)); exact HO_277000.out⟩, ⟨by (with_reducible repeat (first | apply Kd.V_alloc | apply Kd.V_drewN | apply Kd.V_drew)); exact HO_278000.out⟩, ⟨by (with_reducible repeat (first | refine blk_drewN ?_ _ | refine blk_drew ?_ | refine blk_alloc ?_ _)); exact BK276.out⟩, ⟨by (with_reducible repeat (first | refine blk_drewN ?_ _ | refine blk_drew ?_ | refine blk_alloc ?_ _)); exact BK277.out⟩, ⟨by repeat (first | (with_reducible first | exact HB.out | apply below_alloc | apply pw_below_drewN | apply below_drew1 | refine below_set ?_ GE276.out | refine below_set ?_ GE277.out) | exact HB.out)⟩⟩
        · rw [if_neg c23] at H
          have c23b0 : decide (0 < (x7_1.length : Int)) = false := decide_eq_false c23
          have c23b1 : decide (0 < x7_1.length) = false := decide_eq_false (by omega)
          clear c23
          (first | rw [c23b0] | (simp only [i64_w, i32_w]; rw [c23b0]) | skip)
          have H' := Aside0.mk H
          clear H
          obtain ⟨Ao32, co32, eo32⟩ := Kd.R_slice HO_7.out
          subst eo32
          go_wp2
          (refine Met.intro ?_; go_step; (repeat apply Exists.intro); refine ⟨?rel, ?frame⟩)
          case frame => first | rfl | (rw [c23b1]; first | done | rfl) | (rw [c23b0]; first | done | rfl) | (simp only [c23b0, c23b1]; first | done | rfl)
          case rel => exact ⟨_, (x7_1), H', ⟨by have := HK1.out; first | omega | exact Nat.le_refl _⟩, ⟨by (with_reducible repeat (first | apply Kd.V_alloc | apply Kd.V_drewN | apply Kd.V_drew)); exact HO_0.out⟩, ⟨by (with_reducible repeat (first | apply Kd.V_alloc | apply Kd.V_drewN | apply Kd.V_drew)); exact HO_1.out⟩, ⟨by (with_reducible repeat (first | apply Kd.R_alloc | apply Kd.R_drewN | apply Kd.R_drew)); exact HO_7.out⟩, ⟨by (with_reducible repeat (first | apply Kd.V_alloc | apply Kd.V_drewN | apply Kd.V_drew)); exact HO_277000.out⟩, ⟨by (with_reducible repeat (first | apply Kd.V_alloc | apply Kd.V_drewN | apply Kd.V_drew)); exact HO_278000.out⟩, ⟨by (with_reducible repeat (first | refine blk_drewN ?_ _ | refine blk_drew ?_ | refine blk_alloc ?_ _)); exact BK276.out⟩, ⟨by (with_reducible repeat (first | refine blk_drewN ?_ _ | refine blk_drew ?_ | refine blk_alloc ?_ _)); exact BK277.out⟩, ⟨by repeat (first | (with_reducible first | exact HB.out | apply below_alloc | apply pw_below_drewN | apply below_drew1 | refine below_set ?_ GE276.out | refine below_set ?_ GE277.out) | exact HB.out)⟩⟩
  case rest =>
    clear HC8
    try clear c1
    try clear c2
    try clear p2
    try clear q2
    try clear hx2
    try clear c3
    try clear q3
    try clear p6
    try clear c13
    try clear c14
    try clear c15
    try clear c18
    try clear c23
    try clear c23b0
    try clear c23b1
    try clear c25
    try clear c25b0
    try clear c26
    try clear c26b0
    try clear c27
    try clear c27b0
    try clear c27b1
    try clear c28
    try clear c28b0
    try clear c28b1
    try clear p28
    try clear q28
    try clear hx28
    try clear q30
    try clear hcz19_0
    try clear hcz21_0
    try clear hfz19_0
    try clear hfz21_0
    try clear hx281_0
    try clear p2
    try clear p281
    try clear q281
    try clear q30
    obtain ⟨kq, x7_7, HA, HJ7, HO_0, HO_1, HO_7, HO_277000, HO_278000, BK276, BK277, HB⟩ := hcut
    cases kq with
    | zero => exact absurd HA.out (by simp [chattellaw01_NatLimbs.j1])
    | succ kj7 =>
      have H := HA.out
      clear HA
      simp only [chattellaw01_NatLimbs.j1] at H
      replace H := Option.bind_eq_some_iff.mp H
      obtain ⟨t285, A330, H⟩ := H
      replace H : ((slices_Equal_uint64_uint64.f kj7 t285 x7_7).bind fun t288 => (if t288 = true then ((nat_Nat_Zero.f t270).bind fun t289 => (chattellaw01_NatLimbs.j2 kj7 t264 t267 x7_7 t285 (t289 != ((x7_7.length : Int) == 0)) t270 t273)) else (chattellaw01_NatLimbs.j2 kj7 t264 t267 x7_7 t285 true t270 t273))) = some r := H
      have A33 := Aside0.mk A330
      clear A330
      have HC34 := Aside0.mk H
      clear H
      have hnb35 := NB276_277.out
      have hnc35 := NB277_276.out
      have hcz36_0 : wc.cell? ⟨gb276, 0, none⟩ = some (.slice Ao17 t270.length co17) := (blk_cell BK276.out 0).trans rfl
      have hfz36_0 := blk_frozen BK276.out 0
      go_upto_region 7 with (first | ((with_reducible refine gate_callee (f := 16) rfl ?_); refine goesL_ (some 39) rfl rfl Try.func16 (by kernel_rfl) rfl #[.agg #[.slice Ao17 t270.length co17]] rfl (by (try simp only [List.map_toArray, List.map_cons, List.map_nil]); first | done | rfl | (simp only [List.length_drop, List.length_take]; rfl)) ?_; (with_reducible refine (nat_Nat_Limbs.calls _ _ t270 t285 _ ?side1 ?side2 A33.out).mono ?_); (case side1 => exact cv HO_277000.out); (case side2 => exact (Kd.V_reads' HO_277000.out).2.1); rintro e w37 ⟨v286, rfl, ho0, hb⟩; refine ⟨_, rfl, ?_⟩; have n0_ := Aside0.mk (Kd.V_elder' (by (with_reducible repeat (first | apply Kd.V_alloc | apply Kd.V_drewN | apply Kd.V_drew)); exact HO_0.out) (Kd.R_base ho0) hb); have n1_ := Aside0.mk (Kd.V_elder' (by (with_reducible repeat (first | apply Kd.V_alloc | apply Kd.V_drewN | apply Kd.V_drew)); exact HO_1.out) (Kd.R_base ho0) hb); have n2_ := Aside0.mk (Kd.R_elder' (by (with_reducible repeat (first | apply Kd.R_alloc | apply Kd.R_drewN | apply Kd.R_drew)); exact HO_7.out) (Kd.R_base ho0) hb); have n3_ := Aside0.mk (Kd.V_elder' (by (with_reducible repeat (first | apply Kd.V_alloc | apply Kd.V_drewN | apply Kd.V_drew)); exact HO_277000.out) (Kd.R_base ho0) hb); have n4_ := Aside0.mk (Kd.V_elder' (by (with_reducible repeat (first | apply Kd.V_alloc | apply Kd.V_drewN | apply Kd.V_drew)); exact HO_278000.out) (Kd.R_base ho0) hb); have n5_ := Aside0.mk (Kd.R_lower (Kd.R_new' ho0 (Kd.R_lt (by (with_reducible repeat (first | apply Kd.R_alloc | apply Kd.R_drewN | apply Kd.R_drew)); exact HO_7.out))) (bz HB.out)); have n6_ := Aside0.mk (bb BK276.out hb); have n7_ := Aside0.mk (bb BK277.out hb); have n8_ := Aside0.mk (bs HB.out hb); clear HO_0; clear HO_1; clear HO_7; clear HO_277000; clear HO_278000; clear BK276; clear BK277; clear HB; have HO_0 := n0_; have HO_1 := n1_; have HO_7 := n2_; have HO_277000 := n3_; have HO_278000 := n4_; have HO287 := n5_; have BK276 := n6_; have BK277 := n7_; have HB := n8_; clear n0_ n1_ n2_ n3_ n4_ n5_ n6_ n7_ n8_; (try clear hb); (try clear hb2); (try clear hk); (try clear hi); (try clear ho0)))
      (try simp only [Act.put, List.setIfInBounds_toArray, List.set_cons_zero, List.set_cons_succ])
      go_cut [51] (fun v51 wc => ∃ (kq : Nat) (x51_33 : Bool), v51 = .bool x51_33 ∧ Aside0 (chattellaw01_NatLimbs.j2 kq t264 t267 x7_7 t285 x51_33 t270 t273 = some r) ∧ Aside0 (kq ≤ kj7) ∧ Aside0 (Kd.V (Kd.int .u64) 27 wc w.heap.size (fun k_ => some k_ ≠ (u7 : Value).ownBlock ∧ some k_ ≠ (v286 : Value).ownBlock ∧ k_ ≠ gb276 ∧ k_ ≠ gb277) (.slice Ao11 t264.length co11) t264) ∧ Aside0 (Kd.V (Kd.int .u64) 27 wc w.heap.size (fun k_ => some k_ ≠ (u7 : Value).ownBlock ∧ some k_ ≠ (v286 : Value).ownBlock ∧ k_ ≠ gb276 ∧ k_ ≠ gb277) (.slice Ao13 t267.length co13) t267) ∧ Aside0 (Kd.R (Kd.int .u64) 27 wc w.heap.size (fun k_ => some k_ ≠ (v286 : Value).ownBlock) u7 x7_7) ∧ Aside0 (Kd.R (Kd.int .u64) 27 wc w.heap.size (fun k_ => some k_ ≠ (u7 : Value).ownBlock) v286 t285) ∧ Aside0 (Kd.V (Kd.int .u64) 27 wc w.heap.size (fun k_ => some k_ ≠ (u7 : Value).ownBlock ∧ some k_ ≠ (v286 : Value).ownBlock ∧ k_ ≠ gb276 ∧ k_ ≠ gb277) (.slice Ao17 t270.length co17) t270) ∧ Aside0 (Kd.V (Kd.int .u64) 27 wc w.heap.size (fun k_ => some k_ ≠ (u7 : Value).ownBlock ∧ some k_ ≠ (v286 : Value).ownBlock ∧ k_ ≠ gb276 ∧ k_ ≠ gb277) (.slice Ao20 t273.length co20) t273) ∧ Aside0 (wc.heap[gb276]? = some (.cells #[(.slice Ao17 t270.length co17)] 25 (0, 0))) ∧ Aside0 (wc.heap[gb277]? = some (.cells #[(.slice Ao20 t273.length co20)] 25 (0, 0))) ∧ Aside0 (Below w.heap.size w wc))
      case first =>
        have H := HC34.out
        clear HC34
        replace H := Option.bind_eq_some_iff.mp H
        obtain ⟨t288, A380, H⟩ := H
        replace H : (if t288 = true then ((nat_Nat_Zero.f t270).bind fun t289 => (chattellaw01_NatLimbs.j2 kj7 t264 t267 x7_7 t285 (t289 != ((x7_7.length : Int) == 0)) t270 t273)) else (chattellaw01_NatLimbs.j2 kj7 t264 t267 x7_7 t285 true t270 t273)) = some r := H
        have A38 := Aside0.mk A380
        clear A380
        by_cases c39 : t288 = true
        · subst c39
          have H1 : ((nat_Nat_Zero.f t270).bind fun t289 => (chattellaw01_NatLimbs.j2 kj7 t264 t267 x7_7 t285 (t289 != ((x7_7.length : Int) == 0)) t270 t273)) = some r := by rw [if_pos rfl] at H; exact H
          clear H
          have H := H1
          clear H1
          replace H := Option.bind_eq_some_iff.mp H
          obtain ⟨t289, A400, H⟩ := H
          replace H : (chattellaw01_NatLimbs.j2 kj7 t264 t267 x7_7 t285 (t289 != ((x7_7.length : Int) == 0)) t270 t273) = some r := H
          have A40 := Aside0.mk A400
          clear A400
          have H' := Aside0.mk H
          clear H
          obtain ⟨Ao41, co41, eo41⟩ := Kd.R_slice HO287.out
          subst eo41
          obtain ⟨Ao42, co42, eo42⟩ := Kd.R_slice HO_7.out
          subst eo42
          go_wp2_with (first | ((with_reducible refine gate_callee (f := 17) rfl ?_); refine goesL_ (some 42) rfl rfl Try.func17 (by kernel_rfl) rfl #[.slice Ao41 t285.length co41, .slice Ao42 x7_7.length co42] rfl (by (try simp only [List.map_toArray, List.map_cons, List.map_nil]); first | done | rfl | (simp only [List.length_drop, List.length_take]; rfl)) ?_; (with_reducible refine (slices_Equal_uint64_uint64.calls kj7 _ _ t285 _ _ x7_7 true _ ?side1 ?side2 ?side3 ?side4 A38.out).mono ?_); (case side1 => exact cr HO287.out); (case side2 => exact (Kd.R_reads' HO287.out).2.1); (case side3 => exact cr HO_7.out); (case side4 => exact (Kd.R_reads' HO_7.out).2.1); rintro e w' ⟨rfl, ⟨nd, rfl⟩⟩; refine ⟨_, rfl, ?_⟩; have hnb43 := NB276_277.out; have hnc43 := NB277_276.out; have hcz44_0 : w37.cell? ⟨gb276, 0, none⟩ = some (.slice Ao17 t270.length co17) := (blk_cell BK276.out 0).trans rfl; have hfz44_0 := blk_frozen BK276.out 0) | (go_at_call 18; (with_reducible refine (nat_Nat_Zero.calls _ _ t270 t289 _ ?side1 ?side2 A40.out).mono ?_); (case side1 => exact cv HO_277000.out); (case side2 => exact (Kd.V_reads' HO_277000.out).2.1); rintro e w45 ⟨rfl, hb⟩; replace HO_0 := Aside0.mk (vb HO_0.out hb); replace HO_1 := Aside0.mk (vb HO_1.out hb); replace HO_7 := Aside0.mk (rb HO_7.out hb); replace HO_277000 := Aside0.mk (vb HO_277000.out hb); replace HO_278000 := Aside0.mk (vb HO_278000.out hb); replace HO287 := Aside0.mk (rb HO287.out hb); replace BK276 := Aside0.mk (bb BK276.out hb); replace BK277 := Aside0.mk (bb BK277.out hb); replace HB := Aside0.mk (bs HB.out hb); (try clear hb); (try clear hb2); (try clear hk); (try clear hi)))
          go_meet
          case rel => exact ⟨_, ((t289 != ((x7_7.length : Int) == 0))), (by first | rfl | (simp; done) | (simp [*]; done)), H', ⟨by have := HJ7.out; first | omega | exact Nat.le_refl _⟩, ⟨by (with_reducible repeat (first | apply Kd.V_alloc | apply Kd.V_drewN | apply Kd.V_drew)); exact Kd.V_mono HO_0.out (fun _ hk => ⟨hk.1.1, ⟨hk.2, ⟨hk.1.2.1, hk.1.2.2⟩⟩⟩)⟩, ⟨by (with_reducible repeat (first | apply Kd.V_alloc | apply Kd.V_drewN | apply Kd.V_drew)); exact Kd.V_mono HO_1.out (fun _ hk => ⟨hk.1.1, ⟨hk.2, ⟨hk.1.2.1, hk.1.2.2⟩⟩⟩)⟩, ⟨by (with_reducible repeat (first | apply Kd.R_alloc | apply Kd.R_drewN | apply Kd.R_drew)); exact Kd.R_mono HO_7.out (fun _ hk => hk.2)⟩, ⟨by (with_reducible repeat (first | apply Kd.R_alloc | apply Kd.R_drewN | apply Kd.R_drew)); exact Kd.R_mono HO287.out (fun _ hk => hk.2)⟩, ⟨by (with_reducible repeat (first | apply Kd.V_alloc | apply Kd.V_drewN | apply Kd.V_drew)); exact Kd.V_mono HO_277000.out (fun _ hk => ⟨hk.1.1, ⟨hk.2, ⟨hk.1.2.1, hk.1.2.2⟩⟩⟩)⟩, ⟨by (with_reducible repeat (first | apply Kd.V_alloc | apply Kd.V_drewN | apply Kd.V_drew)); exact Kd.V_mono HO_278000.out (fun _ hk => ⟨hk.1.1, ⟨hk.2, ⟨hk.1.2.1, hk.1.2.2⟩⟩⟩)⟩, ⟨by (with_reducible repeat (first | refine blk_drewN ?_ _ | refine blk_drew ?_ | refine blk_alloc ?_ _)); exact BK276.out⟩, ⟨by (with_reducible repeat (first | refine blk_drewN ?_ _ | refine blk_drew ?_ | refine blk_alloc ?_ _)); exact BK277.out⟩, ⟨by repeat (first | (with_reducible first | exact HB.out | apply below_alloc | apply pw_below_drewN | apply below_drew1 | refine below_set ?_ GE276.out | refine below_set ?_ GE277.out) | exact HB.out)⟩⟩
        · replace c39 := Bool.eq_false_iff.mpr c39
          subst c39
          have H1 : (chattellaw01_NatLimbs.j2 kj7 t264 t267 x7_7 t285 true t270 t273) = some r := by rw [if_neg (show ¬ (false = true) by decide)] at H; exact H
          clear H
          have H := H1
          clear H1
          have H' := Aside0.mk H
          clear H
          obtain ⟨Ao46, co46, eo46⟩ := Kd.R_slice HO287.out
          subst eo46
          obtain ⟨Ao47, co47, eo47⟩ := Kd.R_slice HO_7.out
          subst eo47
          go_wp2_with (first | ((with_reducible refine gate_callee (f := 17) rfl ?_); refine goesL_ (some 42) rfl rfl Try.func17 (by kernel_rfl) rfl #[.slice Ao46 t285.length co46, .slice Ao47 x7_7.length co47] rfl (by (try simp only [List.map_toArray, List.map_cons, List.map_nil]); first | done | rfl | (simp only [List.length_drop, List.length_take]; rfl)) ?_; (with_reducible refine (slices_Equal_uint64_uint64.calls kj7 _ _ t285 _ _ x7_7 false _ ?side1 ?side2 ?side3 ?side4 A38.out).mono ?_); (case side1 => exact cr HO287.out); (case side2 => exact (Kd.R_reads' HO287.out).2.1); (case side3 => exact cr HO_7.out); (case side4 => exact (Kd.R_reads' HO_7.out).2.1); rintro e w' ⟨rfl, ⟨nd, rfl⟩⟩; refine ⟨_, rfl, ?_⟩))
          go_meet
          case rel => exact ⟨_, (true), (by first | rfl | (simp; done) | (simp [*]; done)), H', ⟨by have := HJ7.out; first | omega | exact Nat.le_refl _⟩, ⟨by (with_reducible repeat (first | apply Kd.V_alloc | apply Kd.V_drewN | apply Kd.V_drew)); exact Kd.V_mono HO_0.out (fun _ hk => ⟨hk.1.1, ⟨hk.2, ⟨hk.1.2.1, hk.1.2.2⟩⟩⟩)⟩, ⟨by (with_reducible repeat (first | apply Kd.V_alloc | apply Kd.V_drewN | apply Kd.V_drew)); exact Kd.V_mono HO_1.out (fun _ hk => ⟨hk.1.1, ⟨hk.2, ⟨hk.1.2.1, hk.1.2.2⟩⟩⟩)⟩, ⟨by (with_reducible repeat (first | apply Kd.R_alloc | apply Kd.R_drewN | apply Kd.R_drew)); exact Kd.R_mono HO_7.out (fun _ hk => hk.2)⟩, ⟨by (with_reducible repeat (first | apply Kd.R_alloc | apply Kd.R_drewN | apply Kd.R_drew)); exact Kd.R_mono HO287.out (fun _ hk => hk.2)⟩, ⟨by (with_reducible repeat (first | apply Kd.V_alloc | apply Kd.V_drewN | apply Kd.V_drew)); exact Kd.V_mono HO_277000.out (fun _ hk => ⟨hk.1.1, ⟨hk.2, ⟨hk.1.2.1, hk.1.2.2⟩⟩⟩)⟩, ⟨by (with_reducible repeat (first | apply Kd.V_alloc | apply Kd.V_drewN | apply Kd.V_drew)); exact Kd.V_mono HO_278000.out (fun _ hk => ⟨hk.1.1, ⟨hk.2, ⟨hk.1.2.1, hk.1.2.2⟩⟩⟩)⟩, ⟨by (with_reducible repeat (first | refine blk_drewN ?_ _ | refine blk_drew ?_ | refine blk_alloc ?_ _)); exact BK276.out⟩, ⟨by (with_reducible repeat (first | refine blk_drewN ?_ _ | refine blk_drew ?_ | refine blk_alloc ?_ _)); exact BK277.out⟩, ⟨by repeat (first | (with_reducible first | exact HB.out | apply below_alloc | apply pw_below_drewN | apply below_drew1 | refine below_set ?_ GE276.out | refine below_set ?_ GE277.out) | exact HB.out)⟩⟩
      case rest =>
        clear HC34
        try clear c1
        try clear c2
        try clear p2
        try clear q2
        try clear hx2
        try clear c3
        try clear q3
        try clear c4
        try clear p6
        try clear c13
        try clear c14
        try clear c15
        try clear c16
        try clear c17
        try clear c18
        try clear c23
        try clear c23b0
        try clear c23b1
        try clear c25
        try clear c25b0
        try clear c26
        try clear c26b0
        try clear c27
        try clear c27b0
        try clear c27b1
        try clear c28
        try clear c28b0
        try clear c28b1
        try clear p28
        try clear q28
        try clear hx28
        try clear q30
        try clear c35
        try clear c39
        try clear c43
        try clear hcz19_0
        try clear hcz21_0
        try clear hcz36_0
        try clear hcz44_0
        try clear hfz19_0
        try clear hfz21_0
        try clear hfz36_0
        try clear hfz44_0
        try clear hx281_0
        try clear p2
        try clear p28
        try clear p281
        try clear p6
        try clear q2
        try clear q28
        try clear q281
        try clear q3
        try clear q30
        obtain ⟨kq, x51_33, rfl, HA, HJ33, HO_0, HO_1, HO_7, HO_8, HO_277000, HO_278000, BK276, BK277, HB⟩ := hcut
        cases kq with
        | zero => exact absurd HA.out (by simp [chattellaw01_NatLimbs.j2])
        | succ kj33 =>
          have H := HA.out
          clear HA
          simp only [chattellaw01_NatLimbs.j2] at H
          by_cases c48 : x51_33 = true
          · subst c48
            have H1 : (some false) = some r := by rw [if_pos rfl] at H; exact H
            clear H
            have H := H1
            clear H1
            exact absurd (Option.some.inj H) (by rw [ht_]; decide)
          · replace c48 := Bool.eq_false_iff.mpr c48
            subst c48
            have H1 : (chattellaw01_NatLimbs.l1 kj33 t264 t267 x7_7 t285 (t285.length : Int) 0 t270 t273) = some r := by rw [if_neg (show ¬ (false = true) by decide)] at H; exact H
            clear H
            have H := H1
            clear H1
            have H' := Aside0.mk H
            clear H
            obtain ⟨Ao49, co49, eo49⟩ := Kd.R_slice HO_8.out
            subst eo49
            go_wp2
            go_loopg [54] kj33 (fun kq v54 w' => ∃ (x8_3 : List Int) (x54_3 : Int), v54 = .int .i64 x54_3 ∧ Aside0 (chattellaw01_NatLimbs.l1 kq t264 t267 x7_7 x8_3 (t285.length : Int) x54_3 t270 t273 = some r) ∧ Aside0 (kq ≤ kj33) ∧ Aside0 (Kd.V (Kd.int .u64) 27 w' w.heap.size (fun k_ => some k_ ≠ (u7 : Value).ownBlock ∧ some k_ ≠ ((.slice Ao49 t285.length co49) : Value).ownBlock ∧ k_ ≠ gb276 ∧ k_ ≠ gb277) (.slice Ao11 t264.length co11) t264) ∧ Aside0 (Kd.V (Kd.int .u64) 27 w' w.heap.size (fun k_ => some k_ ≠ (u7 : Value).ownBlock ∧ some k_ ≠ ((.slice Ao49 t285.length co49) : Value).ownBlock ∧ k_ ≠ gb276 ∧ k_ ≠ gb277) (.slice Ao13 t267.length co13) t267) ∧ Aside0 (Kd.R (Kd.int .u64) 27 w' w.heap.size (fun k_ => some k_ ≠ ((.slice Ao49 t285.length co49) : Value).ownBlock) u7 x7_7) ∧ Aside0 (Kd.R (Kd.int .u64) 27 w' w.heap.size (fun k_ => some k_ ≠ (u7 : Value).ownBlock) (.slice Ao49 t285.length co49) x8_3) ∧ Aside0 (Kd.V (Kd.int .u64) 27 w' w.heap.size (fun k_ => some k_ ≠ (u7 : Value).ownBlock ∧ some k_ ≠ ((.slice Ao49 t285.length co49) : Value).ownBlock ∧ k_ ≠ gb276 ∧ k_ ≠ gb277) (.slice Ao17 t270.length co17) t270) ∧ Aside0 (Kd.V (Kd.int .u64) 27 w' w.heap.size (fun k_ => some k_ ≠ (u7 : Value).ownBlock ∧ some k_ ≠ ((.slice Ao49 t285.length co49) : Value).ownBlock ∧ k_ ≠ gb276 ∧ k_ ≠ gb277) (.slice Ao20 t273.length co20) t273) ∧ Aside0 (w'.heap[gb276]? = some (.cells #[(.slice Ao17 t270.length co17)] 25 (0, 0))) ∧ Aside0 (w'.heap[gb277]? = some (.cells #[(.slice Ao20 t273.length co20)] 25 (0, 0))) ∧ Aside0 (Below w.heap.size w w'))
            case atStart => exact ⟨(t285), (0), (by first | rfl | (simp; done) | (simp [*]; done)), H', ⟨Nat.le_refl _⟩, ⟨by (with_reducible repeat (first | apply Kd.V_alloc | apply Kd.V_drewN | apply Kd.V_drew)); exact HO_0.out⟩, ⟨by (with_reducible repeat (first | apply Kd.V_alloc | apply Kd.V_drewN | apply Kd.V_drew)); exact HO_1.out⟩, ⟨by (with_reducible repeat (first | apply Kd.R_alloc | apply Kd.R_drewN | apply Kd.R_drew)); exact HO_7.out⟩, ⟨by (with_reducible repeat (first | apply Kd.R_alloc | apply Kd.R_drewN | apply Kd.R_drew)); exact HO_8.out⟩, ⟨by (with_reducible repeat (first | apply Kd.V_alloc | apply Kd.V_drewN | apply Kd.V_drew)); exact HO_277000.out⟩, ⟨by (with_reducible repeat (first | apply Kd.V_alloc | apply Kd.V_drewN | apply Kd.V_drew)); exact HO_278000.out⟩, ⟨by (with_reducible repeat (first | refine blk_drewN ?_ _ | refine blk_drew ?_ | refine blk_alloc ?_ _)); exact BK276.out⟩, ⟨by (with_reducible repeat (first | refine blk_drewN ?_ _ | refine blk_drew ?_ | refine blk_alloc ?_ _)); exact BK277.out⟩, ⟨by repeat (first | (with_reducible first | exact HB.out | apply below_alloc | apply pw_below_drewN | apply below_drew1 | refine below_set ?_ GE276.out | refine below_set ?_ GE277.out) | exact HB.out)⟩⟩
            case round =>
              clear H'
              try clear c1
              try clear c2
              try clear p2
              try clear q2
              try clear hx2
              try clear c3
              try clear q3
              try clear c4
              try clear p6
              try clear c13
              try clear c14
              try clear c15
              try clear c16
              try clear c17
              try clear c18
              try clear c23
              try clear c23b0
              try clear c23b1
              try clear c25
              try clear c25b0
              try clear c26
              try clear c26b0
              try clear c27
              try clear c27b0
              try clear c27b1
              try clear c28
              try clear c28b0
              try clear c28b1
              try clear p28
              try clear q28
              try clear hx28
              try clear q30
              try clear c35
              try clear c39
              try clear c43
              try clear c48
              try clear hcz19_0
              try clear hcz21_0
              try clear hcz36_0
              try clear hcz44_0
              try clear hfz19_0
              try clear hfz21_0
              try clear hfz36_0
              try clear hfz44_0
              try clear hx281_0
              try clear p2
              try clear p28
              try clear p281
              try clear p6
              try clear q2
              try clear q28
              try clear q281
              try clear q3
              try clear q30
              obtain ⟨x8_3, x54_3, rfl, HA, HK3, HO_0, HO_1, HO_7, HO_8, HO_277000, HO_278000, BK276, BK277, HB⟩ := hrel
              have hl8_3 := (Kd.R_reads' HO_8.out).1
              rw [hl8_3] at HO_8
              (try simp only [hl8_3])
              (try simp only [hl8_3] at BK276)
              (try simp only [hl8_3] at BK277)
              (try simp only [hl8_3] at HO_0)
              (try simp only [hl8_3] at HO_1)
              (try simp only [hl8_3] at HO_7)
              (try simp only [hl8_3] at HO_277000)
              (try simp only [hl8_3] at HO_278000)
              cases gk with
              | zero => exact absurd HA.out (by simp [chattellaw01_NatLimbs.l1])
              | succ k3 =>
                have H := HA.out
                clear HA
                simp only [chattellaw01_NatLimbs.l1] at H
                by_cases c50 : x54_3 < (t285.length : Int)
                · rw [if_pos c50] at H
                  have c50b0 : decide (x54_3 < (t285.length : Int)) = true := decide_eq_true c50
                  have c50b0x := c50b0
                  (try simp only [hl8_3] at c50b0x)
                  clear c50
                  by_cases c51 : 0 ≤ x54_3
                  rotate_left
                  · rw [if_neg c51] at H
                    exact absurd H (by simp)
                  rw [if_pos c51] at H
                  have c51b0 : decide (0 ≤ x54_3) = true := decide_eq_true c51
                  clear c51
                  by_cases c52 : x54_3 < (x8_3.length : Int)
                  rotate_left
                  · rw [if_neg c52] at H
                    exact absurd H (by simp)
                  rw [if_pos c52] at H
                  have c52b0 : decide (x54_3 < (x8_3.length : Int)) = true := decide_eq_true c52
                  have c52b0x := c52b0
                  (try simp only [hl8_3] at c52b0x)
                  clear c52
                  obtain ⟨y291, hy291⟩ : ∃ y_ : List Int, y_ = (x8_3.set (x54_3 : Int).toNat (IntKind.u64.wrap ((rd x8_3 x54_3) + 1))) := ⟨_, rfl⟩
                  replace H : (chattellaw01_NatLimbs.l1 k3 t264 t267 x7_7 y291 (t285.length : Int) (wrap64 (x54_3 + 1)) t270 t273) = some r := by first | (rw [hy291]; with_reducible exact H) | (have H2_ := (Option.bind_some _ _).symm.trans H; rw [hy291]; with_reducible exact H2_) | (have H2_ := (Option.bind_some _ _).symm.trans H; with_reducible exact H2_) | with_reducible exact H | (rw [hy291]; exact H) | exact H
                  have Ny291 := Aside0.mk hy291
                  clear hy291
                  have H' := Aside0.mk H
                  clear H
                  have p290 : 0 ≤ (x54_3 : Int) := of_decide_eq_true (by first | (with_reducible assumption) | assumption)
                  have q290 : x54_3 < (x8_3.length : Int) := of_decide_eq_true (by first | (with_reducible assumption) | assumption)
                  obtain ⟨ad290, e290, hx290_0⟩ := Kd.at_int (Kd.R_reads' HO_8.out).2.2 x54_3 p290 q290
                  cases e290
                  replace p290 := eq_true p290
                  replace q290 := eq_true q290
                  have p53 : 0 ≤ (x54_3 : Int) := of_decide_eq_true (by first | (with_reducible assumption) | assumption)
                  have q53 : (x54_3 : Int) < ((x8_3.length : Int) : Int) := of_decide_eq_true (by first | (with_reducible assumption) | assumption)
                  obtain ⟨go53, co53, eo53, gb53, gl53, cl53, HG53⟩ := Kd.R_form HO_8.out (by omega)
                  (first | cases eo53 | (injection eo53 with ea_ en_ ec_; (first | subst ea_ | (injection ea_ with ea_; subst ea_)); subst ec_; clear en_))
                  have GB53 := Aside0.mk gb53
                  have GG53 := Aside0.mk HG53
                  clear gb53 gl53 HG53
                  (first | simp only [add_plain] at hx290_0 | skip)
                  obtain ⟨hx53_0, hf53_0⟩ := Kd.R_celln 0 HO_8.out (x54_3 : Int) p53 q53
                  replace p53 := eq_true p53
                  replace q53 := eq_true q53
                  have HP54 := Kd.R_putg HO_8.out (x54_3 : Int) (IntKind.u64.wrap ((rd x8_3 x54_3) + 1))
                  go_wp2_with (first | ((with_reducible refine gate_store (t := 27) (p := 62) rfl ?_); refine store_event (t := 27) (p := 62) (v := ?vo_w55) (w1 := (wr.setCell ⟨go53, (x54_3 : Int).toNat, none⟩ (.int .u64 (IntKind.u64.wrap ((rd x8_3 x54_3) + 1))))) ?hg ?ho ?hn ?hr ?_; (case ho => rfl); (case hg => rfl); (case hn => rfl); (case hr => first | (go_simp; done) | (go_simp; rfl)); intro w55 hw; have hg : wr.grownBy w55 (some go53) := (by rw [hw]; exact HP54.2); have hp_ : Kd.R (Kd.int .u64) 27 w55 w.heap.size (fun k_ => some k_ ≠ (u7 : Value).ownBlock) (.slice (some ⟨go53, 0, none⟩) x8_3.length co49) y291 := (by rw [hw, Ny291.out]; exact HP54.1); clear HP54; have n0_ := Aside0.mk (Kd.V_afterv (v := (.slice (some ⟨go53, 0, none⟩) x8_3.length co49)) (v1 := (.slice (some ⟨go53, 0, none⟩) x8_3.length co49)) (ok := (fun k_ => some k_ ≠ (u7 : Value).ownBlock ∧ k_ ≠ gb276 ∧ k_ ≠ gb277)) (by (with_reducible repeat (first | apply Kd.V_alloc | apply Kd.V_drewN | apply Kd.V_drew)); exact Kd.V_mono HO_0.out (fun _ hk => ⟨⟨hk.1, ⟨hk.2.2.1, hk.2.2.2⟩⟩, hk.2.1⟩)) hg (.inl rfl)); have n1_ := Aside0.mk (Kd.V_afterv (v := (.slice (some ⟨go53, 0, none⟩) x8_3.length co49)) (v1 := (.slice (some ⟨go53, 0, none⟩) x8_3.length co49)) (ok := (fun k_ => some k_ ≠ (u7 : Value).ownBlock ∧ k_ ≠ gb276 ∧ k_ ≠ gb277)) (by (with_reducible repeat (first | apply Kd.V_alloc | apply Kd.V_drewN | apply Kd.V_drew)); exact Kd.V_mono HO_1.out (fun _ hk => ⟨⟨hk.1, ⟨hk.2.2.1, hk.2.2.2⟩⟩, hk.2.1⟩)) hg (.inl rfl)); have n2_ := Aside0.mk (Kd.R_after (v := (.slice (some ⟨go53, 0, none⟩) x8_3.length co49)) (v1 := (.slice (some ⟨go53, 0, none⟩) x8_3.length co49)) (ok := (fun _ => True)) (by (with_reducible repeat (first | apply Kd.R_alloc | apply Kd.R_drewN | apply Kd.R_drew)); exact Kd.R_mono HO_7.out (fun _ hk => ⟨trivial, hk⟩)) hg (.inl rfl)); have n3_ := Aside0.mk (hp_); have n4_ := Aside0.mk (Kd.V_afterv (v := (.slice (some ⟨go53, 0, none⟩) x8_3.length co49)) (v1 := (.slice (some ⟨go53, 0, none⟩) x8_3.length co49)) (ok := (fun k_ => some k_ ≠ (u7 : Value).ownBlock ∧ k_ ≠ gb276 ∧ k_ ≠ gb277)) (by (with_reducible repeat (first | apply Kd.V_alloc | apply Kd.V_drewN | apply Kd.V_drew)); exact Kd.V_mono HO_277000.out (fun _ hk => ⟨⟨hk.1, ⟨hk.2.2.1, hk.2.2.2⟩⟩, hk.2.1⟩)) hg (.inl rfl)); have n5_ := Aside0.mk (Kd.V_afterv (v := (.slice (some ⟨go53, 0, none⟩) x8_3.length co49)) (v1 := (.slice (some ⟨go53, 0, none⟩) x8_3.length co49)) (ok := (fun k_ => some k_ ≠ (u7 : Value).ownBlock ∧ k_ ≠ gb276 ∧ k_ ≠ gb277)) (by (with_reducible repeat (first | apply Kd.V_alloc | apply Kd.V_drewN | apply Kd.V_drew)); exact Kd.V_mono HO_278000.out (fun _ hk => ⟨⟨hk.1, ⟨hk.2.2.1, hk.2.2.2⟩⟩, hk.2.1⟩)) hg (.inl rfl)); have n6_ := Aside0.mk (blk_grown (g := gb276) (o := .cells #[.slice Ao17 t270.length co17] 25 (0, 0)) (by (with_reducible repeat (first | refine blk_drewN ?_ _ | refine blk_drew ?_ | refine blk_alloc ?_ _)); exact BK276.out) hg (Kd.R_ne HO_8.out BK276.out (by decide))); have n7_ := Aside0.mk (blk_grown (g := gb277) (o := .cells #[.slice Ao20 t273.length co20] 25 (0, 0)) (by (with_reducible repeat (first | refine blk_drewN ?_ _ | refine blk_drew ?_ | refine blk_alloc ?_ _)); exact BK277.out) hg (Kd.R_ne HO_8.out BK277.out (by decide))); have n8_ := Aside0.mk ((by rw [hw]; exact below_set (HB.out) GB53.out : Below w.heap.size w w55)); clear HO_0; clear HO_1; clear HO_7; clear HO_8; clear HO_277000; clear HO_278000; clear BK276; clear BK277; clear HB; have HO_0 := n0_; have HO_1 := n1_; have HO_7 := n2_; have HO_8 := n3_; have HO_277000 := n4_; have HO_278000 := n5_; have BK276 := n6_; have BK277 := n7_; have HB := n8_; clear n0_ n1_ n2_ n3_ n4_ n5_ n6_ n7_ n8_; clear hg hw hp_))
                  (try simp only [← hl8_3])
                  go_roundg k3
                  case measure => have := HJ7.out; have := HJ33.out; have := HK3.out; omega
                  case rel => exact ⟨(y291), (wrap64 (x54_3 + 1)), (by first | rfl | (simp; done) | (simp [*]; done)), H', ⟨by have := HJ7.out; have := HJ33.out; have := HK3.out; omega⟩, ⟨by (try simp only [hl8_3]); (with_reducible repeat (first | apply Kd.V_alloc | apply Kd.V_drewN | apply Kd.V_drew)); exact Kd.V_mono HO_0.out (fun _ hk => ⟨hk.1.1, ⟨hk.2, ⟨hk.1.2.1, hk.1.2.2⟩⟩⟩)⟩, ⟨by (try simp only [hl8_3]); (with_reducible repeat (first | apply Kd.V_alloc | apply Kd.V_drewN | apply Kd.V_drew)); exact Kd.V_mono HO_1.out (fun _ hk => ⟨hk.1.1, ⟨hk.2, ⟨hk.1.2.1, hk.1.2.2⟩⟩⟩)⟩, ⟨by (try simp only [hl8_3]); (with_reducible repeat (first | apply Kd.R_alloc | apply Kd.R_drewN | apply Kd.R_drew)); exact Kd.R_mono HO_7.out (fun _ hk => hk.2)⟩, ⟨by (try simp only [hl8_3]); (with_reducible repeat (first | apply Kd.R_alloc | apply Kd.R_drewN | apply Kd.R_drew)); exact HO_8.out⟩, ⟨by (try simp only [hl8_3]); (with_reducible repeat (first | apply Kd.V_alloc | apply Kd.V_drewN | apply Kd.V_drew)); exact Kd.V_mono HO_277000.out (fun _ hk => ⟨hk.1.1, ⟨hk.2, ⟨hk.1.2.1, hk.1.2.2⟩⟩⟩)⟩, ⟨by (try simp only [hl8_3]); (with_reducible repeat (first | apply Kd.V_alloc | apply Kd.V_drewN | apply Kd.V_drew)); exact Kd.V_mono HO_278000.out (fun _ hk => ⟨hk.1.1, ⟨hk.2, ⟨hk.1.2.1, hk.1.2.2⟩⟩⟩)⟩, ⟨by (try simp only [hl8_3]); (with_reducible repeat (first | refine blk_drewN ?_ _ | refine blk_drew ?_ | refine blk_alloc ?_ _)); exact BK276.out⟩, ⟨by (try simp only [hl8_3]); (with_reducible repeat (first | refine blk_drewN ?_ _ | refine blk_drew ?_ | refine blk_alloc ?_ _)); exact BK277.out⟩, ⟨by repeat (first | (with_reducible first | exact HB.out | apply below_alloc | apply pw_below_drewN | apply below_drew1 | refine below_set ?_ GE276.out | refine below_set ?_ GE277.out) | exact HB.out)⟩⟩
                · rw [if_neg c50] at H
                  have c50b0 : decide (x54_3 < (t285.length : Int)) = false := decide_eq_false c50
                  have c50b0x := c50b0
                  (try simp only [hl8_3] at c50b0x)
                  clear c50
                  replace H := Option.bind_eq_some_iff.mp H
                  obtain ⟨t292, A560, H⟩ := H
                  replace H : ((slices_Equal_uint64_uint64.f k3 t292 x7_7).bind fun t295 => (if t295 = true then ((nat_Nat_Bits.f k3 t270).bind fun t296 => (if (x7_7.length : Int) > 0 then (if t296 ≤ (wrap64 (64 * (wrap64 ((x7_7.length : Int) - 1)))) then (chattellaw01_NatLimbs.j4 k3 t264 t267 true t270 t273) else (if t296 > (wrap64 (64 * (x7_7.length : Int))) then (chattellaw01_NatLimbs.j4 k3 t264 t267 true t270 t273) else (if 0 ≤ (wrap64 ((x7_7.length : Int) - 1)) then (if (wrap64 ((x7_7.length : Int) - 1)) < (x7_7.length : Int) then (if 0 ≤ (IntKind.u64.wrap (Int.tmod (wrap64 (t296 - 1)) 64)) then (if (shr .u64 (rd x7_7 (wrap64 ((x7_7.length : Int) - 1))) (IntKind.u64.wrap (Int.tmod (wrap64 (t296 - 1)) 64))) = 1 then (if (x7_7.length : Int) = 0 then (chattellaw01_NatLimbs.j4 k3 t264 t267 (t296 != 0) t270 t273) else (chattellaw01_NatLimbs.j4 k3 t264 t267 false t270 t273)) else (chattellaw01_NatLimbs.j4 k3 t264 t267 true t270 t273)) else (none)) else (none)) else (none)))) else (if (x7_7.length : Int) = 0 then (chattellaw01_NatLimbs.j4 k3 t264 t267 (t296 != 0) t270 t273) else (chattellaw01_NatLimbs.j4 k3 t264 t267 false t270 t273)))) else (some false))) = some r := H
                  have A56 := Aside0.mk A560
                  clear A560
                  replace H := Option.bind_eq_some_iff.mp H
                  obtain ⟨t295, A570, H⟩ := H
                  replace H : (if t295 = true then ((nat_Nat_Bits.f k3 t270).bind fun t296 => (if (x7_7.length : Int) > 0 then (if t296 ≤ (wrap64 (64 * (wrap64 ((x7_7.length : Int) - 1)))) then (chattellaw01_NatLimbs.j4 k3 t264 t267 true t270 t273) else (if t296 > (wrap64 (64 * (x7_7.length : Int))) then (chattellaw01_NatLimbs.j4 k3 t264 t267 true t270 t273) else (if 0 ≤ (wrap64 ((x7_7.length : Int) - 1)) then (if (wrap64 ((x7_7.length : Int) - 1)) < (x7_7.length : Int) then (if 0 ≤ (IntKind.u64.wrap (Int.tmod (wrap64 (t296 - 1)) 64)) then (if (shr .u64 (rd x7_7 (wrap64 ((x7_7.length : Int) - 1))) (IntKind.u64.wrap (Int.tmod (wrap64 (t296 - 1)) 64))) = 1 then (if (x7_7.length : Int) = 0 then (chattellaw01_NatLimbs.j4 k3 t264 t267 (t296 != 0) t270 t273) else (chattellaw01_NatLimbs.j4 k3 t264 t267 false t270 t273)) else (chattellaw01_NatLimbs.j4 k3 t264 t267 true t270 t273)) else (none)) else (none)) else (none)))) else (if (x7_7.length : Int) = 0 then (chattellaw01_NatLimbs.j4 k3 t264 t267 (t296 != 0) t270 t273) else (chattellaw01_NatLimbs.j4 k3 t264 t267 false t270 t273)))) else (some false)) = some r := H
                  have A57 := Aside0.mk A570
                  clear A570
                  by_cases c58 : t295 = true
                  · subst c58
                    have H1 : ((nat_Nat_Bits.f k3 t270).bind fun t296 => (if (x7_7.length : Int) > 0 then (if t296 ≤ (wrap64 (64 * (wrap64 ((x7_7.length : Int) - 1)))) then (chattellaw01_NatLimbs.j4 k3 t264 t267 true t270 t273) else (if t296 > (wrap64 (64 * (x7_7.length : Int))) then (chattellaw01_NatLimbs.j4 k3 t264 t267 true t270 t273) else (if 0 ≤ (wrap64 ((x7_7.length : Int) - 1)) then (if (wrap64 ((x7_7.length : Int) - 1)) < (x7_7.length : Int) then (if 0 ≤ (IntKind.u64.wrap (Int.tmod (wrap64 (t296 - 1)) 64)) then (if (shr .u64 (rd x7_7 (wrap64 ((x7_7.length : Int) - 1))) (IntKind.u64.wrap (Int.tmod (wrap64 (t296 - 1)) 64))) = 1 then (if (x7_7.length : Int) = 0 then (chattellaw01_NatLimbs.j4 k3 t264 t267 (t296 != 0) t270 t273) else (chattellaw01_NatLimbs.j4 k3 t264 t267 false t270 t273)) else (chattellaw01_NatLimbs.j4 k3 t264 t267 true t270 t273)) else (none)) else (none)) else (none)))) else (if (x7_7.length : Int) = 0 then (chattellaw01_NatLimbs.j4 k3 t264 t267 (t296 != 0) t270 t273) else (chattellaw01_NatLimbs.j4 k3 t264 t267 false t270 t273)))) = some r := by rw [if_pos rfl] at H; exact H
                    clear H
                    have H := H1
                    clear H1
                    replace H := Option.bind_eq_some_iff.mp H
                    obtain ⟨t296, A590, H⟩ := H
                    replace H : (if (x7_7.length : Int) > 0 then (if t296 ≤ (wrap64 (64 * (wrap64 ((x7_7.length : Int) - 1)))) then (chattellaw01_NatLimbs.j4 k3 t264 t267 true t270 t273) else (if t296 > (wrap64 (64 * (x7_7.length : Int))) then (chattellaw01_NatLimbs.j4 k3 t264 t267 true t270 t273) else (if 0 ≤ (wrap64 ((x7_7.length : Int) - 1)) then (if (wrap64 ((x7_7.length : Int) - 1)) < (x7_7.length : Int) then (if 0 ≤ (IntKind.u64.wrap (Int.tmod (wrap64 (t296 - 1)) 64)) then (if (shr .u64 (rd x7_7 (wrap64 ((x7_7.length : Int) - 1))) (IntKind.u64.wrap (Int.tmod (wrap64 (t296 - 1)) 64))) = 1 then (if (x7_7.length : Int) = 0 then (chattellaw01_NatLimbs.j4 k3 t264 t267 (t296 != 0) t270 t273) else (chattellaw01_NatLimbs.j4 k3 t264 t267 false t270 t273)) else (chattellaw01_NatLimbs.j4 k3 t264 t267 true t270 t273)) else (none)) else (none)) else (none)))) else (if (x7_7.length : Int) = 0 then (chattellaw01_NatLimbs.j4 k3 t264 t267 (t296 != 0) t270 t273) else (chattellaw01_NatLimbs.j4 k3 t264 t267 false t270 t273))) = some r := H
                    have A59 := Aside0.mk A590
                    clear A590
                    have HC60 := Aside0.mk H
                    clear H
                    have hnb61 := NB276_277.out
                    have hnc61 := NB277_276.out
                    have hcz62_0 : wr.cell? ⟨gb276, 0, none⟩ = some (.slice Ao17 t270.length co17) := (blk_cell BK276.out 0).trans rfl
                    have hfz62_0 := blk_frozen BK276.out 0
                    go_upto_region 17 with (first | ((with_reducible refine gate_callee (f := 16) rfl ?_); refine goesL_ (some 65) rfl rfl Try.func16 (by kernel_rfl) rfl #[.agg #[.slice Ao17 t270.length co17]] rfl (by (try simp only [List.map_toArray, List.map_cons, List.map_nil]); first | done | rfl | (simp only [List.length_drop, List.length_take]; rfl)) ?_; (with_reducible refine (nat_Nat_Limbs.calls _ _ t270 t292 _ ?side1 ?side2 A56.out).mono ?_); (case side1 => exact cv HO_277000.out); (case side2 => exact (Kd.V_reads' HO_277000.out).2.1); rintro e w63 ⟨v293, rfl, ho0, hb⟩; refine ⟨_, rfl, ?_⟩; have n0_ := Aside0.mk (Kd.V_elder' (by (with_reducible repeat (first | apply Kd.V_alloc | apply Kd.V_drewN | apply Kd.V_drew)); exact HO_0.out) (Kd.R_base ho0) hb); have n1_ := Aside0.mk (Kd.V_elder' (by (with_reducible repeat (first | apply Kd.V_alloc | apply Kd.V_drewN | apply Kd.V_drew)); exact HO_1.out) (Kd.R_base ho0) hb); have n2_ := Aside0.mk (Kd.R_elder' (by (with_reducible repeat (first | apply Kd.R_alloc | apply Kd.R_drewN | apply Kd.R_drew)); exact HO_7.out) (Kd.R_base ho0) hb); have n3_ := Aside0.mk (Kd.R_elder' (by (with_reducible repeat (first | apply Kd.R_alloc | apply Kd.R_drewN | apply Kd.R_drew)); exact HO_8.out) (Kd.R_base ho0) hb); have n4_ := Aside0.mk (Kd.V_elder' (by (with_reducible repeat (first | apply Kd.V_alloc | apply Kd.V_drewN | apply Kd.V_drew)); exact HO_277000.out) (Kd.R_base ho0) hb); have n5_ := Aside0.mk (Kd.V_elder' (by (with_reducible repeat (first | apply Kd.V_alloc | apply Kd.V_drewN | apply Kd.V_drew)); exact HO_278000.out) (Kd.R_base ho0) hb); have n6_ := Aside0.mk (Kd.R_lower (Kd.R_new' (Kd.R_new' ho0 (Kd.R_lt (by (with_reducible repeat (first | apply Kd.R_alloc | apply Kd.R_drewN | apply Kd.R_drew)); exact HO_7.out))) (Kd.R_lt (by (with_reducible repeat (first | apply Kd.R_alloc | apply Kd.R_drewN | apply Kd.R_drew)); exact HO_8.out))) (bz HB.out)); have n7_ := Aside0.mk (bb BK276.out hb); have n8_ := Aside0.mk (bb BK277.out hb); have n9_ := Aside0.mk (bs HB.out hb); clear HO_0; clear HO_1; clear HO_7; clear HO_8; clear HO_277000; clear HO_278000; clear BK276; clear BK277; clear HB; have HO_0 := n0_; have HO_1 := n1_; have HO_7 := n2_; have HO_8 := n3_; have HO_277000 := n4_; have HO_278000 := n5_; have HO294 := n6_; have BK276 := n7_; have BK277 := n8_; have HB := n9_; clear n0_ n1_ n2_ n3_ n4_ n5_ n6_ n7_ n8_ n9_; (try clear hb); (try clear hb2); (try clear hk); (try clear hi); (try clear ho0); obtain ⟨Ao64, co64, eo64⟩ := Kd.R_slice HO294.out; subst eo64; obtain ⟨Ao65, co65, eo65⟩ := Kd.R_slice HO_7.out; subst eo65) | ((with_reducible refine gate_callee (f := 17) rfl ?_); refine goesL_ (some 67) rfl rfl Try.func17 (by kernel_rfl) rfl #[.slice Ao64 t292.length co64, .slice Ao65 x7_7.length co65] rfl (by (try simp only [List.map_toArray, List.map_cons, List.map_nil]); first | done | rfl | (simp only [List.length_drop, List.length_take]; rfl)) ?_; (with_reducible refine (slices_Equal_uint64_uint64.calls k3 _ _ t292 _ _ x7_7 true _ ?side1 ?side2 ?side3 ?side4 A57.out).mono ?_); (case side1 => exact cr HO294.out); (case side2 => exact (Kd.R_reads' HO294.out).2.1); (case side3 => exact cr HO_7.out); (case side4 => exact (Kd.R_reads' HO_7.out).2.1); rintro e w' ⟨rfl, ⟨nd, rfl⟩⟩; refine ⟨_, rfl, ?_⟩; have hcz66_0 : w63.cell? ⟨gb276, 0, none⟩ = some (.slice Ao17 t270.length co17) := (blk_cell BK276.out 0).trans rfl; have hfz66_0 := blk_frozen BK276.out 0) | ((with_reducible refine gate_callee (f := 19) rfl ?_); refine goesL_ (some 70) rfl rfl Try.func19 (by kernel_rfl) rfl #[.agg #[.slice Ao17 t270.length co17]] rfl (by (try simp only [List.map_toArray, List.map_cons, List.map_nil]); first | done | rfl | (simp only [List.length_drop, List.length_take]; rfl)) ?_; (with_reducible refine (nat_Nat_Bits.calls k3 _ _ t270 t296 _ ?side1 ?side2 A59.out).mono ?_); (case side1 => exact cv HO_277000.out); (case side2 => exact (Kd.V_reads' HO_277000.out).2.1); rintro e w67 ⟨rfl, hb⟩; refine ⟨_, rfl, ?_⟩; replace HO_0 := Aside0.mk (vb HO_0.out hb); replace HO_1 := Aside0.mk (vb HO_1.out hb); replace HO_7 := Aside0.mk (rb HO_7.out hb); replace HO_8 := Aside0.mk (rb HO_8.out hb); replace HO_277000 := Aside0.mk (vb HO_277000.out hb); replace HO_278000 := Aside0.mk (vb HO_278000.out hb); replace HO294 := Aside0.mk (rb HO294.out hb); replace BK276 := Aside0.mk (bb BK276.out hb); replace BK277 := Aside0.mk (bb BK277.out hb); replace HB := Aside0.mk (bs HB.out hb); (try clear hb); (try clear hb2); (try clear hk); (try clear hi)))
                    (try simp only [Act.put, List.setIfInBounds_toArray, List.set_cons_zero, List.set_cons_succ])
                    go_cut [111] (fun v111 wc => ∃ (kq : Nat) (x111_59 : Bool), v111 = .bool x111_59 ∧ Aside0 (chattellaw01_NatLimbs.j4 kq t264 t267 x111_59 t270 t273 = some r) ∧ Aside0 (kq ≤ k3) ∧ Aside0 (Kd.V (Kd.int .u64) 27 wc w.heap.size (fun k_ => k_ ≠ gb276 ∧ k_ ≠ gb277) (.slice Ao11 t264.length co11) t264) ∧ Aside0 (Kd.V (Kd.int .u64) 27 wc w.heap.size (fun k_ => k_ ≠ gb276 ∧ k_ ≠ gb277) (.slice Ao13 t267.length co13) t267) ∧ Aside0 (Kd.V (Kd.int .u64) 27 wc w.heap.size (fun k_ => k_ ≠ gb276 ∧ k_ ≠ gb277) (.slice Ao17 t270.length co17) t270) ∧ Aside0 (Kd.V (Kd.int .u64) 27 wc w.heap.size (fun k_ => k_ ≠ gb276 ∧ k_ ≠ gb277) (.slice Ao20 t273.length co20) t273) ∧ Aside0 (wc.heap[gb276]? = some (.cells #[(.slice Ao17 t270.length co17)] 25 (0, 0))) ∧ Aside0 (wc.heap[gb277]? = some (.cells #[(.slice Ao20 t273.length co20)] 25 (0, 0))) ∧ Aside0 (Below w.heap.size w wc))
                    case first =>
                      have H := HC60.out
                      clear HC60
                      by_cases c68 : (x7_7.length : Int) > 0
                      · rw [if_pos c68] at H
                        have c68b0 : decide (0 < (x7_7.length : Int)) = true := decide_eq_true c68
                        have c68b0x := c68b0
                        (try simp only [hl8_3] at c68b0x)
                        have c68b1 : decide (0 < x7_7.length) = true := decide_eq_true (by omega)
                        have c68b1x := c68b1
                        (try simp only [hl8_3] at c68b1x)
                        clear c68
                        (first | rw [c68b0] | (simp only [i64_w, i32_w]; rw [c68b0]) | skip)
                        by_cases c69 : t296 ≤ (wrap64 (64 * (wrap64 ((x7_7.length : Int) - 1))))
                        · rw [if_pos c69] at H
                          have c69b0 : decide (t296 ≤ (wrap64 (64 * (wrap64 ((x7_7.length : Int) - 1))))) = true := decide_eq_true c69
                          have c69b0x := c69b0
                          (try simp only [hl8_3] at c69b0x)
                          clear c69
                          have H' := Aside0.mk H
                          clear H
                          go_wp2
                          (refine Met.intro ?_; go_step; (repeat apply Exists.intro); refine ⟨?rel, ?frame⟩)
                          case frame => first | rfl | (rw [c69b0]; first | done | rfl) | (rw [c68b1]; first | done | rfl) | (rw [c68b0]; first | done | rfl) | (rw [c50b0]; first | done | rfl) | (simp only [c50b0, c68b0, c68b1, c69b0]; first | done | rfl)
                          case rel => exact ⟨_, (true), (by first | rfl | (simp; done) | (simp [*]; done)), H', ⟨by have := HJ7.out; have := HJ33.out; have := HK3.out; first | omega | exact Nat.le_refl _⟩, ⟨by (try simp only [hl8_3]); (with_reducible repeat (first | apply Kd.V_alloc | apply Kd.V_drewN | apply Kd.V_drew)); exact Kd.V_mono HO_0.out (fun _ hk => ⟨hk.1.2.2.1, hk.1.2.2.2⟩)⟩, ⟨by (try simp only [hl8_3]); (with_reducible repeat (first | apply Kd.V_alloc | apply Kd.V_drewN | apply Kd.V_drew)); exact Kd.V_mono HO_1.out (fun _ hk => ⟨hk.1.2.2.1, hk.1.2.2.2⟩)⟩, ⟨by (try simp only [hl8_3]); (with_reducible repeat (first | apply Kd.V_alloc | apply Kd.V_drewN | apply Kd.V_drew)); exact Kd.V_mono HO_277000.out (fun _ hk => ⟨hk.1.2.2.1, hk.1.2.2.2⟩)⟩, ⟨by (try simp only [hl8_3]); (with_reducible repeat (first | apply Kd.V_alloc | apply Kd.V_drewN | apply Kd.V_drew)); exact Kd.V_mono HO_278000.out (fun _ hk => ⟨hk.1.2.2.1, hk.1.2.2.2⟩)⟩, ⟨by (try simp only [hl8_3]); (with_reducible repeat (first | refine blk_drewN ?_ _ | refine blk_drew ?_ | refine blk_alloc ?_ _)); exact BK276.out⟩, ⟨by (try simp only [hl8_3]); (with_reducible repeat (first | refine blk_drewN ?_ _ | refine blk_drew ?_ | refine blk_alloc ?_ _)); exact BK277.out⟩, ⟨by repeat (first | (with_reducible first | exact HB.out | apply below_alloc | apply pw_below_drewN | apply below_drew1 | refine below_set ?_ GE276.out | refine below_set ?_ GE277.out) | exact HB.out)⟩⟩
                        · rw [if_neg c69] at H
                          have c69b0 : decide (t296 ≤ (wrap64 (64 * (wrap64 ((x7_7.length : Int) - 1))))) = false := decide_eq_false c69
                          have c69b0x := c69b0
                          (try simp only [hl8_3] at c69b0x)
                          clear c69
                          by_cases c70 : t296 > (wrap64 (64 * (x7_7.length : Int)))
                          · rw [if_pos c70] at H
                            have c70b0 : decide ((wrap64 (64 * (x7_7.length : Int))) < t296) = true := decide_eq_true c70
                            have c70b0x := c70b0
                            (try simp only [hl8_3] at c70b0x)
                            clear c70
                            have H' := Aside0.mk H
                            clear H
                            go_wp2
                            (refine Met.intro ?_; go_step; (repeat apply Exists.intro); refine ⟨?rel, ?frame⟩)
                            case frame => first | rfl | (rw [c70b0]; first | done | rfl) | (rw [c69b0]; first | done | rfl) | (rw [c68b1]; first | done | rfl) | (rw [c68b0]; first | done | rfl) | (simp only [c50b0, c68b0, c68b1, c69b0, c70b0]; first | done | rfl)
                            case rel => exact ⟨_, (true), (by first | rfl | (simp; done) | (simp [*]; done)), H', ⟨by have := HJ7.out; have := HJ33.out; have := HK3.out; first | omega | exact Nat.le_refl _⟩, ⟨by (try simp only [hl8_3]); (with_reducible repeat (first | apply Kd.V_alloc | apply Kd.V_drewN | apply Kd.V_drew)); exact Kd.V_mono HO_0.out (fun _ hk => ⟨hk.1.2.2.1, hk.1.2.2.2⟩)⟩, ⟨by (try simp only [hl8_3]); (with_reducible repeat (first | apply Kd.V_alloc | apply Kd.V_drewN | apply Kd.V_drew)); exact Kd.V_mono HO_1.out (fun _ hk => ⟨hk.1.2.2.1, hk.1.2.2.2⟩)⟩, ⟨by (try simp only [hl8_3]); (with_reducible repeat (first | apply Kd.V_alloc | apply Kd.V_drewN | apply Kd.V_drew)); exact Kd.V_mono HO_277000.out (fun _ hk => ⟨hk.1.2.2.1, hk.1.2.2.2⟩)⟩, ⟨by (try simp only [hl8_3]); (with_reducible repeat (first | apply Kd.V_alloc | apply Kd.V_drewN | apply Kd.V_drew)); exact Kd.V_mono HO_278000.out (fun _ hk => ⟨hk.1.2.2.1, hk.1.2.2.2⟩)⟩, ⟨by (try simp only [hl8_3]); (with_reducible repeat (first | refine blk_drewN ?_ _ | refine blk_drew ?_ | refine blk_alloc ?_ _)); exact BK276.out⟩, ⟨by (try simp only [hl8_3]); (with_reducible repeat (first | refine blk_drewN ?_ _ | refine blk_drew ?_ | refine blk_alloc ?_ _)); exact BK277.out⟩, ⟨by repeat (first | (with_reducible first | exact HB.out | apply below_alloc | apply pw_below_drewN | apply below_drew1 | refine below_set ?_ GE276.out | refine below_set ?_ GE277.out) | exact HB.out)⟩⟩
                          · rw [if_neg c70] at H
                            have c70b0 : decide ((wrap64 (64 * (x7_7.length : Int))) < t296) = false := decide_eq_false c70
                            have c70b0x := c70b0
                            (try simp only [hl8_3] at c70b0x)
                            clear c70
                            obtain ⟨ji71, hji71⟩ : ∃ j_ : Int, (wrap64 ((x7_7.length : Int) - 1)) = j_ := ⟨_, rfl⟩
                            replace H : (if 0 ≤ (ji71) then (if (ji71) < (x7_7.length : Int) then (if 0 ≤ (IntKind.u64.wrap (Int.tmod (wrap64 (t296 - 1)) 64)) then (if (shr .u64 (rd x7_7 (ji71)) (IntKind.u64.wrap (Int.tmod (wrap64 (t296 - 1)) 64))) = 1 then (if (x7_7.length : Int) = 0 then (chattellaw01_NatLimbs.j4 k3 t264 t267 (t296 != 0) t270 t273) else (chattellaw01_NatLimbs.j4 k3 t264 t267 false t270 t273)) else (chattellaw01_NatLimbs.j4 k3 t264 t267 true t270 t273)) else (none)) else (none)) else (none)) = some r := by first | (rw [hji71] at H; exact H) | (simp only [hji71] at H ⊢; exact H)
                            (try rw [hji71] at c69b0)
                            have hji71w : (IntKind.i64.wrap ((x7_7.length : Int) - 1)) = ji71 := (i64_w _).trans hji71
                            by_cases c72 : 0 ≤ (ji71)
                            rotate_left
                            · rw [if_neg c72] at H
                              exact absurd H (by simp)
                            rw [if_pos c72] at H
                            have c72b0 : decide (0 ≤ (ji71)) = true := decide_eq_true c72
                            clear c72
                            by_cases c73 : (ji71) < (x7_7.length : Int)
                            rotate_left
                            · rw [if_neg c73] at H
                              exact absurd H (by simp)
                            rw [if_pos c73] at H
                            have c73b0 : decide ((ji71) < (x7_7.length : Int)) = true := decide_eq_true c73
                            have c73b0x := c73b0
                            (try simp only [hl8_3] at c73b0x)
                            clear c73
                            obtain ⟨ji74, hji74⟩ : ∃ j_ : Int, (IntKind.u64.wrap (Int.tmod (wrap64 (t296 - 1)) 64)) = j_ := ⟨_, rfl⟩
                            replace H : (if 0 ≤ (ji74) then (if (shr .u64 (rd x7_7 (ji71)) (ji74)) = 1 then (if (x7_7.length : Int) = 0 then (chattellaw01_NatLimbs.j4 k3 t264 t267 (t296 != 0) t270 t273) else (chattellaw01_NatLimbs.j4 k3 t264 t267 false t270 t273)) else (chattellaw01_NatLimbs.j4 k3 t264 t267 true t270 t273)) else (none)) = some r := by first | (rw [hji74] at H; exact H) | (simp only [hji74] at H ⊢; exact H)
                            by_cases c75 : 0 ≤ (ji74)
                            rotate_left
                            · rw [if_neg c75] at H
                              exact absurd H (by simp)
                            rw [if_pos c75] at H
                            have c75b0 := eq_true c75
                            have c75b1 : decide (0 ≤ (ji74)) = true := decide_eq_true c75
                            clear c75
                            obtain ⟨ji76, hji76⟩ : ∃ j_ : Int, (shr .u64 (rd x7_7 (ji71)) (ji74)) = j_ := ⟨_, rfl⟩
                            replace H : (if (ji76) = 1 then (if (x7_7.length : Int) = 0 then (chattellaw01_NatLimbs.j4 k3 t264 t267 (t296 != 0) t270 t273) else (chattellaw01_NatLimbs.j4 k3 t264 t267 false t270 t273)) else (chattellaw01_NatLimbs.j4 k3 t264 t267 true t270 t273)) = some r := by first | (rw [hji76] at H; exact H) | (simp only [hji76] at H ⊢; exact H)
                            have hji76_ : ((rd x7_7 (ji71)) / 2 ^ min (ji74).toNat 64) = ji76 := hji76
                            have hji76z : (ji74) ≤ 64 → ((rd x7_7 (ji71)) / 2 ^ (ji74).toNat) = ji76 := shr_small hji76
                            by_cases c77 : (ji76) = 1
                            · rw [if_pos c77] at H
                              have c77b0 : ((ji76) == 1) = true := beq_iff_eq.mpr c77
                              have c77b1 : ((ji76) != 1) = false := bne_eq_false_iff_eq.mpr c77
                              clear c77
                              by_cases c78 : (x7_7.length : Int) = 0
                              · rw [if_pos c78] at H
                                have c78b0 : ((x7_7.length : Int) == 0) = true := beq_iff_eq.mpr c78
                                have c78b0x := c78b0
                                (try simp only [hl8_3] at c78b0x)
                                have c78b1 : ((x7_7.length : Int) != 0) = false := bne_eq_false_iff_eq.mpr c78
                                have c78b1x := c78b1
                                (try simp only [hl8_3] at c78b1x)
                                clear c78
                                have H' := Aside0.mk H
                                clear H
                                have p297 : 0 ≤ ((ji71) : Int) := of_decide_eq_true (by first | (with_reducible assumption) | assumption)
                                have q297 : (ji71) < (x7_7.length : Int) := of_decide_eq_true (by first | (with_reducible assumption) | assumption)
                                obtain ⟨ad297, e297, hx297_0⟩ := Kd.at_int (Kd.R_reads' HO_7.out).2.2 (ji71) p297 q297
                                cases e297
                                replace p297 := eq_true p297
                                replace q297 := eq_true q297
                                go_wp2
                                (refine Met.intro ?_; go_step; (repeat apply Exists.intro); refine ⟨?rel, ?frame⟩)
                                case frame => first | rfl | (rw [c78b1]; first | done | rfl) | (rw [c78b0]; first | done | rfl) | (rw [c77b1]; first | done | rfl) | (rw [c77b0]; first | done | rfl) | (simp only [c50b0, c68b0, c68b1, c69b0, c70b0, c72b0, c73b0, c75b1, c77b0, c77b1, c78b0, c78b1]; first | done | rfl)
                                case rel => exact ⟨_, ((t296 != 0)), (by first | rfl | (simp; done) | (simp [*]; done)), H', ⟨by have := HJ7.out; have := HJ33.out; have := HK3.out; first | omega | exact Nat.le_refl _⟩, ⟨by (try simp only [hl8_3]); (with_reducible repeat (first | apply Kd.V_alloc | apply Kd.V_drewN | apply Kd.V_drew)); exact Kd.V_mono HO_0.out (fun _ hk => ⟨hk.1.2.2.1, hk.1.2.2.2⟩)⟩, ⟨by (try simp only [hl8_3]); (with_reducible repeat (first | apply Kd.V_alloc | apply Kd.V_drewN | apply Kd.V_drew)); exact Kd.V_mono HO_1.out (fun _ hk => ⟨hk.1.2.2.1, hk.1.2.2.2⟩)⟩, ⟨by (try simp only [hl8_3]); (with_reducible repeat (first | apply Kd.V_alloc | apply Kd.V_drewN | apply Kd.V_drew)); exact Kd.V_mono HO_277000.out (fun _ hk => ⟨hk.1.2.2.1, hk.1.2.2.2⟩)⟩, ⟨by (try simp only [hl8_3]); (with_reducible repeat (first | apply Kd.V_alloc | apply Kd.V_drewN | apply Kd.V_drew)); exact Kd.V_mono HO_278000.out (fun _ hk => ⟨hk.1.2.2.1, hk.1.2.2.2⟩)⟩, ⟨by (try simp only [hl8_3]); (with_reducible repeat (first | refine blk_drewN ?_ _ | refine blk_drew ?_ | refine blk_alloc ?_ _)); exact BK276.out⟩, ⟨by (try simp only [hl8_3]); (with_reducible repeat (first | refine blk_drewN ?_ _ | refine blk_drew ?_ | refine blk_alloc ?_ _)); exact BK277.out⟩, ⟨by repeat (first | (with_reducible first | exact HB.out | apply below_alloc | apply pw_below_drewN | apply below_drew1 | refine below_set ?_ GE276.out | refine below_set ?_ GE277.out) | exact HB.out)⟩⟩
                              · rw [if_neg c78] at H
                                have c78b0 : ((x7_7.length : Int) == 0) = false := beq_eq_false_iff_ne.mpr c78
                                have c78b0x := c78b0
                                (try simp only [hl8_3] at c78b0x)
                                have c78b1 : ((x7_7.length : Int) != 0) = true := bne_iff_ne.mpr c78
                                have c78b1x := c78b1
                                (try simp only [hl8_3] at c78b1x)
                                have c78b2 : ¬ (x7_7 = []) := fun h_ => c78 (by rw [h_]; rfl)
                                have H' := Aside0.mk H
                                clear H
                                have p297 : 0 ≤ ((ji71) : Int) := of_decide_eq_true (by first | (with_reducible assumption) | assumption)
                                have q297 : (ji71) < (x7_7.length : Int) := of_decide_eq_true (by first | (with_reducible assumption) | assumption)
                                obtain ⟨ad297, e297, hx297_0⟩ := Kd.at_int (Kd.R_reads' HO_7.out).2.2 (ji71) p297 q297
                                cases e297
                                replace p297 := eq_true p297
                                replace q297 := eq_true q297
                                go_wp2
                                (refine Met.intro ?_; go_step; (repeat apply Exists.intro); refine ⟨?rel, ?frame⟩)
                                case frame => first | rfl | (rw [c78b1]; first | done | rfl) | (rw [c78b0]; first | done | rfl) | (rw [c77b1]; first | done | rfl) | (rw [c77b0]; first | done | rfl) | (simp only [c50b0, c68b0, c68b1, c69b0, c70b0, c72b0, c73b0, c75b1, c77b0, c77b1, c78b0, c78b1]; first | done | rfl)
                                case rel => exact ⟨_, (false), (by first | rfl | (simp; done) | (simp [*]; done)), H', ⟨by have := HJ7.out; have := HJ33.out; have := HK3.out; first | omega | exact Nat.le_refl _⟩, ⟨by (try simp only [hl8_3]); (with_reducible repeat (first | apply Kd.V_alloc | apply Kd.V_drewN | apply Kd.V_drew)); exact Kd.V_mono HO_0.out (fun _ hk => ⟨hk.1.2.2.1, hk.1.2.2.2⟩)⟩, ⟨by (try simp only [hl8_3]); (with_reducible repeat (first | apply Kd.V_alloc | apply Kd.V_drewN | apply Kd.V_drew)); exact Kd.V_mono HO_1.out (fun _ hk => ⟨hk.1.2.2.1, hk.1.2.2.2⟩)⟩, ⟨by (try simp only [hl8_3]); (with_reducible repeat (first | apply Kd.V_alloc | apply Kd.V_drewN | apply Kd.V_drew)); exact Kd.V_mono HO_277000.out (fun _ hk => ⟨hk.1.2.2.1, hk.1.2.2.2⟩)⟩, ⟨by (try simp only [hl8_3]); (with_reducible repeat (first | apply Kd.V_alloc | apply Kd.V_drewN | apply Kd.V_drew)); exact Kd.V_mono HO_278000.out (fun _ hk => ⟨hk.1.2.2.1, hk.1.2.2.2⟩)⟩, ⟨by (try simp only [hl8_3]); (with_reducible repeat (first | refine blk_drewN ?_ _ | refine blk_drew ?_ | refine blk_alloc ?_ _)); exact BK276.out⟩, ⟨by (try simp only [hl8_3]); (with_reducible repeat (first | refine blk_drewN ?_ _ | refine blk_drew ?_ | refine blk_alloc ?_ _)); exact BK277.out⟩, ⟨by repeat (first | (with_reducible first | exact HB.out | apply below_alloc | apply pw_below_drewN | apply below_drew1 | refine below_set ?_ GE276.out | refine below_set ?_ GE277.out) | exact HB.out)⟩⟩
                            · rw [if_neg c77] at H
                              have c77b0 : ((ji76) == 1) = false := beq_eq_false_iff_ne.mpr c77
                              have c77b1 : ((ji76) != 1) = true := bne_iff_ne.mpr c77
                              have H' := Aside0.mk H
                              clear H
                              have p297 : 0 ≤ ((ji71) : Int) := of_decide_eq_true (by first | (with_reducible assumption) | assumption)
                              have q297 : (ji71) < (x7_7.length : Int) := of_decide_eq_true (by first | (with_reducible assumption) | assumption)
                              obtain ⟨ad297, e297, hx297_0⟩ := Kd.at_int (Kd.R_reads' HO_7.out).2.2 (ji71) p297 q297
                              cases e297
                              replace p297 := eq_true p297
                              replace q297 := eq_true q297
                              go_wp2
                              (refine Met.intro ?_; go_step; (repeat apply Exists.intro); refine ⟨?rel, ?frame⟩)
                              case frame => first | rfl | (rw [c77b1]; first | done | rfl) | (rw [c77b0]; first | done | rfl) | (rw [c75b1]; first | done | rfl) | (rw [c73b0]; first | done | rfl) | (simp only [c50b0, c68b0, c68b1, c69b0, c70b0, c72b0, c73b0, c75b1, c77b0, c77b1]; first | done | rfl)
                              case rel => exact ⟨_, (true), (by first | rfl | (simp; done) | (simp [*]; done)), H', ⟨by have := HJ7.out; have := HJ33.out; have := HK3.out; first | omega | exact Nat.le_refl _⟩, ⟨by (try simp only [hl8_3]); (with_reducible repeat (first | apply Kd.V_alloc | apply Kd.V_drewN | apply Kd.V_drew)); exact Kd.V_mono HO_0.out (fun _ hk => ⟨hk.1.2.2.1, hk.1.2.2.2⟩)⟩, ⟨by (try simp only [hl8_3]); (with_reducible repeat (first | apply Kd.V_alloc | apply Kd.V_drewN | apply Kd.V_drew)); exact Kd.V_mono HO_1.out (fun _ hk => ⟨hk.1.2.2.1, hk.1.2.2.2⟩)⟩, ⟨by (try simp only [hl8_3]); (with_reducible repeat (first | apply Kd.V_alloc | apply Kd.V_drewN | apply Kd.V_drew)); exact Kd.V_mono HO_277000.out (fun _ hk => ⟨hk.1.2.2.1, hk.1.2.2.2⟩)⟩, ⟨by (try simp only [hl8_3]); (with_reducible repeat (first | apply Kd.V_alloc | apply Kd.V_drewN | apply Kd.V_drew)); exact Kd.V_mono HO_278000.out (fun _ hk => ⟨hk.1.2.2.1, hk.1.2.2.2⟩)⟩, ⟨by (try simp only [hl8_3]); (with_reducible repeat (first | refine blk_drewN ?_ _ | refine blk_drew ?_ | refine blk_alloc ?_ _)); exact BK276.out⟩, ⟨by (try simp only [hl8_3]); (with_reducible repeat (first | refine blk_drewN ?_ _ | refine blk_drew ?_ | refine blk_alloc ?_ _)); exact BK277.out⟩, ⟨by repeat (first | (with_reducible first | exact HB.out | apply below_alloc | apply pw_below_drewN | apply below_drew1 | refine below_set ?_ GE276.out | refine below_set ?_ GE277.out) | exact HB.out)⟩⟩
                      · rw [if_neg c68] at H
                        have c68b0 : decide (0 < (x7_7.length : Int)) = false := decide_eq_false c68
                        have c68b0x := c68b0
                        (try simp only [hl8_3] at c68b0x)
                        have c68b1 : decide (0 < x7_7.length) = false := decide_eq_false (by omega)
                        have c68b1x := c68b1
                        (try simp only [hl8_3] at c68b1x)
                        clear c68
                        (first | rw [c68b0] | (simp only [i64_w, i32_w]; rw [c68b0]) | skip)
                        by_cases c79 : (x7_7.length : Int) = 0
                        · rw [if_pos c79] at H
                          have c79b0 : ((x7_7.length : Int) == 0) = true := beq_iff_eq.mpr c79
                          have c79b0x := c79b0
                          (try simp only [hl8_3] at c79b0x)
                          have c79b1 : ((x7_7.length : Int) != 0) = false := bne_eq_false_iff_eq.mpr c79
                          have c79b1x := c79b1
                          (try simp only [hl8_3] at c79b1x)
                          clear c79
                          have H' := Aside0.mk H
                          clear H
                          go_wp2
                          (refine Met.intro ?_; go_step; (repeat apply Exists.intro); refine ⟨?rel, ?frame⟩)
                          case frame => first | rfl | (rw [c79b1]; first | done | rfl) | (rw [c79b0]; first | done | rfl) | (rw [c68b1]; first | done | rfl) | (rw [c68b0]; first | done | rfl) | (simp only [c50b0, c68b0, c68b1, c79b0, c79b1]; first | done | rfl)
                          case rel => exact ⟨_, ((t296 != 0)), (by first | rfl | (simp; done) | (simp [*]; done)), H', ⟨by have := HJ7.out; have := HJ33.out; have := HK3.out; first | omega | exact Nat.le_refl _⟩, ⟨by (try simp only [hl8_3]); (with_reducible repeat (first | apply Kd.V_alloc | apply Kd.V_drewN | apply Kd.V_drew)); exact Kd.V_mono HO_0.out (fun _ hk => ⟨hk.1.2.2.1, hk.1.2.2.2⟩)⟩, ⟨by (try simp only [hl8_3]); (with_reducible repeat (first | apply Kd.V_alloc | apply Kd.V_drewN | apply Kd.V_drew)); exact Kd.V_mono HO_1.out (fun _ hk => ⟨hk.1.2.2.1, hk.1.2.2.2⟩)⟩, ⟨by (try simp only [hl8_3]); (with_reducible repeat (first | apply Kd.V_alloc | apply Kd.V_drewN | apply Kd.V_drew)); exact Kd.V_mono HO_277000.out (fun _ hk => ⟨hk.1.2.2.1, hk.1.2.2.2⟩)⟩, ⟨by (try simp only [hl8_3]); (with_reducible repeat (first | apply Kd.V_alloc | apply Kd.V_drewN | apply Kd.V_drew)); exact Kd.V_mono HO_278000.out (fun _ hk => ⟨hk.1.2.2.1, hk.1.2.2.2⟩)⟩, ⟨by (try simp only [hl8_3]); (with_reducible repeat (first | refine blk_drewN ?_ _ | refine blk_drew ?_ | refine blk_alloc ?_ _)); exact BK276.out⟩, ⟨by (try simp only [hl8_3]); (with_reducible repeat (first | refine blk_drewN ?_ _ | refine blk_drew ?_ | refine blk_alloc ?_ _)); exact BK277.out⟩, ⟨by repeat (first | (with_reducible first | exact HB.out | apply below_alloc | apply pw_below_drewN | apply below_drew1 | refine below_set ?_ GE276.out | refine below_set ?_ GE277.out) | exact HB.out)⟩⟩
                        · rw [if_neg c79] at H
                          have c79b0 : ((x7_7.length : Int) == 0) = false := beq_eq_false_iff_ne.mpr c79
                          have c79b0x := c79b0
                          (try simp only [hl8_3] at c79b0x)
                          have c79b1 : ((x7_7.length : Int) != 0) = true := bne_iff_ne.mpr c79
                          have c79b1x := c79b1
                          (try simp only [hl8_3] at c79b1x)
                          have c79b2 : ¬ (x7_7 = []) := fun h_ => c79 (by rw [h_]; rfl)
                          have H' := Aside0.mk H
                          clear H
                          go_wp2
                          (refine Met.intro ?_; go_step; (repeat apply Exists.intro); refine ⟨?rel, ?frame⟩)
                          case frame => first | rfl | (rw [c79b1]; first | done | rfl) | (rw [c79b0]; first | done | rfl) | (rw [c68b1]; first | done | rfl) | (rw [c68b0]; first | done | rfl) | (simp only [c50b0, c68b0, c68b1, c79b0, c79b1]; first | done | rfl)
                          case rel => exact ⟨_, (false), (by first | rfl | (simp; done) | (simp [*]; done)), H', ⟨by have := HJ7.out; have := HJ33.out; have := HK3.out; first | omega | exact Nat.le_refl _⟩, ⟨by (try simp only [hl8_3]); (with_reducible repeat (first | apply Kd.V_alloc | apply Kd.V_drewN | apply Kd.V_drew)); exact Kd.V_mono HO_0.out (fun _ hk => ⟨hk.1.2.2.1, hk.1.2.2.2⟩)⟩, ⟨by (try simp only [hl8_3]); (with_reducible repeat (first | apply Kd.V_alloc | apply Kd.V_drewN | apply Kd.V_drew)); exact Kd.V_mono HO_1.out (fun _ hk => ⟨hk.1.2.2.1, hk.1.2.2.2⟩)⟩, ⟨by (try simp only [hl8_3]); (with_reducible repeat (first | apply Kd.V_alloc | apply Kd.V_drewN | apply Kd.V_drew)); exact Kd.V_mono HO_277000.out (fun _ hk => ⟨hk.1.2.2.1, hk.1.2.2.2⟩)⟩, ⟨by (try simp only [hl8_3]); (with_reducible repeat (first | apply Kd.V_alloc | apply Kd.V_drewN | apply Kd.V_drew)); exact Kd.V_mono HO_278000.out (fun _ hk => ⟨hk.1.2.2.1, hk.1.2.2.2⟩)⟩, ⟨by (try simp only [hl8_3]); (with_reducible repeat (first | refine blk_drewN ?_ _ | refine blk_drew ?_ | refine blk_alloc ?_ _)); exact BK276.out⟩, ⟨by (try simp only [hl8_3]); (with_reducible repeat (first | refine blk_drewN ?_ _ | refine blk_drew ?_ | refine blk_alloc ?_ _)); exact BK277.out⟩, ⟨by repeat (first | (with_reducible first | exact HB.out | apply below_alloc | apply pw_below_drewN | apply below_drew1 | refine below_set ?_ GE276.out | refine below_set ?_ GE277.out) | exact HB.out)⟩⟩
                    case rest =>
                      clear HC60
                      try clear c1
                      try clear c2
                      try clear p2
                      try clear q2
                      try clear hx2
                      try clear c3
                      try clear q3
                      try clear c4
                      try clear c5
                      try clear p5
                      try clear q5
                      try clear hx5
                      try clear hf5
                      try clear c6
                      try clear p6
                      try clear c7
                      try clear c13
                      try clear c14
                      try clear c15
                      try clear c16
                      try clear c17
                      try clear c18
                      try clear c19
                      try clear c23
                      try clear c23b0
                      try clear c23b1
                      try clear c25
                      try clear c25b0
                      try clear c26
                      try clear c26b0
                      try clear c27
                      try clear c27b0
                      try clear c27b1
                      try clear c28
                      try clear c28b0
                      try clear c28b1
                      try clear p28
                      try clear q28
                      try clear hx28
                      try clear p29
                      try clear q29
                      try clear hx29
                      try clear q30
                      try clear c35
                      try clear c39
                      try clear c43
                      try clear c48
                      try clear c50
                      try clear c50b0
                      try clear c51
                      try clear c51b0
                      try clear c52
                      try clear c52b0
                      try clear p53
                      try clear q53
                      try clear hx53
                      try clear hf53
                      try clear c58
                      try clear c61
                      try clear p64
                      try clear c68
                      try clear c68b0
                      try clear c68b1
                      try clear c69
                      try clear c69b0
                      try clear c70
                      try clear c70b0
                      try clear c72
                      try clear c72b0
                      try clear c73
                      try clear c73b0
                      try clear c75
                      try clear c75b0
                      try clear c75b1
                      try clear c77
                      try clear c77b0
                      try clear c77b1
                      try clear c78
                      try clear c78b0
                      try clear c78b1
                      try clear c78b2
                      try clear c79
                      try clear c79b0
                      try clear c79b1
                      try clear c79b2
                      try clear hcz19_0
                      try clear hcz21_0
                      try clear hcz36_0
                      try clear hcz44_0
                      try clear hcz62_0
                      try clear hcz66_0
                      try clear hfz19_0
                      try clear hfz21_0
                      try clear hfz36_0
                      try clear hfz44_0
                      try clear hfz62_0
                      try clear hfz66_0
                      try clear hx281_0
                      try clear hx290_0
                      try clear hx297_0
                      try clear hx53_0
                      try clear p2
                      try clear p28
                      try clear p281
                      try clear p290
                      try clear p297
                      try clear p53
                      try clear p6
                      try clear q2
                      try clear q28
                      try clear q281
                      try clear q290
                      try clear q297
                      try clear q3
                      try clear q30
                      try clear q53
                      obtain ⟨kq, x111_59, rfl, HA, HJ59, HO_0, HO_1, HO_277000, HO_278000, BK276, BK277, HB⟩ := hcut
                      cases kq with
                      | zero => exact absurd HA.out (by simp [chattellaw01_NatLimbs.j4])
                      | succ kj59 =>
                        have H := HA.out
                        clear HA
                        simp only [chattellaw01_NatLimbs.j4] at H
                        by_cases c80 : x111_59 = true
                        · subst c80
                          have H1 : (some false) = some r := by rw [if_pos rfl] at H; exact H
                          clear H
                          have H := H1
                          clear H1
                          exact absurd (Option.some.inj H) (by rw [ht_]; decide)
                        · replace c80 := Bool.eq_false_iff.mpr c80
                          subst c80
                          have H1 : ((chattellaw01_wakes.f kj59).bind fun t298 => (if t298 = true then ((nat_Nat_Cmp.f kj59 t270 t273).bind fun t299 => ((chattelref01_Of.f kj59 t264).bind fun t300 => ((chattelref01_Of.f kj59 t267).bind fun t303 => ((chattelref01_Cmp.f kj59 t300 t303).bind fun t306 => (if t299 = t306 then ((nat_Nat_Cmp.f kj59 t270 t273).bind fun t307 => ((nat_Nat_Cmp.f kj59 t273 t270).bind fun t308 => (if t307 = (wrap64 (-t308)) then ((nat_Nat_Cmp.f kj59 t270 t270).bind fun t309 => (some (t309 == 0))) else (some false)))) else (some false)))))) else (some false))) = some r := by rw [if_neg (show ¬ (false = true) by decide)] at H; exact H
                          clear H
                          have H := H1
                          clear H1
                          replace H := Option.bind_eq_some_iff.mp H
                          obtain ⟨t298, A810, H⟩ := H
                          replace H : (if t298 = true then ((nat_Nat_Cmp.f kj59 t270 t273).bind fun t299 => ((chattelref01_Of.f kj59 t264).bind fun t300 => ((chattelref01_Of.f kj59 t267).bind fun t303 => ((chattelref01_Cmp.f kj59 t300 t303).bind fun t306 => (if t299 = t306 then ((nat_Nat_Cmp.f kj59 t270 t273).bind fun t307 => ((nat_Nat_Cmp.f kj59 t273 t270).bind fun t308 => (if t307 = (wrap64 (-t308)) then ((nat_Nat_Cmp.f kj59 t270 t270).bind fun t309 => (some (t309 == 0))) else (some false)))) else (some false)))))) else (some false)) = some r := H
                          have A81 := Aside0.mk A810
                          clear A810
                          by_cases c82 : t298 = true
                          · subst c82
                            have H1 : ((nat_Nat_Cmp.f kj59 t270 t273).bind fun t299 => ((chattelref01_Of.f kj59 t264).bind fun t300 => ((chattelref01_Of.f kj59 t267).bind fun t303 => ((chattelref01_Cmp.f kj59 t300 t303).bind fun t306 => (if t299 = t306 then ((nat_Nat_Cmp.f kj59 t270 t273).bind fun t307 => ((nat_Nat_Cmp.f kj59 t273 t270).bind fun t308 => (if t307 = (wrap64 (-t308)) then ((nat_Nat_Cmp.f kj59 t270 t270).bind fun t309 => (some (t309 == 0))) else (some false)))) else (some false)))))) = some r := by rw [if_pos rfl] at H; exact H
                            clear H
                            have H := H1
                            clear H1
                            replace H := Option.bind_eq_some_iff.mp H
                            obtain ⟨t299, A830, H⟩ := H
                            replace H : ((chattelref01_Of.f kj59 t264).bind fun t300 => ((chattelref01_Of.f kj59 t267).bind fun t303 => ((chattelref01_Cmp.f kj59 t300 t303).bind fun t306 => (if t299 = t306 then ((nat_Nat_Cmp.f kj59 t270 t273).bind fun t307 => ((nat_Nat_Cmp.f kj59 t273 t270).bind fun t308 => (if t307 = (wrap64 (-t308)) then ((nat_Nat_Cmp.f kj59 t270 t270).bind fun t309 => (some (t309 == 0))) else (some false)))) else (some false))))) = some r := H
                            have A83 := Aside0.mk A830
                            clear A830
                            replace H := Option.bind_eq_some_iff.mp H
                            obtain ⟨t300, A840, H⟩ := H
                            replace H : ((chattelref01_Of.f kj59 t267).bind fun t303 => ((chattelref01_Cmp.f kj59 t300 t303).bind fun t306 => (if t299 = t306 then ((nat_Nat_Cmp.f kj59 t270 t273).bind fun t307 => ((nat_Nat_Cmp.f kj59 t273 t270).bind fun t308 => (if t307 = (wrap64 (-t308)) then ((nat_Nat_Cmp.f kj59 t270 t270).bind fun t309 => (some (t309 == 0))) else (some false)))) else (some false)))) = some r := H
                            have A84 := Aside0.mk A840
                            clear A840
                            replace H := Option.bind_eq_some_iff.mp H
                            obtain ⟨t303, A850, H⟩ := H
                            replace H : ((chattelref01_Cmp.f kj59 t300 t303).bind fun t306 => (if t299 = t306 then ((nat_Nat_Cmp.f kj59 t270 t273).bind fun t307 => ((nat_Nat_Cmp.f kj59 t273 t270).bind fun t308 => (if t307 = (wrap64 (-t308)) then ((nat_Nat_Cmp.f kj59 t270 t270).bind fun t309 => (some (t309 == 0))) else (some false)))) else (some false))) = some r := H
                            have A85 := Aside0.mk A850
                            clear A850
                            replace H := Option.bind_eq_some_iff.mp H
                            obtain ⟨t306, A860, H⟩ := H
                            replace H : (if t299 = t306 then ((nat_Nat_Cmp.f kj59 t270 t273).bind fun t307 => ((nat_Nat_Cmp.f kj59 t273 t270).bind fun t308 => (if t307 = (wrap64 (-t308)) then ((nat_Nat_Cmp.f kj59 t270 t270).bind fun t309 => (some (t309 == 0))) else (some false)))) else (some false)) = some r := H
                            have A86 := Aside0.mk A860
                            clear A860
                            by_cases c87 : t299 = t306
                            rotate_left
                            · rw [if_neg c87] at H
                              have c87b0 : (t299 == t306) = false := beq_eq_false_iff_ne.mpr c87
                              have c87b1 : (t299 != t306) = true := bne_iff_ne.mpr c87
                              exact absurd (Option.some.inj H) (by rw [ht_]; decide)
                            rw [if_pos c87] at H
                            have c87b0 : (t299 == t306) = true := beq_iff_eq.mpr c87
                            have c87b1 : (t299 != t306) = false := bne_eq_false_iff_eq.mpr c87
                            clear c87
                            replace H := Option.bind_eq_some_iff.mp H
                            obtain ⟨t307, A880, H⟩ := H
                            replace H : ((nat_Nat_Cmp.f kj59 t273 t270).bind fun t308 => (if t307 = (wrap64 (-t308)) then ((nat_Nat_Cmp.f kj59 t270 t270).bind fun t309 => (some (t309 == 0))) else (some false))) = some r := H
                            have A88 := Aside0.mk A880
                            clear A880
                            replace H := Option.bind_eq_some_iff.mp H
                            obtain ⟨t308, A890, H⟩ := H
                            replace H : (if t307 = (wrap64 (-t308)) then ((nat_Nat_Cmp.f kj59 t270 t270).bind fun t309 => (some (t309 == 0))) else (some false)) = some r := H
                            have A89 := Aside0.mk A890
                            clear A890
                            by_cases c90 : t307 = (wrap64 (-t308))
                            rotate_left
                            · rw [if_neg c90] at H
                              have c90b0 : (t307 == (wrap64 (-t308))) = false := beq_eq_false_iff_ne.mpr c90
                              have c90b1 : (t307 != (wrap64 (-t308))) = true := bne_iff_ne.mpr c90
                              exact absurd (Option.some.inj H) (by rw [ht_]; decide)
                            rw [if_pos c90] at H
                            have c90b0 : (t307 == (wrap64 (-t308))) = true := beq_iff_eq.mpr c90
                            have c90b1 : (t307 != (wrap64 (-t308))) = false := bne_eq_false_iff_eq.mpr c90
                            clear c90
                            replace H := Option.bind_eq_some_iff.mp H
                            obtain ⟨t309, A910, H⟩ := H
                            replace H : (some (t309 == 0)) = some r := H
                            have A91 := Aside0.mk A910
                            clear A910
                            obtain rfl := Option.some.inj H
                            try go_wp2
                            replace HO_0 := Aside0.mk (Kd.V_drew HO_0.out)
                            replace HO_1 := Aside0.mk (Kd.V_drew HO_1.out)
                            replace HO_277000 := Aside0.mk (Kd.V_drew HO_277000.out)
                            replace HO_278000 := Aside0.mk (Kd.V_drew HO_278000.out)
                            replace BK276 := Aside0.mk (blk_drew BK276.out)
                            replace BK277 := Aside0.mk (blk_drew BK277.out)
                            replace HB := Aside0.mk (below_drew1 HB.out)
                            refine start_ (n := 29) (S := fun w' => w'.cell? ⟨gb276, 0, none⟩ = some (.slice Ao17 t270.length co17) ∧ w'.cell? ⟨gb277, 0, none⟩ = some (.slice Ao20 t273.length co20)) (ds := []) (fl 0 29 []) (by kernel_rfl) rfl rfl ⟨(blk_cell BK276.out 0).trans rfl, (blk_cell BK277.out 0).trans rfl⟩ (fun hHeld => ?_); refine with_tabW chattellaw01_NatLimbs.tab19 chattellaw01_NatLimbs.bits19 (fun HT_ HW_ => ?_)
                            generalize wc.drew = w92 at HO_0 HO_1 HO_277000 HO_278000 BK276 BK277 HB hHeld ⊢
                            refine one_ (i := 0) (N := some 112) (fl 1 29 []) rfl rfl (one_of HT_.out (by kernel_rfl)) (by decide) (fun K hK => ?_)
                            refine goes_ Try.func20 (by kernel_rfl) rfl #[] (by rfl) rfl rfl (by (try simp only [List.map_toArray, List.map_cons, List.map_nil]); first | done | rfl | (simp only [List.length_drop, List.length_take]; rfl)) ?_
                            with_reducible refine (chattellaw01_wakes.calls kj59  true _ A81.out).mono ?_
                            rintro e w93 ⟨rfl, hb⟩
                            refine ⟨_, rfl, ?_⟩
                            replace HO_0 := Aside0.mk (vb HO_0.out hb)
                            replace HO_1 := Aside0.mk (vb HO_1.out hb)
                            replace HO_277000 := Aside0.mk (vb HO_277000.out hb)
                            replace HO_278000 := Aside0.mk (vb HO_278000.out hb)
                            replace BK276 := Aside0.mk (bb BK276.out hb)
                            replace BK277 := Aside0.mk (bb BK277.out hb)
                            replace HB := Aside0.mk (bs HB.out hb)
                            (try clear hb)
                            (try clear hb2)
                            (try clear hk)
                            (try clear hi)
                            refine hK.out _ _ ⟨(blk_cell BK276.out 0).trans rfl, (blk_cell BK277.out 0).trans rfl⟩ (fun hHeld => ?_)
                            clear hK K
                            refine norm_ (a' := ?_) ?_ ?_
                            rotate_left
                            · show Act.put _ (some 112) _ = _
                              simp only [Act.put, List.setIfInBounds_toArray, List.set_cons_zero, List.set_cons_succ, i64_w, i32_w]
                              rfl
                            refine pure_ (i := 1) (N := some 113) (v := ?_) (a' := ?_) (fl 2 29 []) rfl rfl (any_of HT_.out (by kernel_rfl)) (fun _ _ _ h => h) (Or.inl ⟨by rfl, ?_⟩) ?_ ?_
                            rotate_left
                            · intro w'
                              go_simp
                              with_reducible rfl
                            rotate_left
                            · simp only [Act.put, List.setIfInBounds_toArray, List.set_cons_zero, List.set_cons_succ, i64_w, i32_w]
                              rfl
                            refine pure_ (i := 5) (N := some 117) (v := ?_) (a' := ?_) (fl 2 29 [5]) rfl rfl (any_of HT_.out (by kernel_rfl)) (fun _ _ _ h => h) (Or.inl ⟨by rfl, ?_⟩) ?_ ?_
                            rotate_left
                            · intro w'
                              go_simp
                              with_reducible rfl
                            rotate_left
                            · simp only [Act.put, List.setIfInBounds_toArray, List.set_cons_zero, List.set_cons_succ, i64_w, i32_w]
                              rfl
                            refine pure_ (i := 7) (N := some 119) (v := ?_) (a' := ?_) (fl 2 29 [5, 7]) rfl rfl (any_of HT_.out (by kernel_rfl)) (fun _ _ _ h => h) (Or.inl ⟨by rfl, ?_⟩) ?_ ?_
                            rotate_left
                            · intro w'
                              go_simp
                              with_reducible rfl
                            rotate_left
                            · simp only [Act.put, List.setIfInBounds_toArray, List.set_cons_zero, List.set_cons_succ, i64_w, i32_w]
                              rfl
                            refine take_ (i := 2) (N := some 114) (v := ?_) (a' := ?_) (fl 3 29 [5, 7]) rfl rfl (take_ofW HT_.out HW_.out (by kernel_rfl)) (fun _ _ _ h => h) (Or.inl ⟨by rfl, ?_⟩) hHeld ?_ ?_
                            rotate_left
                            · rintro w' ⟨s0, s1⟩
                              go_simp
                              with_reducible rfl
                            rotate_left
                            · simp only [Act.put, List.setIfInBounds_toArray, List.set_cons_zero, List.set_cons_succ, i64_w, i32_w]
                              rfl
                            refine take_ (i := 3) (N := some 115) (v := ?_) (a' := ?_) (fl 4 29 [5, 7]) rfl rfl (take_ofW HT_.out HW_.out (by kernel_rfl)) (fun _ _ _ h => h) (Or.inl ⟨by rfl, ?_⟩) hHeld ?_ ?_
                            rotate_left
                            · rintro w' ⟨s0, s1⟩
                              go_simp
                              with_reducible rfl
                            rotate_left
                            · simp only [Act.put, List.setIfInBounds_toArray, List.set_cons_zero, List.set_cons_succ, i64_w, i32_w]
                              rfl
                            refine one_ (i := 4) (N := some 116) (fl 6 29 [7]) rfl rfl (one_of HT_.out (by kernel_rfl)) (by decide) (fun K hK => ?_)
                            refine goes_ Try.func21 (by kernel_rfl) rfl #[.agg #[.slice Ao17 t270.length co17], .agg #[.slice Ao20 t273.length co20]] (by rfl) rfl rfl (by (try simp only [List.map_toArray, List.map_cons, List.map_nil]); first | done | rfl | (simp only [List.length_drop, List.length_take]; rfl)) ?_
                            with_reducible refine (nat_Nat_Cmp.calls kj59 _ _ t270 _ _ t273 t299 _ ?side1 ?side2 ?side3 ?side4 A83.out).mono ?_
                            (case side1 => exact cv HO_277000.out)
                            (case side2 => exact (Kd.V_reads' HO_277000.out).2.1)
                            (case side3 => exact cv HO_278000.out)
                            (case side4 => exact (Kd.V_reads' HO_278000.out).2.1)
                            rintro e w94 ⟨rfl, hb⟩
                            refine ⟨_, rfl, ?_⟩
                            replace HO_0 := Aside0.mk (vb HO_0.out hb)
                            replace HO_1 := Aside0.mk (vb HO_1.out hb)
                            replace HO_277000 := Aside0.mk (vb HO_277000.out hb)
                            replace HO_278000 := Aside0.mk (vb HO_278000.out hb)
                            replace BK276 := Aside0.mk (bb BK276.out hb)
                            replace BK277 := Aside0.mk (bb BK277.out hb)
                            replace HB := Aside0.mk (bs HB.out hb)
                            (try clear hb)
                            (try clear hb2)
                            (try clear hk)
                            (try clear hi)
                            refine hK.out _ _ ⟨(blk_cell BK276.out 0).trans rfl, (blk_cell BK277.out 0).trans rfl⟩ (fun hHeld => ?_)
                            clear hK K
                            refine norm_ (a' := ?_) ?_ ?_
                            rotate_left
                            · show Act.put _ (some 116) _ = _
                              simp only [Act.put, List.setIfInBounds_toArray, List.set_cons_zero, List.set_cons_succ, i64_w, i32_w]
                              rfl
                            refine one_ (i := 6) (N := some 118) (fl 8 29 []) rfl rfl (one_of HT_.out (by kernel_rfl)) (by decide) (fun K hK => ?_)
                            refine goes_ Try.func23 (by kernel_rfl) rfl #[.slice Ao11 t264.length co11] (by rfl) rfl rfl (by (try simp only [List.map_toArray, List.map_cons, List.map_nil]); first | done | rfl | (simp only [List.length_drop, List.length_take]; rfl)) ?_
                            with_reducible refine (chattelref01_Of.calls kj59 _ _ t264 t300 _ ?side1 ?side2 A84.out).mono ?_
                            (case side1 => exact cv HO_0.out)
                            (case side2 => exact (Kd.V_reads' HO_0.out).2.1)
                            rintro e w95 ⟨v301, rfl, ho0, hb⟩
                            refine ⟨_, rfl, ?_⟩
                            replace HO_0 := Aside0.mk (vb HO_0.out hb)
                            replace HO_1 := Aside0.mk (vb HO_1.out hb)
                            replace HO_277000 := Aside0.mk (vb HO_277000.out hb)
                            replace HO_278000 := Aside0.mk (vb HO_278000.out hb)
                            have HO302 := Aside0.mk (Kd.V_lower (Kd.V_mono (ok' := fun k_ => k_ ≠ gb276 ∧ k_ ≠ gb277) ho0 (fun k_ hk_ => ⟨(fb BK276.out k_ hk_), (fb BK277.out k_ hk_)⟩)) (bz HB.out))
                            replace BK276 := Aside0.mk (bb BK276.out hb)
                            replace BK277 := Aside0.mk (bb BK277.out hb)
                            replace HB := Aside0.mk (bs HB.out hb)
                            (try clear hb)
                            (try clear hb2)
                            (try clear hk)
                            (try clear hi)
                            (try clear ho0)
                            refine hK.out _ _ ⟨(blk_cell BK276.out 0).trans rfl, (blk_cell BK277.out 0).trans rfl⟩ (fun hHeld => ?_)
                            clear hK K
                            refine norm_ (a' := ?_) ?_ ?_
                            rotate_left
                            · show Act.put _ (some 118) _ = _
                              simp only [Act.put, List.setIfInBounds_toArray, List.set_cons_zero, List.set_cons_succ, i64_w, i32_w]
                              rfl
                            refine one_ (i := 8) (N := some 120) (fl 9 29 []) rfl rfl (one_of HT_.out (by kernel_rfl)) (by decide) (fun K hK => ?_)
                            refine goes_ Try.func23 (by kernel_rfl) rfl #[.slice Ao13 t267.length co13] (by rfl) rfl rfl (by (try simp only [List.map_toArray, List.map_cons, List.map_nil]); first | done | rfl | (simp only [List.length_drop, List.length_take]; rfl)) ?_
                            with_reducible refine (chattelref01_Of.calls kj59 _ _ t267 t303 _ ?side1 ?side2 A85.out).mono ?_
                            (case side1 => exact cv HO_1.out)
                            (case side2 => exact (Kd.V_reads' HO_1.out).2.1)
                            rintro e w96 ⟨v304, rfl, ho0, hb⟩
                            refine ⟨_, rfl, ?_⟩
                            replace HO_0 := Aside0.mk (vb HO_0.out hb)
                            replace HO_1 := Aside0.mk (vb HO_1.out hb)
                            replace HO_277000 := Aside0.mk (vb HO_277000.out hb)
                            replace HO_278000 := Aside0.mk (vb HO_278000.out hb)
                            replace HO302 := Aside0.mk (vb HO302.out hb)
                            have HO305 := Aside0.mk (Kd.V_lower (Kd.V_mono (ok' := fun k_ => k_ ≠ gb276 ∧ k_ ≠ gb277) ho0 (fun k_ hk_ => ⟨(fb BK276.out k_ hk_), (fb BK277.out k_ hk_)⟩)) (bz HB.out))
                            replace BK276 := Aside0.mk (bb BK276.out hb)
                            replace BK277 := Aside0.mk (bb BK277.out hb)
                            replace HB := Aside0.mk (bs HB.out hb)
                            (try clear hb)
                            (try clear hb2)
                            (try clear hk)
                            (try clear hi)
                            (try clear ho0)
                            obtain ⟨Ao97, co97, eo97⟩ := Kd.V_slice HO302.out
                            (first | subst eo97 | (injection eo97 with f1_ f2_ f3_; have f4_ := f1_.symm; have f5_ := f3_.symm; clear f1_ f2_ f3_; subst f4_; subst f5_))
                            obtain ⟨Ao98, co98, eo98⟩ := Kd.V_slice HO305.out
                            (first | subst eo98 | (injection eo98 with f1_ f2_ f3_; have f4_ := f1_.symm; have f5_ := f3_.symm; clear f1_ f2_ f3_; subst f4_; subst f5_))
                            refine hK.out _ _ ⟨(blk_cell BK276.out 0).trans rfl, (blk_cell BK277.out 0).trans rfl⟩ (fun hHeld => ?_)
                            clear hK K
                            refine norm_ (a' := ?_) ?_ ?_
                            rotate_left
                            · show Act.put _ (some 120) _ = _
                              simp only [Act.put, List.setIfInBounds_toArray, List.set_cons_zero, List.set_cons_succ, i64_w, i32_w]
                              rfl
                            refine one_ (i := 9) (N := some 121) (fl 10 29 []) rfl rfl (one_of HT_.out (by kernel_rfl)) (by decide) (fun K hK => ?_)
                            refine goes_ Try.func22 (by kernel_rfl) rfl #[.slice Ao97 t300.length co97, .slice Ao98 t303.length co98] (by rfl) rfl rfl (by (try simp only [List.map_toArray, List.map_cons, List.map_nil]); first | done | rfl | (simp only [List.length_drop, List.length_take]; rfl)) ?_
                            with_reducible refine (chattelref01_Cmp.calls kj59 _ _ t300 _ _ t303 t306 _ ?side1 ?side2 ?side3 ?side4 A86.out).mono ?_
                            (case side1 => exact cv HO302.out)
                            (case side2 => exact (Kd.V_reads' HO302.out).2.1)
                            (case side3 => exact cv HO305.out)
                            (case side4 => exact (Kd.V_reads' HO305.out).2.1)
                            rintro e w' ⟨rfl, ⟨nd, rfl⟩⟩
                            refine ⟨_, rfl, ?_⟩
                            refine hK.out _ _ ⟨(blk_cell BK276.out 0).trans rfl, (blk_cell BK277.out 0).trans rfl⟩ (fun hHeld => ?_)
                            clear hK K
                            refine norm_ (a' := ?_) ?_ ?_
                            rotate_left
                            · show Act.put _ (some 121) _ = _
                              simp only [Act.put, List.setIfInBounds_toArray, List.set_cons_zero, List.set_cons_succ, i64_w, i32_w]
                              rfl
                            refine pure_ (i := 10) (N := some 122) (v := ?_) (a' := ?_) (fl 11 29 []) rfl rfl (any_of HT_.out (by kernel_rfl)) (fun _ _ _ h => h) (Or.inl ⟨by rfl, ?_⟩) ?_ ?_
                            rotate_left
                            · intro w'
                              go_simp
                              with_reducible rfl
                            rotate_left
                            · simp only [Act.put, List.setIfInBounds_toArray, List.set_cons_zero, List.set_cons_succ, i64_w, i32_w]
                              rfl
                            refine pure_ (i := 11) (N := some 123) (v := ?_) (a' := ?_) (fl 12 29 []) rfl rfl (any_of HT_.out (by kernel_rfl)) (fun _ _ _ h => h) (Or.inl ⟨by rfl, ?_⟩) ?_ ?_
                            rotate_left
                            · intro w'
                              go_simp
                              with_reducible rfl
                            rotate_left
                            · simp only [Act.put, List.setIfInBounds_toArray, List.set_cons_zero, List.set_cons_succ, i64_w, i32_w]
                              rfl
                            refine pure_ (i := 12) (N := some 124) (v := ?_) (a' := ?_) (fl 13 29 []) rfl rfl (any_of HT_.out (by kernel_rfl)) (fun _ _ _ h => h) (Or.inl ⟨by rfl, ?_⟩) ?_ ?_
                            rotate_left
                            · intro w'
                              go_simp
                              with_reducible rfl
                            rotate_left
                            · simp only [Act.put, List.setIfInBounds_toArray, List.set_cons_zero, List.set_cons_succ, i64_w, i32_w]
                              rfl
                            refine take_ (i := 13) (N := some 125) (v := ?_) (a' := ?_) (fl 14 29 []) rfl rfl (take_ofW HT_.out HW_.out (by kernel_rfl)) (fun _ _ _ h => h) (Or.inl ⟨by rfl, ?_⟩) hHeld ?_ ?_
                            rotate_left
                            · rintro w' ⟨s0, s1⟩
                              go_simp
                              with_reducible rfl
                            rotate_left
                            · simp only [Act.put, List.setIfInBounds_toArray, List.set_cons_zero, List.set_cons_succ, i64_w, i32_w]
                              rfl
                            refine take_ (i := 14) (N := some 126) (v := ?_) (a' := ?_) (fl 15 29 []) rfl rfl (take_ofW HT_.out HW_.out (by kernel_rfl)) (fun _ _ _ h => h) (Or.inl ⟨by rfl, ?_⟩) hHeld ?_ ?_
                            rotate_left
                            · rintro w' ⟨s0, s1⟩
                              go_simp
                              with_reducible rfl
                            rotate_left
                            · simp only [Act.put, List.setIfInBounds_toArray, List.set_cons_zero, List.set_cons_succ, i64_w, i32_w]
                              rfl
                            refine take_ (i := 16) (N := some 128) (v := ?_) (a' := ?_) (fl 15 29 [16]) rfl rfl (take_ofW HT_.out HW_.out (by kernel_rfl)) (fun _ _ _ h => h) (Or.inl ⟨by rfl, ?_⟩) hHeld ?_ ?_
                            rotate_left
                            · rintro w' ⟨s0, s1⟩
                              go_simp
                              with_reducible rfl
                            rotate_left
                            · simp only [Act.put, List.setIfInBounds_toArray, List.set_cons_zero, List.set_cons_succ, i64_w, i32_w]
                              rfl
                            refine take_ (i := 17) (N := some 129) (v := ?_) (a' := ?_) (fl 15 29 [16, 17]) rfl rfl (take_ofW HT_.out HW_.out (by kernel_rfl)) (fun _ _ _ h => h) (Or.inl ⟨by rfl, ?_⟩) hHeld ?_ ?_
                            rotate_left
                            · rintro w' ⟨s0, s1⟩
                              go_simp
                              with_reducible rfl
                            rotate_left
                            · simp only [Act.put, List.setIfInBounds_toArray, List.set_cons_zero, List.set_cons_succ, i64_w, i32_w]
                              rfl
                            refine one_ (i := 15) (N := some 127) (fl 18 29 []) rfl rfl (one_of HT_.out (by kernel_rfl)) (by decide) (fun K hK => ?_)
                            refine goes_ Try.func21 (by kernel_rfl) rfl #[.agg #[.slice Ao17 t270.length co17], .agg #[.slice Ao20 t273.length co20]] (by rfl) rfl rfl (by (try simp only [List.map_toArray, List.map_cons, List.map_nil]); first | done | rfl | (simp only [List.length_drop, List.length_take]; rfl)) ?_
                            with_reducible refine (nat_Nat_Cmp.calls kj59 _ _ t270 _ _ t273 t307 _ ?side1 ?side2 ?side3 ?side4 A88.out).mono ?_
                            (case side1 => exact cv HO_277000.out)
                            (case side2 => exact (Kd.V_reads' HO_277000.out).2.1)
                            (case side3 => exact cv HO_278000.out)
                            (case side4 => exact (Kd.V_reads' HO_278000.out).2.1)
                            rintro e w99 ⟨rfl, hb⟩
                            refine ⟨_, rfl, ?_⟩
                            replace HO_0 := Aside0.mk (vb HO_0.out hb)
                            replace HO_1 := Aside0.mk (vb HO_1.out hb)
                            replace HO_277000 := Aside0.mk (vb HO_277000.out hb)
                            replace HO_278000 := Aside0.mk (vb HO_278000.out hb)
                            replace HO302 := Aside0.mk (vb HO302.out hb)
                            replace HO305 := Aside0.mk (vb HO305.out hb)
                            replace BK276 := Aside0.mk (bb BK276.out hb)
                            replace BK277 := Aside0.mk (bb BK277.out hb)
                            replace HB := Aside0.mk (bs HB.out hb)
                            (try clear hb)
                            (try clear hb2)
                            (try clear hk)
                            (try clear hi)
                            refine hK.out _ _ ⟨(blk_cell BK276.out 0).trans rfl, (blk_cell BK277.out 0).trans rfl⟩ (fun hHeld => ?_)
                            clear hK K
                            refine norm_ (a' := ?_) ?_ ?_
                            rotate_left
                            · show Act.put _ (some 127) _ = _
                              simp only [Act.put, List.setIfInBounds_toArray, List.set_cons_zero, List.set_cons_succ, i64_w, i32_w]
                              rfl
                            refine one_ (i := 18) (N := some 130) (fl 19 29 []) rfl rfl (one_of HT_.out (by kernel_rfl)) (by decide) (fun K hK => ?_)
                            refine goes_ Try.func21 (by kernel_rfl) rfl #[.agg #[.slice Ao20 t273.length co20], .agg #[.slice Ao17 t270.length co17]] (by rfl) rfl rfl (by (try simp only [List.map_toArray, List.map_cons, List.map_nil]); first | done | rfl | (simp only [List.length_drop, List.length_take]; rfl)) ?_
                            with_reducible refine (nat_Nat_Cmp.calls kj59 _ _ t273 _ _ t270 t308 _ ?side1 ?side2 ?side3 ?side4 A89.out).mono ?_
                            (case side1 => exact cv HO_278000.out)
                            (case side2 => exact (Kd.V_reads' HO_278000.out).2.1)
                            (case side3 => exact cv HO_277000.out)
                            (case side4 => exact (Kd.V_reads' HO_277000.out).2.1)
                            rintro e w100 ⟨rfl, hb⟩
                            refine ⟨_, rfl, ?_⟩
                            replace HO_0 := Aside0.mk (vb HO_0.out hb)
                            replace HO_1 := Aside0.mk (vb HO_1.out hb)
                            replace HO_277000 := Aside0.mk (vb HO_277000.out hb)
                            replace HO_278000 := Aside0.mk (vb HO_278000.out hb)
                            replace HO302 := Aside0.mk (vb HO302.out hb)
                            replace HO305 := Aside0.mk (vb HO305.out hb)
                            replace BK276 := Aside0.mk (bb BK276.out hb)
                            replace BK277 := Aside0.mk (bb BK277.out hb)
                            replace HB := Aside0.mk (bs HB.out hb)
                            (try clear hb)
                            (try clear hb2)
                            (try clear hk)
                            (try clear hi)
                            refine hK.out _ _ ⟨(blk_cell BK276.out 0).trans rfl, (blk_cell BK277.out 0).trans rfl⟩ (fun hHeld => ?_)
                            clear hK K
                            refine norm_ (a' := ?_) ?_ ?_
                            rotate_left
                            · show Act.put _ (some 130) _ = _
                              simp only [Act.put, List.setIfInBounds_toArray, List.set_cons_zero, List.set_cons_succ, i64_w, i32_w]
                              rfl
                            refine pure_ (i := 19) (N := some 131) (v := ?_) (a' := ?_) (fl 20 29 []) rfl rfl (any_of HT_.out (by kernel_rfl)) (fun _ _ _ h => h) (Or.inl ⟨by rfl, ?_⟩) ?_ ?_
                            rotate_left
                            · intro w'
                              go_simp
                              with_reducible rfl
                            rotate_left
                            · simp only [Act.put, List.setIfInBounds_toArray, List.set_cons_zero, List.set_cons_succ, i64_w, i32_w]
                              rfl
                            refine pure_ (i := 20) (N := some 132) (v := ?_) (a' := ?_) (fl 21 29 []) rfl rfl (any_of HT_.out (by kernel_rfl)) (fun _ _ _ h => h) (Or.inl ⟨by rfl, ?_⟩) ?_ ?_
                            rotate_left
                            · intro w'
                              go_simp
                              with_reducible rfl
                            rotate_left
                            · simp only [Act.put, List.setIfInBounds_toArray, List.set_cons_zero, List.set_cons_succ, i64_w, i32_w]
                              rfl
                            refine pure_ (i := 21) (N := some 133) (v := ?_) (a' := ?_) (fl 22 29 []) rfl rfl (any_of HT_.out (by kernel_rfl)) (fun _ _ _ h => h) (Or.inl ⟨by rfl, ?_⟩) ?_ ?_
                            rotate_left
                            · intro w'
                              go_simp
                              with_reducible rfl
                            rotate_left
                            · simp only [Act.put, List.setIfInBounds_toArray, List.set_cons_zero, List.set_cons_succ, i64_w, i32_w]
                              rfl
                            refine pure_ (i := 22) (N := some 134) (v := ?_) (a' := ?_) (fl 23 29 []) rfl rfl (any_of HT_.out (by kernel_rfl)) (fun _ _ _ h => h) (Or.inl ⟨by rfl, ?_⟩) ?_ ?_
                            rotate_left
                            · intro w'
                              go_simp
                              with_reducible rfl
                            rotate_left
                            · simp only [Act.put, List.setIfInBounds_toArray, List.set_cons_zero, List.set_cons_succ, i64_w, i32_w]
                              rfl
                            refine take_ (i := 23) (N := some 135) (v := ?_) (a' := ?_) (fl 24 29 []) rfl rfl (take_ofW HT_.out HW_.out (by kernel_rfl)) (fun _ _ _ h => h) (Or.inl ⟨by rfl, ?_⟩) hHeld ?_ ?_
                            rotate_left
                            · rintro w' ⟨s0, s1⟩
                              go_simp
                              with_reducible rfl
                            rotate_left
                            · simp only [Act.put, List.setIfInBounds_toArray, List.set_cons_zero, List.set_cons_succ, i64_w, i32_w]
                              rfl
                            refine take_ (i := 24) (N := some 136) (v := ?_) (a' := ?_) (fl 25 29 []) rfl rfl (take_ofW HT_.out HW_.out (by kernel_rfl)) (fun _ _ _ h => h) (Or.inl ⟨by rfl, ?_⟩) hHeld ?_ ?_
                            rotate_left
                            · rintro w' ⟨s0, s1⟩
                              go_simp
                              with_reducible rfl
                            rotate_left
                            · simp only [Act.put, List.setIfInBounds_toArray, List.set_cons_zero, List.set_cons_succ, i64_w, i32_w]
                              rfl
                            refine one_ (i := 25) (N := some 137) (fl 26 29 []) rfl rfl (one_of HT_.out (by kernel_rfl)) (by decide) (fun K hK => ?_)
                            refine goes_ Try.func21 (by kernel_rfl) rfl #[.agg #[.slice Ao17 t270.length co17], .agg #[.slice Ao17 t270.length co17]] (by rfl) rfl rfl (by (try simp only [List.map_toArray, List.map_cons, List.map_nil]); first | done | rfl | (simp only [List.length_drop, List.length_take]; rfl)) ?_
                            with_reducible refine (nat_Nat_Cmp.calls kj59 _ _ t270 _ _ t270 t309 _ ?side1 ?side2 ?side3 ?side4 A91.out).mono ?_
                            (case side1 => exact cv HO_277000.out)
                            (case side2 => exact (Kd.V_reads' HO_277000.out).2.1)
                            (case side3 => exact cv HO_277000.out)
                            (case side4 => exact (Kd.V_reads' HO_277000.out).2.1)
                            rintro e w101 ⟨rfl, hb⟩
                            refine ⟨_, rfl, ?_⟩
                            replace HO_0 := Aside0.mk (vb HO_0.out hb)
                            replace HO_1 := Aside0.mk (vb HO_1.out hb)
                            replace HO_277000 := Aside0.mk (vb HO_277000.out hb)
                            replace HO_278000 := Aside0.mk (vb HO_278000.out hb)
                            replace HO302 := Aside0.mk (vb HO302.out hb)
                            replace HO305 := Aside0.mk (vb HO305.out hb)
                            replace BK276 := Aside0.mk (bb BK276.out hb)
                            replace BK277 := Aside0.mk (bb BK277.out hb)
                            replace HB := Aside0.mk (bs HB.out hb)
                            (try clear hb)
                            (try clear hb2)
                            (try clear hk)
                            (try clear hi)
                            refine hK.out _ _ ⟨(blk_cell BK276.out 0).trans rfl, (blk_cell BK277.out 0).trans rfl⟩ (fun hHeld => ?_)
                            clear hK K
                            refine norm_ (a' := ?_) ?_ ?_
                            rotate_left
                            · show Act.put _ (some 137) _ = _
                              simp only [Act.put, List.setIfInBounds_toArray, List.set_cons_zero, List.set_cons_succ, i64_w, i32_w]
                              rfl
                            refine pure_ (i := 26) (N := some 138) (v := ?_) (a' := ?_) (fl 27 29 []) rfl rfl (any_of HT_.out (by kernel_rfl)) (fun _ _ _ h => h) (Or.inl ⟨by rfl, ?_⟩) ?_ ?_
                            rotate_left
                            · intro w'
                              go_simp
                              with_reducible rfl
                            rotate_left
                            · simp only [Act.put, List.setIfInBounds_toArray, List.set_cons_zero, List.set_cons_succ, i64_w, i32_w]
                              rfl
                            refine pure_ (i := 27) (N := some 139) (v := ?_) (a' := ?_) (fl 28 29 []) rfl rfl (any_of HT_.out (by kernel_rfl)) (fun _ _ _ h => h) (Or.inl ⟨by rfl, ?_⟩) ?_ ?_
                            rotate_left
                            · intro w'
                              go_simp
                              with_reducible rfl
                            rotate_left
                            · simp only [Act.put, List.setIfInBounds_toArray, List.set_cons_zero, List.set_cons_succ, i64_w, i32_w]
                              rfl
                            refine pure_ (i := 28) (N := some 4) (v := ?_) (a' := ?_) (fl 29 29 []) rfl rfl (any_of HT_.out (by kernel_rfl)) (fun _ _ _ h => h) (Or.inl ⟨by rfl, ?_⟩) ?_ ?_
                            rotate_left
                            · intro w'
                              go_simp
                              with_reducible rfl
                            rotate_left
                            · simp only [Act.put, List.setIfInBounds_toArray, List.set_cons_zero, List.set_cons_succ, i64_w, i32_w]
                              rfl
                            refine done_ (done_of HT_.out (by kernel_rfl)) ?_
                            try go_wp2
                            go_ret
                            exact ⟨by first | rfl | (simp [errW_none, errW_some] <;> rfl) | (simp [*, errW_none, errW_some] <;> rfl), by repeat (first | (with_reducible first | exact HB.out | apply below_alloc | apply pw_below_drewN | apply below_drew1 | refine below_set ?_ GE276.out | refine below_set ?_ GE277.out) | exact HB.out)⟩
                          · replace c82 := Bool.eq_false_iff.mpr c82
                            subst c82
                            have H1 : (some false) = some r := by rw [if_neg (show ¬ (false = true) by decide)] at H; exact H
                            clear H
                            have H := H1
                            clear H1
                            exact absurd (Option.some.inj H) (by rw [ht_]; decide)
                  · replace c58 := Bool.eq_false_iff.mpr c58
                    subst c58
                    have H1 : (some false) = some r := by rw [if_neg (show ¬ (false = true) by decide)] at H; exact H
                    clear H
                    have H := H1
                    clear H1
                    exact absurd (Option.some.inj H) (by rw [ht_]; decide)

/-- THE ONE PURE STATEMENT of chattellaw01_NatLimbs: yours. -/
def chattellaw01_NatLimbs.Pure : Prop := ∀ (l0 : List Int) (l1 : List Int), l0.length ≤ maxLen → l0.length * 8 ≤ 140737488351232 → (∀ x ∈ l0, (Lit.int .u64 x).wf = true) → l1.length ≤ maxLen → l1.length * 8 ≤ 140737488351232 → (∀ x ∈ l1, (Lit.int .u64 x).wf = true) → ∃ k, chattellaw01_NatLimbs.f k l0 l1 = some true
theorem chattellaw01_NatLimbs.walk (P : chattellaw01_NatLimbs.Pure) (a0 : Option Addr) (len0 cap0 : Nat) (z0 : List Int) (a1 : Option Addr) (len1 cap1 : Nat) (z1 : List Int) (w : World) (w0 : (a0 = none ∧ len0 = 0 ∧ cap0 = 0 ∧ z0 = []) ∨ ∃ x, a0 = some x ∧ len0 ≤ cap0 ∧ cap0 ≤ maxLen ∧ z0.length = cap0 ∧ (∀ i, i < z0.length → w.cell? (x.add i) = some (.int .u64 (z0.getD i 0))) ∧ ∀ n ∈ z0, (Lit.int .u64 n).wf = true) (y0 : len0 * 8 ≤ 140737488351232) (w1 : (a1 = none ∧ len1 = 0 ∧ cap1 = 0 ∧ z1 = []) ∨ ∃ x, a1 = some x ∧ len1 ≤ cap1 ∧ cap1 ≤ maxLen ∧ z1.length = cap1 ∧ (∀ i, i < z1.length → w.cell? (x.add i) = some (.int .u64 (z1.getD i 0))) ∧ ∀ n ∈ z1, (Lit.int .u64 n).wf = true) (y1 : len1 * 8 ≤ 140737488351232) :
    Calls Try.prog 3 #[.slice a0 len0 cap0, .slice a1 len1 cap1] w fun e w' => e = .returned (.bool true) ∧ Below w.heap.size w w' := by
  obtain ⟨l0, rfl, hr0, hm0, hw0, hc0⟩ := ReadsInt.ofRowC w0
  obtain ⟨l1, rfl, hr1, hm1, hw1, hc1⟩ := ReadsInt.ofRowC w1
  obtain ⟨k, h⟩ := P l0 l1 hm0 y0 hw0 hm1 y1 hw1
  refine (chattellaw01_NatLimbs.calls k _ _ l0 _ _ l1 true w (Kd.C_of_reads (d := (0 : Int)) (h1 := fun _ => rfl) hr0) hc0 (Kd.C_of_reads (d := (0 : Int)) (h1 := fun _ => rfl) hr1) hc1 h rfl).mono ?_
  rintro e w' ⟨rfl, hd⟩
  exact ⟨rfl, hd⟩

end Go.Proofs.Ytebjbmgfbejapaa.F
