-- Written by this session's printer (wip/tools), out of the translation's own print. Lean checks it.
import Derived.Test.YtebjbmgfbejapaaF0
import Derived.Test.YtebjbmgfbejapaaF1
import Derived.Test.YtebjbmgfbejapaaF4
import Derived.Test.YtebjbmgfbejapaaF7
import Derived.Test.YtebjbmgfbejapaaF9
import Derived.Test.YtebjbmgfbejapaaF14
import Derived.Test.YtebjbmgfbejapaaF16
import Derived.Test.YtebjbmgfbejapaaF17
import Derived.Test.YtebjbmgfbejapaaF28
namespace Go.Proofs.Ytebjbmgfbejapaa.F
open Go.RowKit Go.Proofs.YtebjbmgfbejapaaW.PrintWords Go.Proofs.YtebjbmgfbejapaaW.PrintLast Go.Proofs.YtebjbmgfbejapaaW.PrintMore Go.Proofs.YtebjbmgfbejapaaX
attribute [local go_sem] max2_int xrun_add64 xrun_sub64
attribute [local go_sem] max2_int min2_int max_two min_two max_three min_three max_four min_four   -- for this text's walks alone
set_option linter.unusedVariables false
set_option linter.unusedSimpArgs false

/-! ### chattellaw01_NatBits: function 4 -/
def chattellaw01_NatBits.j0 : Nat → Bool → List Int → List Int → Option (Bool)
  | 0, _, _, _ => none
  | k + 1, x19, x342000, x343000 => if x19 = true then ((chattellaw01_wakes.f k).bind fun t345 => (if t345 = true then ((nat_Nat_Mul.f k x342000 x343000).bind fun t346 => ((nat_Nat_Bits.f k t346).bind fun t349 => (some (t349 == 0)))) else (some false))) else ((nat_Nat_Mul.f k x342000 x343000).bind fun t350 => ((nat_Nat_Bits.f k t350).bind fun t353 => ((chattellaw01_wakes.f k).bind fun t354 => (if t354 = true then ((nat_Nat_Bits.f k x342000).bind fun t355 => ((nat_Nat_Bits.f k x343000).bind fun t356 => (if t353 = (wrap64 (t355 + t356)) then ((nat_Nat_Add.f k x342000 x342000).bind fun t357 => ((nat_Nat_Bits.f k t357).bind fun t360 => ((nat_Nat_Bits.f k x342000).bind fun t361 => (if t360 = (wrap64 (t361 + 1)) then ((nat_Nat_Cmp.f k x342000 x343000).bind fun t362 => (if t362 > 0 then (some true) else ((nat_Nat_Bits.f k x342000).bind fun t363 => ((nat_Nat_Bits.f k x343000).bind fun t364 => (some (decide (t363 ≤ t364))))))) else (some false))))) else ((nat_Nat_Bits.f k x342000).bind fun t365 => ((nat_Nat_Bits.f k x343000).bind fun t366 => (if t353 = (wrap64 ((wrap64 (t365 + t366)) - 1)) then ((nat_Nat_Add.f k x342000 x342000).bind fun t367 => ((nat_Nat_Bits.f k t367).bind fun t370 => ((nat_Nat_Bits.f k x342000).bind fun t371 => (if t370 = (wrap64 (t371 + 1)) then ((nat_Nat_Cmp.f k x342000 x343000).bind fun t372 => (if t372 > 0 then (some true) else ((nat_Nat_Bits.f k x342000).bind fun t373 => ((nat_Nat_Bits.f k x343000).bind fun t374 => (some (decide (t373 ≤ t374))))))) else (some false))))) else (some false))))))) else (some false)))))
def chattellaw01_NatBits.f (k : Nat) (l0 : List Int) (l1 : List Int) : Option (Bool) := (chattellaw01_cut.f l0).bind fun t329 => ((nat_Of.f k t329).bind fun t332 => ((chattellaw01_cut.f l1).bind fun t335 => ((nat_Of.f k t335).bind fun t338 => ((nat_Nat_Zero.f t332).bind fun t343 => (if t343 = true then (chattellaw01_NatBits.j0 k true t332 t338) else ((nat_Nat_Zero.f t338).bind fun t344 => (chattellaw01_NatBits.j0 k t344 t332 t338)))))))
theorem chattellaw01_NatBits.mono_l : ∀ k, (∀ y0 y1 y2, LeO (chattellaw01_NatBits.j0 k y0 y1 y2) (chattellaw01_NatBits.j0 (k + 1) y0 y1 y2))
  | 0 => fun _ _ _ r h => by simp [chattellaw01_NatBits.j0] at h
  | k + 1 => by
    have ih0 := chattellaw01_NatBits.mono_l k
    · intro y0 y1 y2
      unfold chattellaw01_NatBits.j0
      repeat' first
      | (with_reducible exact ih0 _ _ _)
      | (with_reducible exact chattellaw01_wakes.mono _)
      | (with_reducible exact nat_Nat_Add.mono _ _ _)
      | (with_reducible exact nat_Nat_Bits.mono _ _)
      | (with_reducible exact nat_Nat_Cmp.mono _ _ _)
      | (with_reducible exact nat_Nat_Mul.mono _ _ _)
      | (with_reducible exact nat_Of.mono _ _)
      | (with_reducible exact LeO.refl _)
      | (with_reducible exact LeO.none _)
      | (with_reducible refine LeO.ite ?_ ?_)
      | (with_reducible refine LeO.bind ?_ (fun _ => ?_))
      | exact ih0 _ _ _
      | exact chattellaw01_wakes.mono _
      | exact nat_Nat_Add.mono _ _ _
      | exact nat_Nat_Bits.mono _ _
      | exact nat_Nat_Cmp.mono _ _ _
      | exact nat_Nat_Mul.mono _ _ _
      | exact nat_Of.mono _ _
      | exact LeO.none _
      | refine LeO.ite ?_ ?_
      | refine LeO.bind ?_ (fun _ => ?_)
theorem chattellaw01_NatBits.mono : ∀ a0 a1 k, LeO (chattellaw01_NatBits.f k a0 a1) (chattellaw01_NatBits.f (k + 1) a0 a1) := by
  intro a0 a1 k
  have ih0 := chattellaw01_NatBits.mono_l k
  unfold chattellaw01_NatBits.f
  repeat' first
      | (with_reducible exact ih0 _ _ _)
      | (with_reducible exact chattellaw01_wakes.mono _)
      | (with_reducible exact nat_Nat_Add.mono _ _ _)
      | (with_reducible exact nat_Nat_Bits.mono _ _)
      | (with_reducible exact nat_Nat_Cmp.mono _ _ _)
      | (with_reducible exact nat_Nat_Mul.mono _ _ _)
      | (with_reducible exact nat_Of.mono _ _)
      | (with_reducible exact LeO.refl _)
      | (with_reducible exact LeO.none _)
      | (with_reducible refine LeO.ite ?_ ?_)
      | (with_reducible refine LeO.bind ?_ (fun _ => ?_))
      | exact ih0 _ _ _
      | exact chattellaw01_wakes.mono _
      | exact nat_Nat_Add.mono _ _ _
      | exact nat_Nat_Bits.mono _ _
      | exact nat_Nat_Cmp.mono _ _ _
      | exact nat_Nat_Mul.mono _ _ _
      | exact nat_Of.mono _ _
      | exact LeO.none _
      | refine LeO.ite ?_ ?_
      | refine LeO.bind ?_ (fun _ => ?_)
def chattellaw01_NatBits.T5 : Bool × List (List Nat × List Nat) := (true, [([], []), ([0, 0], [0]), ([1], [1]), ([1], [1]), ([3, 1, 1], [1, 3]), ([1], [1]), ([5, 4, 1], [1, 5]), ([4, 6, 1], [1, 4, 6]), ([2, 7, 1], [1, 2, 7]), ([8, 6, 1], [1, 8]), ([9], [9]), ([9], [9]), ([11, 9, 9], [9, 11]), ([9], [9]), ([13, 12, 9], [9, 13]), ([12, 14, 9], [9, 12, 14]), ([15, 9], [9, 15]), ([10, 16, 9], [9, 10, 16]), ([9, 17, 1], [1, 9, 17]), ([1, 18], [1, 18]), ([19, 14], [19]), ([20], [20]), ([20], [20]), ([21, 22, 20, 20], [20, 21, 22]), ([23, 23, 20], [20, 23]), ([20], [20]), ([25, 24, 20], [20, 25]), ([26, 20], [20, 26]), ([24, 27, 20], [20, 24, 27]), ([20, 28], [20, 28]), ([29, 26], [29]), ([30], [30]), ([30], [30]), ([31, 32, 30, 30], [30, 31, 32]), ([33, 30], [30, 33]), ([34, 33, 30], [30, 34]), ([35], [35]), ([36, 35, 35], [35, 36]), ([35], [35]), ([38, 37, 35], [35, 38]), ([37, 39, 35], [35, 37, 39]), ([35, 40, 30], [30, 35, 40]), ([30, 41], [30, 41]), ([42, 39, 0, 1, 2, 3, 4, 5, 6, 7, 8, 9, 10, 11, 12, 13, 14, 15, 16, 17, 18, 19, 20, 21, 22, 23, 24, 25, 26, 27, 28, 29, 30, 31, 32, 33, 34, 35, 36, 37, 38, 39, 40, 41, 42], [42])])
def chattellaw01_NatBits.B5 : List Nat := [0, 1, 3, 3, 11, 3, 59, 123, 255, 511, 1023, 1023, 3071, 1023, 15359, 31743, 64511, 131071, 262143, 524287, 1048575, 2097151, 2097151, 8388607, 16777215, 2097151, 67108863, 134217727, 268435455, 536870911, 1073741823, 2147483647, 2147483647, 8589934591, 17179869183, 34359738367, 68719476735, 137438953471, 68719476735, 549755813887, 1099511627775, 2199023255551, 4398046511103, 8796093022207]
theorem chattellaw01_NatBits.tab5 : rtab .any (opsOf Try.f4 5) = chattellaw01_NatBits.T5 := by kernel_rfl
theorem chattellaw01_NatBits.bits5 : waitsOk chattellaw01_NatBits.T5.2 chattellaw01_NatBits.B5 = true := by kernel_rfl
set_option maxHeartbeats 8000000 in
set_option maxRecDepth 100000 in
theorem chattellaw01_NatBits.calls (k : Nat) (A0 : Option Addr) (c0 : Nat) (l0 : List Int) (A1 : Option Addr) (c1 : Nat) (l1 : List Int) (r : Bool) (w : World) (hr0 : Kd.C (Kd.int .u64) w A0 l0.length l0) (hc0 : l0.length ≤ c0) (hr1 : Kd.C (Kd.int .u64) w A1 l1.length l1) (hc1 : l1.length ≤ c1) (h : chattellaw01_NatBits.f k l0 l1 = some r) (ht_ : r = true) :
    Calls Try.prog 4 #[.slice A0 l0.length c0, .slice A1 l1.length c1] w fun e w' => e = .returned (.bool r) ∧ Below w.heap.size w w' := by
  have hu25 := Try.underlying25
  have HR0 := Aside0.mk hr0
  have HC0 := Aside0.mk hc0
  clear hr0 hc0
  have HR1 := Aside0.mk hr1
  have HC1 := Aside0.mk hc1
  clear hr1 hc1
  have HB := Aside0.mk (Below.refl w.heap.size w)
  have H : ((chattellaw01_cut.f l0).bind fun t329 => ((nat_Of.f k t329).bind fun t332 => ((chattellaw01_cut.f l1).bind fun t335 => ((nat_Of.f k t335).bind fun t338 => ((nat_Nat_Zero.f t332).bind fun t343 => (if t343 = true then (chattellaw01_NatBits.j0 k true t332 t338) else ((nat_Nat_Zero.f t338).bind fun t344 => (chattellaw01_NatBits.j0 k t344 t332 t338)))))))) = some r := h
  clear h
  replace H := Option.bind_eq_some_iff.mp H
  obtain ⟨t329, A30, H⟩ := H
  replace H : ((nat_Of.f k t329).bind fun t332 => ((chattellaw01_cut.f l1).bind fun t335 => ((nat_Of.f k t335).bind fun t338 => ((nat_Nat_Zero.f t332).bind fun t343 => (if t343 = true then (chattellaw01_NatBits.j0 k true t332 t338) else ((nat_Nat_Zero.f t338).bind fun t344 => (chattellaw01_NatBits.j0 k t344 t332 t338))))))) = some r := H
  have A3 := Aside0.mk A30
  clear A30
  replace H := Option.bind_eq_some_iff.mp H
  obtain ⟨t332, A40, H⟩ := H
  replace H : ((chattellaw01_cut.f l1).bind fun t335 => ((nat_Of.f k t335).bind fun t338 => ((nat_Nat_Zero.f t332).bind fun t343 => (if t343 = true then (chattellaw01_NatBits.j0 k true t332 t338) else ((nat_Nat_Zero.f t338).bind fun t344 => (chattellaw01_NatBits.j0 k t344 t332 t338)))))) = some r := H
  have A4 := Aside0.mk A40
  clear A40
  replace H := Option.bind_eq_some_iff.mp H
  obtain ⟨t335, A50, H⟩ := H
  replace H : ((nat_Of.f k t335).bind fun t338 => ((nat_Nat_Zero.f t332).bind fun t343 => (if t343 = true then (chattellaw01_NatBits.j0 k true t332 t338) else ((nat_Nat_Zero.f t338).bind fun t344 => (chattellaw01_NatBits.j0 k t344 t332 t338))))) = some r := H
  have A5 := Aside0.mk A50
  clear A50
  replace H := Option.bind_eq_some_iff.mp H
  obtain ⟨t338, A60, H⟩ := H
  replace H : ((nat_Nat_Zero.f t332).bind fun t343 => (if t343 = true then (chattellaw01_NatBits.j0 k true t332 t338) else ((nat_Nat_Zero.f t338).bind fun t344 => (chattellaw01_NatBits.j0 k t344 t332 t338)))) = some r := H
  have A6 := Aside0.mk A60
  clear A60
  have HC7 := Aside0.mk H
  clear H
  go_enter Try.func4, Try.ntmps4
  go_upto_region 2 with (first | ((with_reducible refine gate_callee (f := 13) rfl ?_); refine goesL_ (some 9) rfl rfl Try.func13 (by kernel_rfl) rfl #[.slice A0 l0.length c0] rfl (by (try simp only [List.map_toArray, List.map_cons, List.map_nil]); first | done | rfl | (simp only [List.length_drop, List.length_take]; rfl)) ?_; (with_reducible refine (chattellaw01_cut.calls (fun k_ => k_ < w.heap.size) _ _ l0 t329 _ ?side1 A3.out).mono ?_); (case side1 => exact Kd.V_mk HC0.out (Kd.F_below (Kd.C_F (Kd.heap_int .u64) HR0.out) (by repeat (first | (with_reducible first | exact HB.out | apply below_alloc | apply pw_below_drewN | apply below_drew1) | exact HB.out)))); rintro e w8 ⟨v330, rfl, ho0, hb⟩; refine ⟨_, rfl, ?_⟩; have HO331 := Aside0.mk (Kd.V_lower (Kd.V_mono (ok' := fun k_ => True) ho0 (fun k_ hk_ => trivial)) (below_size (by repeat (first | (with_reducible first | exact HB.out | apply below_alloc | apply pw_below_drewN | apply below_drew1) | exact HB.out)))); replace HB := Aside0.mk (below_step (by repeat (first | (with_reducible first | exact HB.out | apply below_alloc | apply pw_below_drewN | apply below_drew1) | exact HB.out)) hb); (try clear hb); (try clear hb2); (try clear hk); (try clear hi); (try clear ho0); obtain ⟨Ao9, co9, eo9⟩ := Kd.V_slice HO331.out; subst eo9) | ((with_reducible refine gate_callee (f := 14) rfl ?_); refine goesL_ (some 10) rfl rfl Try.func14 (by kernel_rfl) rfl #[.slice Ao9 t329.length co9] rfl (by (try simp only [List.map_toArray, List.map_cons, List.map_nil]); first | done | rfl | (simp only [List.length_drop, List.length_take]; rfl)) ?_; (with_reducible refine (nat_Of.calls k _ _ t329 t332 _ ?side1 ?side2 A4.out).mono ?_); (case side1 => exact cv HO331.out); (case side2 => exact (Kd.V_reads' HO331.out).2.1); rintro e w10 ⟨v333, rfl, ho0, hb⟩; refine ⟨_, rfl, ?_⟩; replace HO331 := Aside0.mk (vb HO331.out hb); have HO334 := Aside0.mk (Kd.V_lower (Kd.V_mono (ok' := fun k_ => True) ho0 (fun k_ hk_ => trivial)) (bz HB.out)); replace HB := Aside0.mk (bs HB.out hb); (try clear hb); (try clear hb2); (try clear hk); (try clear hi); (try clear ho0)) | ((with_reducible refine gate_callee (f := 13) rfl ?_); refine goesL_ (some 12) rfl rfl Try.func13 (by kernel_rfl) rfl #[.slice A1 l1.length c1] rfl (by (try simp only [List.map_toArray, List.map_cons, List.map_nil]); first | done | rfl | (simp only [List.length_drop, List.length_take]; rfl)) ?_; (with_reducible refine (chattellaw01_cut.calls (fun k_ => k_ < w.heap.size) _ _ l1 t335 _ ?side1 A5.out).mono ?_); (case side1 => exact Kd.V_mk HC1.out (Kd.F_below (Kd.C_F (Kd.heap_int .u64) HR1.out) (by repeat (first | (with_reducible first | exact HB.out | apply below_alloc | apply pw_below_drewN | apply below_drew1) | exact HB.out)))); rintro e w11 ⟨v336, rfl, ho0, hb⟩; refine ⟨_, rfl, ?_⟩; replace HO331 := Aside0.mk (vb HO331.out hb); replace HO334 := Aside0.mk (vb HO334.out hb); have HO337 := Aside0.mk (Kd.V_lower (Kd.V_mono (ok' := fun k_ => True) ho0 (fun k_ hk_ => trivial)) (bz HB.out)); replace HB := Aside0.mk (bs HB.out hb); (try clear hb); (try clear hb2); (try clear hk); (try clear hi); (try clear ho0); obtain ⟨Ao12, co12, eo12⟩ := Kd.V_slice HO337.out; subst eo12) | ((with_reducible refine gate_callee (f := 14) rfl ?_); refine goesL_ (some 13) rfl rfl Try.func14 (by kernel_rfl) rfl #[.slice Ao12 t335.length co12] rfl (by (try simp only [List.map_toArray, List.map_cons, List.map_nil]); first | done | rfl | (simp only [List.length_drop, List.length_take]; rfl)) ?_; (with_reducible refine (nat_Of.calls k _ _ t335 t338 _ ?side1 ?side2 A6.out).mono ?_); (case side1 => exact cv HO337.out); (case side2 => exact (Kd.V_reads' HO337.out).2.1); rintro e w13 ⟨v339, rfl, ho0, hb⟩; refine ⟨_, rfl, ?_⟩; replace HO331 := Aside0.mk (vb HO331.out hb); replace HO334 := Aside0.mk (vb HO334.out hb); replace HO337 := Aside0.mk (vb HO337.out hb); have HO340 := Aside0.mk (Kd.V_lower (Kd.V_mono (ok' := fun k_ => True) ho0 (fun k_ hk_ => trivial)) (bz HB.out)); replace HB := Aside0.mk (bs HB.out hb); (try clear hb); (try clear hb2); (try clear hk); (try clear hi); (try clear ho0)) | ((with_reducible refine gate_dst (N := 5) rfl ?_); refine box_event ?hg (N := 5) ?hd (cs := #[.slice none 0 0]) (t := 25) ?hr ?_; (case hd => rfl); (case hg => rfl); (case hr => first | (go_simp; done) | (go_simp; rfl)); intro gb341 hg w14 hbox hb; have n0_ := Aside0.mk (Kd.V_below (Kd.V_elderB (by (with_reducible repeat (first | apply Kd.V_alloc | apply Kd.V_drewN | apply Kd.V_drew)); exact HO331.out) gb341 (Nat.le_of_eq hg.symm)) hb); have n1_ := Aside0.mk (Kd.V_below (Kd.V_elderB (by (with_reducible repeat (first | apply Kd.V_alloc | apply Kd.V_drewN | apply Kd.V_drew)); exact HO334.out) gb341 (Nat.le_of_eq hg.symm)) hb); have n2_ := Aside0.mk (Kd.V_below (Kd.V_elderB (by (with_reducible repeat (first | apply Kd.V_alloc | apply Kd.V_drewN | apply Kd.V_drew)); exact HO337.out) gb341 (Nat.le_of_eq hg.symm)) hb); have n3_ := Aside0.mk (Kd.V_below (Kd.V_elderB (by (with_reducible repeat (first | apply Kd.V_alloc | apply Kd.V_drewN | apply Kd.V_drew)); exact HO340.out) gb341 (Nat.le_of_eq hg.symm)) hb); have n4_ := Aside0.mk (below_step (by repeat (first | (with_reducible first | exact HB.out | apply below_alloc | apply pw_below_drewN | apply below_drew1) | exact HB.out)) hb); have n5_ := Aside0.mk (hbox); have n6_ := Aside0.mk ((by rw [hg]; exact (below_size (by repeat (first | (with_reducible first | exact HB.out | apply below_alloc | apply pw_below_drewN | apply below_drew1) | exact HB.out))) : w.heap.size ≤ gb341)); have n7_ := Aside0.mk ((by rw [hg]; exact (below_size (by repeat (first | (with_reducible first | exact HB.out | apply below_alloc | apply pw_below_drewN | apply below_drew1) | exact HB.out))) : w.heap.size ≤ gb341)); clear HO331; clear HO334; clear HO337; clear HO340; clear HB; have HO331 := n0_; have HO334 := n1_; have HO337 := n2_; have HO340 := n3_; have HB := n4_; have BK341 := n5_; have GW341 := n6_; have GE341 := n7_; clear n0_ n1_ n2_ n3_ n4_ n5_ n6_ n7_; clear hb hbox hg) | ((with_reducible refine gate_dst (N := 6) rfl ?_); refine box_event ?hg (N := 6) ?hd (cs := #[.slice none 0 0]) (t := 25) ?hr ?_; (case hd => rfl); (case hg => rfl); (case hr => first | (go_simp; done) | (go_simp; rfl)); intro gb342 hg w15 hbox hb; have n0_ := Aside0.mk (Kd.V_below (Kd.V_elderB (by (with_reducible repeat (first | apply Kd.V_alloc | apply Kd.V_drewN | apply Kd.V_drew)); exact HO331.out) gb342 (Nat.le_of_eq hg.symm)) hb); have n1_ := Aside0.mk (Kd.V_below (Kd.V_elderB (by (with_reducible repeat (first | apply Kd.V_alloc | apply Kd.V_drewN | apply Kd.V_drew)); exact HO334.out) gb342 (Nat.le_of_eq hg.symm)) hb); have n2_ := Aside0.mk (Kd.V_below (Kd.V_elderB (by (with_reducible repeat (first | apply Kd.V_alloc | apply Kd.V_drewN | apply Kd.V_drew)); exact HO337.out) gb342 (Nat.le_of_eq hg.symm)) hb); have n3_ := Aside0.mk (Kd.V_below (Kd.V_elderB (by (with_reducible repeat (first | apply Kd.V_alloc | apply Kd.V_drewN | apply Kd.V_drew)); exact HO340.out) gb342 (Nat.le_of_eq hg.symm)) hb); have n4_ := Aside0.mk (bb BK341.out hb); have n5_ := Aside0.mk (bs HB.out hb); have n6_ := Aside0.mk (hbox); have n7_ := Aside0.mk ((by rw [hg]; exact (bz HB.out) : w.heap.size ≤ gb342)); have n8_ := Aside0.mk ((by rw [hg]; exact (bz HB.out) : w.heap.size ≤ gb342)); have n9_ := Aside0.mk ((by rw [hg]; exact Nat.ne_of_lt (blk_lt (g := gb341) (o := .cells #[.slice none 0 0] 25 (0, 0)) (by (with_reducible repeat (first | refine blk_drewN ?_ _ | refine blk_drew ?_ | refine blk_alloc ?_ _)); exact BK341.out)) : gb341 ≠ gb342)); have n10_ := Aside0.mk ((by rw [hg]; exact Nat.ne_of_gt (blk_lt (g := gb341) (o := .cells #[.slice none 0 0] 25 (0, 0)) (by (with_reducible repeat (first | refine blk_drewN ?_ _ | refine blk_drew ?_ | refine blk_alloc ?_ _)); exact BK341.out)) : gb342 ≠ gb341)); clear HO331; clear HO334; clear HO337; clear HO340; clear BK341; clear HB; have HO331 := n0_; have HO334 := n1_; have HO337 := n2_; have HO340 := n3_; have BK341 := n4_; have HB := n5_; have BK342 := n6_; have GW342 := n7_; have GE342 := n8_; have NB341_342 := n9_; have NB342_341 := n10_; clear n0_ n1_ n2_ n3_ n4_ n5_ n6_ n7_ n8_ n9_ n10_; clear hb hbox hg; obtain ⟨Ao16, co16, eo16⟩ := Kd.V_slice HO334.out; subst eo16; have hnb17 := NB341_342.out; have hnc17 := NB342_341.out; have hcz18_0 : w15.cell? ⟨gb341, 0, none⟩ = some (.slice none 0 0) := (blk_cell BK341.out 0).trans rfl; have hfz18_0 := blk_frozen BK341.out 0; obtain ⟨Ao19, co19, eo19⟩ := Kd.V_slice HO340.out; subst eo19; have hcz20_0 : w15.cell? ⟨gb342, 0, none⟩ = some (.slice none 0 0) := (blk_cell BK342.out 0).trans rfl; have hfz20_0 := blk_frozen BK342.out 0))
  (try simp only [Act.put, List.setIfInBounds_toArray, List.set_cons_zero, List.set_cons_succ])
  go_cut [19] (fun v19 wc => ∃ (kq : Nat) (x19_6 : Bool), v19 = .bool x19_6 ∧ Aside0 (chattellaw01_NatBits.j0 kq x19_6 t332 t338 = some r) ∧ Aside0 (kq ≤ k) ∧ Aside0 (Kd.V (Kd.int .u64) 27 wc w.heap.size (fun k_ => k_ ≠ gb341 ∧ k_ ≠ gb342) (.slice Ao16 t332.length co16) t332) ∧ Aside0 (Kd.V (Kd.int .u64) 27 wc w.heap.size (fun k_ => k_ ≠ gb341 ∧ k_ ≠ gb342) (.slice Ao19 t338.length co19) t338) ∧ Aside0 (wc.heap[gb341]? = some (.cells #[(.slice Ao16 t332.length co16)] 25 (0, 0))) ∧ Aside0 (wc.heap[gb342]? = some (.cells #[(.slice Ao19 t338.length co19)] 25 (0, 0))) ∧ Aside0 (Below w.heap.size w wc))
  case first =>
    have H := HC7.out
    clear HC7
    replace H := Option.bind_eq_some_iff.mp H
    obtain ⟨t343, A210, H⟩ := H
    replace H : (if t343 = true then (chattellaw01_NatBits.j0 k true t332 t338) else ((nat_Nat_Zero.f t338).bind fun t344 => (chattellaw01_NatBits.j0 k t344 t332 t338))) = some r := H
    have A21 := Aside0.mk A210
    clear A210
    by_cases c22 : t343 = true
    · subst c22
      have H1 : (chattellaw01_NatBits.j0 k true t332 t338) = some r := by rw [if_pos rfl] at H; exact H
      clear H
      have H := H1
      clear H1
      have H' := Aside0.mk H
      clear H
      have hnb23 := NB341_342.out
      have hnc23 := NB342_341.out
      have hcz24_0 : w15.cell? ⟨gb341, 0, none⟩ = some (.slice none 0 0) := (blk_cell BK341.out 0).trans rfl
      have hfz24_0 := blk_frozen BK341.out 0
      go_wp2_with (first | ((with_reducible refine gate_callee (f := 18) rfl ?_); refine goesL_ (some 15) rfl rfl Try.func18 (by kernel_rfl) rfl #[.agg #[.slice Ao16 t332.length co16]] rfl (by (try simp only [List.map_toArray, List.map_cons, List.map_nil]); first | done | rfl | (simp only [List.length_drop, List.length_take]; rfl)) ?_; (with_reducible refine (nat_Nat_Zero.calls _ _ t332 true _ ?side1 ?side2 A21.out).mono ?_); (case side1 => refine (Kd.V_reads' (e := 27) (base := w.heap.size) (ok := fun k_ => ((True ∧ k_ ≠ gb341) ∧ k_ ≠ gb342)) (n := t332.length) (c := co16) ?_).2.2; exact (by (with_reducible repeat (first | apply Kd.V_alloc | apply Kd.V_drewN | apply Kd.V_drew)); exact (Kd.V_mono (Kd.V_mono (Kd.V_far (p := ⟨gb342, 0, none⟩) (Kd.V_far (p := ⟨gb341, 0, none⟩) (Kd.V_mono (Kd.V_mono HO334.out (fun k_ hk => (⟨hk, hk.1.2⟩ : _ ∧ k_ ≠ gb341))) (fun k_ hk => (⟨hk, hk.1.2⟩ : _ ∧ k_ ≠ gb342))) (fun _ hk => hk.1.2) (.slice Ao16 t332.length co16)) (fun _ hk => hk.2) (.slice Ao19 t338.length co19)) (fun _ h_ => h_.1)) (fun _ h_ => h_.1)))); (case side2 => exact (Kd.V_reads' HO334.out).2.1); rintro e w25 ⟨rfl, hb⟩; refine ⟨_, rfl, ?_⟩; replace HO331 := Aside0.mk (Kd.V_below (by (with_reducible repeat (first | apply Kd.V_alloc | apply Kd.V_drewN | apply Kd.V_drew)); exact (Kd.V_mono (Kd.V_mono (Kd.V_far (p := ⟨gb342, 0, none⟩) (Kd.V_far (p := ⟨gb341, 0, none⟩) (Kd.V_mono (Kd.V_mono HO331.out (fun k_ hk => (⟨hk, hk.1.2⟩ : _ ∧ k_ ≠ gb341))) (fun k_ hk => (⟨hk, hk.1.2⟩ : _ ∧ k_ ≠ gb342))) (fun _ hk => hk.1.2) (.slice Ao16 t332.length co16)) (fun _ hk => hk.2) (.slice Ao19 t338.length co19)) (fun _ h_ => h_.1)) (fun _ h_ => h_.1))) hb); replace HO334 := Aside0.mk (Kd.V_below (by (with_reducible repeat (first | apply Kd.V_alloc | apply Kd.V_drewN | apply Kd.V_drew)); exact (Kd.V_mono (Kd.V_mono (Kd.V_far (p := ⟨gb342, 0, none⟩) (Kd.V_far (p := ⟨gb341, 0, none⟩) (Kd.V_mono (Kd.V_mono HO334.out (fun k_ hk => (⟨hk, hk.1.2⟩ : _ ∧ k_ ≠ gb341))) (fun k_ hk => (⟨hk, hk.1.2⟩ : _ ∧ k_ ≠ gb342))) (fun _ hk => hk.1.2) (.slice Ao16 t332.length co16)) (fun _ hk => hk.2) (.slice Ao19 t338.length co19)) (fun _ h_ => h_.1)) (fun _ h_ => h_.1))) hb); replace HO337 := Aside0.mk (Kd.V_below (by (with_reducible repeat (first | apply Kd.V_alloc | apply Kd.V_drewN | apply Kd.V_drew)); exact (Kd.V_mono (Kd.V_mono (Kd.V_far (p := ⟨gb342, 0, none⟩) (Kd.V_far (p := ⟨gb341, 0, none⟩) (Kd.V_mono (Kd.V_mono HO337.out (fun k_ hk => (⟨hk, hk.1.2⟩ : _ ∧ k_ ≠ gb341))) (fun k_ hk => (⟨hk, hk.1.2⟩ : _ ∧ k_ ≠ gb342))) (fun _ hk => hk.1.2) (.slice Ao16 t332.length co16)) (fun _ hk => hk.2) (.slice Ao19 t338.length co19)) (fun _ h_ => h_.1)) (fun _ h_ => h_.1))) hb); replace HO340 := Aside0.mk (Kd.V_below (by (with_reducible repeat (first | apply Kd.V_alloc | apply Kd.V_drewN | apply Kd.V_drew)); exact (Kd.V_mono (Kd.V_mono (Kd.V_far (p := ⟨gb342, 0, none⟩) (Kd.V_far (p := ⟨gb341, 0, none⟩) (Kd.V_mono (Kd.V_mono HO340.out (fun k_ hk => (⟨hk, hk.1.2⟩ : _ ∧ k_ ≠ gb341))) (fun k_ hk => (⟨hk, hk.1.2⟩ : _ ∧ k_ ≠ gb342))) (fun _ hk => hk.1.2) (.slice Ao16 t332.length co16)) (fun _ hk => hk.2) (.slice Ao19 t338.length co19)) (fun _ h_ => h_.1)) (fun _ h_ => h_.1))) hb); replace BK341 := Aside0.mk (blk_below (g := gb341) (o := .cells #[.slice Ao16 t332.length co16] 25 (0, 0)) (by (with_reducible repeat (first | refine blk_drewN ?_ _ | refine blk_drew ?_ | refine blk_alloc ?_ _)); refine blk_far ?_ NB341_342.out _; (with_reducible repeat (first | refine blk_drewN ?_ _ | refine blk_drew ?_ | refine blk_alloc ?_ _)); refine blk_put (cs := #[.slice none 0 0]) ?_ 0 _ rfl; (with_reducible repeat (first | refine blk_drewN ?_ _ | refine blk_drew ?_ | refine blk_alloc ?_ _)); exact BK341.out) hb); replace BK342 := Aside0.mk (blk_below (g := gb342) (o := .cells #[.slice Ao19 t338.length co19] 25 (0, 0)) (by (with_reducible repeat (first | refine blk_drewN ?_ _ | refine blk_drew ?_ | refine blk_alloc ?_ _)); refine blk_put (cs := #[.slice none 0 0]) ?_ 0 _ rfl; (with_reducible repeat (first | refine blk_drewN ?_ _ | refine blk_drew ?_ | refine blk_alloc ?_ _)); refine blk_far ?_ NB342_341.out _; (with_reducible repeat (first | refine blk_drewN ?_ _ | refine blk_drew ?_ | refine blk_alloc ?_ _)); exact BK342.out) hb); replace HB := Aside0.mk (below_step (by repeat (first | (with_reducible first | exact HB.out | apply below_alloc | apply pw_below_drewN | apply below_drew1 | refine below_set ?_ GE341.out | refine below_set ?_ GE342.out) | exact HB.out)) hb); (try clear hb); (try clear hb2); (try clear hk); (try clear hi)))
      go_meet
      case rel => exact ⟨_, (true), (by first | rfl | (simp; done) | (simp [*]; done)), H', ⟨by first | omega | exact Nat.le_refl _⟩, ⟨by (with_reducible repeat (first | apply Kd.V_alloc | apply Kd.V_drewN | apply Kd.V_drew)); exact Kd.V_mono HO334.out (fun _ hk => ⟨hk.1.2, hk.2⟩)⟩, ⟨by (with_reducible repeat (first | apply Kd.V_alloc | apply Kd.V_drewN | apply Kd.V_drew)); exact Kd.V_mono HO340.out (fun _ hk => ⟨hk.1.2, hk.2⟩)⟩, ⟨by (with_reducible repeat (first | refine blk_drewN ?_ _ | refine blk_drew ?_ | refine blk_alloc ?_ _)); exact BK341.out⟩, ⟨by (with_reducible repeat (first | refine blk_drewN ?_ _ | refine blk_drew ?_ | refine blk_alloc ?_ _)); exact BK342.out⟩, ⟨by repeat (first | (with_reducible first | exact HB.out | apply below_alloc | apply pw_below_drewN | apply below_drew1 | refine below_set ?_ GE341.out | refine below_set ?_ GE342.out) | exact HB.out)⟩⟩
    · replace c22 := Bool.eq_false_iff.mpr c22
      subst c22
      have H1 : ((nat_Nat_Zero.f t338).bind fun t344 => (chattellaw01_NatBits.j0 k t344 t332 t338)) = some r := by rw [if_neg (show ¬ (false = true) by decide)] at H; exact H
      clear H
      have H := H1
      clear H1
      replace H := Option.bind_eq_some_iff.mp H
      obtain ⟨t344, A260, H⟩ := H
      replace H : (chattellaw01_NatBits.j0 k t344 t332 t338) = some r := H
      have A26 := Aside0.mk A260
      clear A260
      have H' := Aside0.mk H
      clear H
      have hnb27 := NB341_342.out
      have hnc27 := NB342_341.out
      have hcz28_0 : w15.cell? ⟨gb341, 0, none⟩ = some (.slice none 0 0) := (blk_cell BK341.out 0).trans rfl
      have hfz28_0 := blk_frozen BK341.out 0
      go_wp2_with (first | ((with_reducible refine gate_callee (f := 18) rfl ?_); refine goesL_ (some 15) rfl rfl Try.func18 (by kernel_rfl) rfl #[.agg #[.slice Ao16 t332.length co16]] rfl (by (try simp only [List.map_toArray, List.map_cons, List.map_nil]); first | done | rfl | (simp only [List.length_drop, List.length_take]; rfl)) ?_; (with_reducible refine (nat_Nat_Zero.calls _ _ t332 false _ ?side1 ?side2 A21.out).mono ?_); (case side1 => refine (Kd.V_reads' (e := 27) (base := w.heap.size) (ok := fun k_ => ((True ∧ k_ ≠ gb341) ∧ k_ ≠ gb342)) (n := t332.length) (c := co16) ?_).2.2; exact (by (with_reducible repeat (first | apply Kd.V_alloc | apply Kd.V_drewN | apply Kd.V_drew)); exact (Kd.V_mono (Kd.V_mono (Kd.V_far (p := ⟨gb342, 0, none⟩) (Kd.V_far (p := ⟨gb341, 0, none⟩) (Kd.V_mono (Kd.V_mono HO334.out (fun k_ hk => (⟨hk, hk.1.2⟩ : _ ∧ k_ ≠ gb341))) (fun k_ hk => (⟨hk, hk.1.2⟩ : _ ∧ k_ ≠ gb342))) (fun _ hk => hk.1.2) (.slice Ao16 t332.length co16)) (fun _ hk => hk.2) (.slice Ao19 t338.length co19)) (fun _ h_ => h_.1)) (fun _ h_ => h_.1)))); (case side2 => exact (Kd.V_reads' HO334.out).2.1); rintro e w29 ⟨rfl, hb⟩; refine ⟨_, rfl, ?_⟩; replace HO331 := Aside0.mk (Kd.V_below (by (with_reducible repeat (first | apply Kd.V_alloc | apply Kd.V_drewN | apply Kd.V_drew)); exact (Kd.V_mono (Kd.V_mono (Kd.V_far (p := ⟨gb342, 0, none⟩) (Kd.V_far (p := ⟨gb341, 0, none⟩) (Kd.V_mono (Kd.V_mono HO331.out (fun k_ hk => (⟨hk, hk.1.2⟩ : _ ∧ k_ ≠ gb341))) (fun k_ hk => (⟨hk, hk.1.2⟩ : _ ∧ k_ ≠ gb342))) (fun _ hk => hk.1.2) (.slice Ao16 t332.length co16)) (fun _ hk => hk.2) (.slice Ao19 t338.length co19)) (fun _ h_ => h_.1)) (fun _ h_ => h_.1))) hb); replace HO334 := Aside0.mk (Kd.V_below (by (with_reducible repeat (first | apply Kd.V_alloc | apply Kd.V_drewN | apply Kd.V_drew)); exact (Kd.V_mono (Kd.V_mono (Kd.V_far (p := ⟨gb342, 0, none⟩) (Kd.V_far (p := ⟨gb341, 0, none⟩) (Kd.V_mono (Kd.V_mono HO334.out (fun k_ hk => (⟨hk, hk.1.2⟩ : _ ∧ k_ ≠ gb341))) (fun k_ hk => (⟨hk, hk.1.2⟩ : _ ∧ k_ ≠ gb342))) (fun _ hk => hk.1.2) (.slice Ao16 t332.length co16)) (fun _ hk => hk.2) (.slice Ao19 t338.length co19)) (fun _ h_ => h_.1)) (fun _ h_ => h_.1))) hb); replace HO337 := Aside0.mk (Kd.V_below (by (with_reducible repeat (first | apply Kd.V_alloc | apply Kd.V_drewN | apply Kd.V_drew)); exact (Kd.V_mono (Kd.V_mono (Kd.V_far (p := ⟨gb342, 0, none⟩) (Kd.V_far (p := ⟨gb341, 0, none⟩) (Kd.V_mono (Kd.V_mono HO337.out (fun k_ hk => (⟨hk, hk.1.2⟩ : _ ∧ k_ ≠ gb341))) (fun k_ hk => (⟨hk, hk.1.2⟩ : _ ∧ k_ ≠ gb342))) (fun _ hk => hk.1.2) (.slice Ao16 t332.length co16)) (fun _ hk => hk.2) (.slice Ao19 t338.length co19)) (fun _ h_ => h_.1)) (fun _ h_ => h_.1))) hb); replace HO340 := Aside0.mk (Kd.V_below (by (with_reducible repeat (first | apply Kd.V_alloc | apply Kd.V_drewN | apply Kd.V_drew)); exact (Kd.V_mono (Kd.V_mono (Kd.V_far (p := ⟨gb342, 0, none⟩) (Kd.V_far (p := ⟨gb341, 0, none⟩) (Kd.V_mono (Kd.V_mono HO340.out (fun k_ hk => (⟨hk, hk.1.2⟩ : _ ∧ k_ ≠ gb341))) (fun k_ hk => (⟨hk, hk.1.2⟩ : _ ∧ k_ ≠ gb342))) (fun _ hk => hk.1.2) (.slice Ao16 t332.length co16)) (fun _ hk => hk.2) (.slice Ao19 t338.length co19)) (fun _ h_ => h_.1)) (fun _ h_ => h_.1))) hb); replace BK341 := Aside0.mk (blk_below (g := gb341) (o := .cells #[.slice Ao16 t332.length co16] 25 (0, 0)) (by (with_reducible repeat (first | refine blk_drewN ?_ _ | refine blk_drew ?_ | refine blk_alloc ?_ _)); refine blk_far ?_ NB341_342.out _; (with_reducible repeat (first | refine blk_drewN ?_ _ | refine blk_drew ?_ | refine blk_alloc ?_ _)); refine blk_put (cs := #[.slice none 0 0]) ?_ 0 _ rfl; (with_reducible repeat (first | refine blk_drewN ?_ _ | refine blk_drew ?_ | refine blk_alloc ?_ _)); exact BK341.out) hb); replace BK342 := Aside0.mk (blk_below (g := gb342) (o := .cells #[.slice Ao19 t338.length co19] 25 (0, 0)) (by (with_reducible repeat (first | refine blk_drewN ?_ _ | refine blk_drew ?_ | refine blk_alloc ?_ _)); refine blk_put (cs := #[.slice none 0 0]) ?_ 0 _ rfl; (with_reducible repeat (first | refine blk_drewN ?_ _ | refine blk_drew ?_ | refine blk_alloc ?_ _)); refine blk_far ?_ NB342_341.out _; (with_reducible repeat (first | refine blk_drewN ?_ _ | refine blk_drew ?_ | refine blk_alloc ?_ _)); exact BK342.out) hb); replace HB := Aside0.mk (below_step (by repeat (first | (with_reducible first | exact HB.out | apply below_alloc | apply pw_below_drewN | apply below_drew1 | refine below_set ?_ GE341.out | refine below_set ?_ GE342.out) | exact HB.out)) hb); (try clear hb); (try clear hb2); (try clear hk); (try clear hi); have hcz30_0 : w29.cell? ⟨gb342, 0, none⟩ = some (.slice Ao19 t338.length co19) := (blk_cell BK342.out 0).trans rfl; have hfz30_0 := blk_frozen BK342.out 0) | (go_at_call 18; (with_reducible refine (nat_Nat_Zero.calls _ _ t338 t344 _ ?side1 ?side2 A26.out).mono ?_); (case side1 => exact cv HO340.out); (case side2 => exact (Kd.V_reads' HO340.out).2.1); rintro e w31 ⟨rfl, hb⟩; replace HO331 := Aside0.mk (vb HO331.out hb); replace HO334 := Aside0.mk (vb HO334.out hb); replace HO337 := Aside0.mk (vb HO337.out hb); replace HO340 := Aside0.mk (vb HO340.out hb); replace BK341 := Aside0.mk (bb BK341.out hb); replace BK342 := Aside0.mk (bb BK342.out hb); replace HB := Aside0.mk (bs HB.out hb); (try clear hb); (try clear hb2); (try clear hk); (try clear hi)))
      go_meet
      case rel => exact ⟨_, (t344), (by first | rfl | (simp; done) | (simp [*]; done)), H', ⟨by first | omega | exact Nat.le_refl _⟩, ⟨by (with_reducible repeat (first | apply Kd.V_alloc | apply Kd.V_drewN | apply Kd.V_drew)); exact Kd.V_mono HO334.out (fun _ hk => ⟨hk.1.2, hk.2⟩)⟩, ⟨by (with_reducible repeat (first | apply Kd.V_alloc | apply Kd.V_drewN | apply Kd.V_drew)); exact Kd.V_mono HO340.out (fun _ hk => ⟨hk.1.2, hk.2⟩)⟩, ⟨by (with_reducible repeat (first | refine blk_drewN ?_ _ | refine blk_drew ?_ | refine blk_alloc ?_ _)); exact BK341.out⟩, ⟨by (with_reducible repeat (first | refine blk_drewN ?_ _ | refine blk_drew ?_ | refine blk_alloc ?_ _)); exact BK342.out⟩, ⟨by repeat (first | (with_reducible first | exact HB.out | apply below_alloc | apply pw_below_drewN | apply below_drew1 | refine below_set ?_ GE341.out | refine below_set ?_ GE342.out) | exact HB.out)⟩⟩
  case rest =>
    clear HC7
    try clear c1
    try clear c2
    try clear p2
    try clear c4
    try clear c13
    try clear c14
    try clear c17
    try clear c18
    try clear c22
    try clear c23
    try clear c27
    try clear hcz18_0
    try clear hcz20_0
    try clear hcz24_0
    try clear hcz28_0
    try clear hcz30_0
    try clear hfz18_0
    try clear hfz20_0
    try clear hfz24_0
    try clear hfz28_0
    try clear hfz30_0
    obtain ⟨kq, x19_6, rfl, HA, HJ6, HO_342000, HO_343000, BK341, BK342, HB⟩ := hcut
    cases kq with
    | zero => exact absurd HA.out (by simp [chattellaw01_NatBits.j0])
    | succ kj6 =>
      have H := HA.out
      clear HA
      simp only [chattellaw01_NatBits.j0] at H
      by_cases c32 : x19_6 = true
      · subst c32
        have H1 : ((chattellaw01_wakes.f kj6).bind fun t345 => (if t345 = true then ((nat_Nat_Mul.f kj6 t332 t338).bind fun t346 => ((nat_Nat_Bits.f kj6 t346).bind fun t349 => (some (t349 == 0)))) else (some false))) = some r := by rw [if_pos rfl] at H; exact H
        clear H
        have H := H1
        clear H1
        replace H := Option.bind_eq_some_iff.mp H
        obtain ⟨t345, A330, H⟩ := H
        replace H : (if t345 = true then ((nat_Nat_Mul.f kj6 t332 t338).bind fun t346 => ((nat_Nat_Bits.f kj6 t346).bind fun t349 => (some (t349 == 0)))) else (some false)) = some r := H
        have A33 := Aside0.mk A330
        clear A330
        by_cases c34 : t345 = true
        · subst c34
          have H1 : ((nat_Nat_Mul.f kj6 t332 t338).bind fun t346 => ((nat_Nat_Bits.f kj6 t346).bind fun t349 => (some (t349 == 0)))) = some r := by rw [if_pos rfl] at H; exact H
          clear H
          have H := H1
          clear H1
          replace H := Option.bind_eq_some_iff.mp H
          obtain ⟨t346, A350, H⟩ := H
          replace H : ((nat_Nat_Bits.f kj6 t346).bind fun t349 => (some (t349 == 0))) = some r := H
          have A35 := Aside0.mk A350
          clear A350
          replace H := Option.bind_eq_some_iff.mp H
          obtain ⟨t349, A360, H⟩ := H
          replace H : (some (t349 == 0)) = some r := H
          have A36 := Aside0.mk A360
          clear A360
          obtain rfl := Option.some.inj H
          go_wp2_with (first | ((with_reducible refine gate_callee (f := 20) rfl ?_); refine goesL_ (some 20) rfl rfl Try.func20 (by kernel_rfl) rfl #[] rfl (by (try simp only [List.map_toArray, List.map_cons, List.map_nil]); first | done | rfl | (simp only [List.length_drop, List.length_take]; rfl)) ?_; (with_reducible refine (chattellaw01_wakes.calls kj6  true _ A33.out).mono ?_); rintro e w37 ⟨rfl, hb⟩; refine ⟨_, rfl, ?_⟩; replace HO_342000 := Aside0.mk (vb HO_342000.out hb); replace HO_343000 := Aside0.mk (vb HO_343000.out hb); replace BK341 := Aside0.mk (bb BK341.out hb); replace BK342 := Aside0.mk (bb BK342.out hb); replace HB := Aside0.mk (bs HB.out hb); (try clear hb); (try clear hb2); (try clear hk); (try clear hi); have hnb38 := NB341_342.out; have hnc38 := NB342_341.out; have hcz39_0 : w37.cell? ⟨gb341, 0, none⟩ = some (.slice Ao16 t332.length co16) := (blk_cell BK341.out 0).trans rfl; have hfz39_0 := blk_frozen BK341.out 0; have hcz40_0 : w37.cell? ⟨gb342, 0, none⟩ = some (.slice Ao19 t338.length co19) := (blk_cell BK342.out 0).trans rfl; have hfz40_0 := blk_frozen BK342.out 0) | (go_at_call 24; (with_reducible refine (nat_Nat_Mul.calls kj6 _ _ t332 _ _ t338 t346 _ ?side1 ?side2 ?side3 ?side4 A35.out).mono ?_); (case side1 => exact cv HO_342000.out); (case side2 => exact (Kd.V_reads' HO_342000.out).2.1); (case side3 => exact cv HO_343000.out); (case side4 => exact (Kd.V_reads' HO_343000.out).2.1); rintro e w41 ⟨v347, rfl, ho0, hb⟩; replace HO_342000 := Aside0.mk (vb HO_342000.out hb); replace HO_343000 := Aside0.mk (vb HO_343000.out hb); have HO348 := Aside0.mk (Kd.V_lower (Kd.V_mono (ok' := fun k_ => k_ ≠ gb341 ∧ k_ ≠ gb342) ho0 (fun k_ hk_ => ⟨(fb BK341.out k_ hk_), (fb BK342.out k_ hk_)⟩)) (bz HB.out)); replace BK341 := Aside0.mk (bb BK341.out hb); replace BK342 := Aside0.mk (bb BK342.out hb); replace HB := Aside0.mk (bs HB.out hb); (try clear hb); (try clear hb2); (try clear hk); (try clear hi); (try clear ho0); obtain ⟨Ao42, co42, eo42⟩ := Kd.V_slice HO348.out; subst eo42) | (go_at_call 19; (with_reducible refine (nat_Nat_Bits.calls kj6 _ _ t346 t349 _ ?side1 ?side2 A36.out).mono ?_); (case side1 => exact cv HO348.out); (case side2 => exact (Kd.V_reads' HO348.out).2.1); rintro e w43 ⟨rfl, hb⟩; replace HO_342000 := Aside0.mk (vb HO_342000.out hb); replace HO_343000 := Aside0.mk (vb HO_343000.out hb); replace HO348 := Aside0.mk (vb HO348.out hb); replace BK341 := Aside0.mk (bb BK341.out hb); replace BK342 := Aside0.mk (bb BK342.out hb); replace HB := Aside0.mk (bs HB.out hb); (try clear hb); (try clear hb2); (try clear hk); (try clear hi)))
          go_ret
          exact ⟨by first | rfl | (simp [errW_none, errW_some] <;> rfl) | (simp [*, errW_none, errW_some] <;> rfl), by repeat (first | (with_reducible first | exact HB.out | apply below_alloc | apply pw_below_drewN | apply below_drew1 | refine below_set ?_ GE341.out | refine below_set ?_ GE342.out) | exact HB.out)⟩
        · replace c34 := Bool.eq_false_iff.mpr c34
          subst c34
          have H1 : (some false) = some r := by rw [if_neg (show ¬ (false = true) by decide)] at H; exact H
          clear H
          have H := H1
          clear H1
          exact absurd (Option.some.inj H) (by rw [ht_]; decide)
      · replace c32 := Bool.eq_false_iff.mpr c32
        subst c32
        have H1 : ((nat_Nat_Mul.f kj6 t332 t338).bind fun t350 => ((nat_Nat_Bits.f kj6 t350).bind fun t353 => ((chattellaw01_wakes.f kj6).bind fun t354 => (if t354 = true then ((nat_Nat_Bits.f kj6 t332).bind fun t355 => ((nat_Nat_Bits.f kj6 t338).bind fun t356 => (if t353 = (wrap64 (t355 + t356)) then ((nat_Nat_Add.f kj6 t332 t332).bind fun t357 => ((nat_Nat_Bits.f kj6 t357).bind fun t360 => ((nat_Nat_Bits.f kj6 t332).bind fun t361 => (if t360 = (wrap64 (t361 + 1)) then ((nat_Nat_Cmp.f kj6 t332 t338).bind fun t362 => (if t362 > 0 then (some true) else ((nat_Nat_Bits.f kj6 t332).bind fun t363 => ((nat_Nat_Bits.f kj6 t338).bind fun t364 => (some (decide (t363 ≤ t364))))))) else (some false))))) else ((nat_Nat_Bits.f kj6 t332).bind fun t365 => ((nat_Nat_Bits.f kj6 t338).bind fun t366 => (if t353 = (wrap64 ((wrap64 (t365 + t366)) - 1)) then ((nat_Nat_Add.f kj6 t332 t332).bind fun t367 => ((nat_Nat_Bits.f kj6 t367).bind fun t370 => ((nat_Nat_Bits.f kj6 t332).bind fun t371 => (if t370 = (wrap64 (t371 + 1)) then ((nat_Nat_Cmp.f kj6 t332 t338).bind fun t372 => (if t372 > 0 then (some true) else ((nat_Nat_Bits.f kj6 t332).bind fun t373 => ((nat_Nat_Bits.f kj6 t338).bind fun t374 => (some (decide (t373 ≤ t374))))))) else (some false))))) else (some false))))))) else (some false))))) = some r := by rw [if_neg (show ¬ (false = true) by decide)] at H; exact H
        clear H
        have H := H1
        clear H1
        replace H := Option.bind_eq_some_iff.mp H
        obtain ⟨t350, A440, H⟩ := H
        replace H : ((nat_Nat_Bits.f kj6 t350).bind fun t353 => ((chattellaw01_wakes.f kj6).bind fun t354 => (if t354 = true then ((nat_Nat_Bits.f kj6 t332).bind fun t355 => ((nat_Nat_Bits.f kj6 t338).bind fun t356 => (if t353 = (wrap64 (t355 + t356)) then ((nat_Nat_Add.f kj6 t332 t332).bind fun t357 => ((nat_Nat_Bits.f kj6 t357).bind fun t360 => ((nat_Nat_Bits.f kj6 t332).bind fun t361 => (if t360 = (wrap64 (t361 + 1)) then ((nat_Nat_Cmp.f kj6 t332 t338).bind fun t362 => (if t362 > 0 then (some true) else ((nat_Nat_Bits.f kj6 t332).bind fun t363 => ((nat_Nat_Bits.f kj6 t338).bind fun t364 => (some (decide (t363 ≤ t364))))))) else (some false))))) else ((nat_Nat_Bits.f kj6 t332).bind fun t365 => ((nat_Nat_Bits.f kj6 t338).bind fun t366 => (if t353 = (wrap64 ((wrap64 (t365 + t366)) - 1)) then ((nat_Nat_Add.f kj6 t332 t332).bind fun t367 => ((nat_Nat_Bits.f kj6 t367).bind fun t370 => ((nat_Nat_Bits.f kj6 t332).bind fun t371 => (if t370 = (wrap64 (t371 + 1)) then ((nat_Nat_Cmp.f kj6 t332 t338).bind fun t372 => (if t372 > 0 then (some true) else ((nat_Nat_Bits.f kj6 t332).bind fun t373 => ((nat_Nat_Bits.f kj6 t338).bind fun t374 => (some (decide (t373 ≤ t374))))))) else (some false))))) else (some false))))))) else (some false)))) = some r := H
        have A44 := Aside0.mk A440
        clear A440
        replace H := Option.bind_eq_some_iff.mp H
        obtain ⟨t353, A450, H⟩ := H
        replace H : ((chattellaw01_wakes.f kj6).bind fun t354 => (if t354 = true then ((nat_Nat_Bits.f kj6 t332).bind fun t355 => ((nat_Nat_Bits.f kj6 t338).bind fun t356 => (if t353 = (wrap64 (t355 + t356)) then ((nat_Nat_Add.f kj6 t332 t332).bind fun t357 => ((nat_Nat_Bits.f kj6 t357).bind fun t360 => ((nat_Nat_Bits.f kj6 t332).bind fun t361 => (if t360 = (wrap64 (t361 + 1)) then ((nat_Nat_Cmp.f kj6 t332 t338).bind fun t362 => (if t362 > 0 then (some true) else ((nat_Nat_Bits.f kj6 t332).bind fun t363 => ((nat_Nat_Bits.f kj6 t338).bind fun t364 => (some (decide (t363 ≤ t364))))))) else (some false))))) else ((nat_Nat_Bits.f kj6 t332).bind fun t365 => ((nat_Nat_Bits.f kj6 t338).bind fun t366 => (if t353 = (wrap64 ((wrap64 (t365 + t366)) - 1)) then ((nat_Nat_Add.f kj6 t332 t332).bind fun t367 => ((nat_Nat_Bits.f kj6 t367).bind fun t370 => ((nat_Nat_Bits.f kj6 t332).bind fun t371 => (if t370 = (wrap64 (t371 + 1)) then ((nat_Nat_Cmp.f kj6 t332 t338).bind fun t372 => (if t372 > 0 then (some true) else ((nat_Nat_Bits.f kj6 t332).bind fun t373 => ((nat_Nat_Bits.f kj6 t338).bind fun t374 => (some (decide (t373 ≤ t374))))))) else (some false))))) else (some false))))))) else (some false))) = some r := H
        have A45 := Aside0.mk A450
        clear A450
        replace H := Option.bind_eq_some_iff.mp H
        obtain ⟨t354, A460, H⟩ := H
        replace H : (if t354 = true then ((nat_Nat_Bits.f kj6 t332).bind fun t355 => ((nat_Nat_Bits.f kj6 t338).bind fun t356 => (if t353 = (wrap64 (t355 + t356)) then ((nat_Nat_Add.f kj6 t332 t332).bind fun t357 => ((nat_Nat_Bits.f kj6 t357).bind fun t360 => ((nat_Nat_Bits.f kj6 t332).bind fun t361 => (if t360 = (wrap64 (t361 + 1)) then ((nat_Nat_Cmp.f kj6 t332 t338).bind fun t362 => (if t362 > 0 then (some true) else ((nat_Nat_Bits.f kj6 t332).bind fun t363 => ((nat_Nat_Bits.f kj6 t338).bind fun t364 => (some (decide (t363 ≤ t364))))))) else (some false))))) else ((nat_Nat_Bits.f kj6 t332).bind fun t365 => ((nat_Nat_Bits.f kj6 t338).bind fun t366 => (if t353 = (wrap64 ((wrap64 (t365 + t366)) - 1)) then ((nat_Nat_Add.f kj6 t332 t332).bind fun t367 => ((nat_Nat_Bits.f kj6 t367).bind fun t370 => ((nat_Nat_Bits.f kj6 t332).bind fun t371 => (if t370 = (wrap64 (t371 + 1)) then ((nat_Nat_Cmp.f kj6 t332 t338).bind fun t372 => (if t372 > 0 then (some true) else ((nat_Nat_Bits.f kj6 t332).bind fun t373 => ((nat_Nat_Bits.f kj6 t338).bind fun t374 => (some (decide (t373 ≤ t374))))))) else (some false))))) else (some false))))))) else (some false)) = some r := H
        have A46 := Aside0.mk A460
        clear A460
        by_cases c47 : t354 = true
        · subst c47
          have H1 : ((nat_Nat_Bits.f kj6 t332).bind fun t355 => ((nat_Nat_Bits.f kj6 t338).bind fun t356 => (if t353 = (wrap64 (t355 + t356)) then ((nat_Nat_Add.f kj6 t332 t332).bind fun t357 => ((nat_Nat_Bits.f kj6 t357).bind fun t360 => ((nat_Nat_Bits.f kj6 t332).bind fun t361 => (if t360 = (wrap64 (t361 + 1)) then ((nat_Nat_Cmp.f kj6 t332 t338).bind fun t362 => (if t362 > 0 then (some true) else ((nat_Nat_Bits.f kj6 t332).bind fun t363 => ((nat_Nat_Bits.f kj6 t338).bind fun t364 => (some (decide (t363 ≤ t364))))))) else (some false))))) else ((nat_Nat_Bits.f kj6 t332).bind fun t365 => ((nat_Nat_Bits.f kj6 t338).bind fun t366 => (if t353 = (wrap64 ((wrap64 (t365 + t366)) - 1)) then ((nat_Nat_Add.f kj6 t332 t332).bind fun t367 => ((nat_Nat_Bits.f kj6 t367).bind fun t370 => ((nat_Nat_Bits.f kj6 t332).bind fun t371 => (if t370 = (wrap64 (t371 + 1)) then ((nat_Nat_Cmp.f kj6 t332 t338).bind fun t372 => (if t372 > 0 then (some true) else ((nat_Nat_Bits.f kj6 t332).bind fun t373 => ((nat_Nat_Bits.f kj6 t338).bind fun t374 => (some (decide (t373 ≤ t374))))))) else (some false))))) else (some false))))))) = some r := by rw [if_pos rfl] at H; exact H
          clear H
          have H := H1
          clear H1
          replace H := Option.bind_eq_some_iff.mp H
          obtain ⟨t355, A480, H⟩ := H
          replace H : ((nat_Nat_Bits.f kj6 t338).bind fun t356 => (if t353 = (wrap64 (t355 + t356)) then ((nat_Nat_Add.f kj6 t332 t332).bind fun t357 => ((nat_Nat_Bits.f kj6 t357).bind fun t360 => ((nat_Nat_Bits.f kj6 t332).bind fun t361 => (if t360 = (wrap64 (t361 + 1)) then ((nat_Nat_Cmp.f kj6 t332 t338).bind fun t362 => (if t362 > 0 then (some true) else ((nat_Nat_Bits.f kj6 t332).bind fun t363 => ((nat_Nat_Bits.f kj6 t338).bind fun t364 => (some (decide (t363 ≤ t364))))))) else (some false))))) else ((nat_Nat_Bits.f kj6 t332).bind fun t365 => ((nat_Nat_Bits.f kj6 t338).bind fun t366 => (if t353 = (wrap64 ((wrap64 (t365 + t366)) - 1)) then ((nat_Nat_Add.f kj6 t332 t332).bind fun t367 => ((nat_Nat_Bits.f kj6 t367).bind fun t370 => ((nat_Nat_Bits.f kj6 t332).bind fun t371 => (if t370 = (wrap64 (t371 + 1)) then ((nat_Nat_Cmp.f kj6 t332 t338).bind fun t372 => (if t372 > 0 then (some true) else ((nat_Nat_Bits.f kj6 t332).bind fun t373 => ((nat_Nat_Bits.f kj6 t338).bind fun t374 => (some (decide (t373 ≤ t374))))))) else (some false))))) else (some false)))))) = some r := H
          have A48 := Aside0.mk A480
          clear A480
          replace H := Option.bind_eq_some_iff.mp H
          obtain ⟨t356, A490, H⟩ := H
          replace H : (if t353 = (wrap64 (t355 + t356)) then ((nat_Nat_Add.f kj6 t332 t332).bind fun t357 => ((nat_Nat_Bits.f kj6 t357).bind fun t360 => ((nat_Nat_Bits.f kj6 t332).bind fun t361 => (if t360 = (wrap64 (t361 + 1)) then ((nat_Nat_Cmp.f kj6 t332 t338).bind fun t362 => (if t362 > 0 then (some true) else ((nat_Nat_Bits.f kj6 t332).bind fun t363 => ((nat_Nat_Bits.f kj6 t338).bind fun t364 => (some (decide (t363 ≤ t364))))))) else (some false))))) else ((nat_Nat_Bits.f kj6 t332).bind fun t365 => ((nat_Nat_Bits.f kj6 t338).bind fun t366 => (if t353 = (wrap64 ((wrap64 (t365 + t366)) - 1)) then ((nat_Nat_Add.f kj6 t332 t332).bind fun t367 => ((nat_Nat_Bits.f kj6 t367).bind fun t370 => ((nat_Nat_Bits.f kj6 t332).bind fun t371 => (if t370 = (wrap64 (t371 + 1)) then ((nat_Nat_Cmp.f kj6 t332 t338).bind fun t372 => (if t372 > 0 then (some true) else ((nat_Nat_Bits.f kj6 t332).bind fun t373 => ((nat_Nat_Bits.f kj6 t338).bind fun t374 => (some (decide (t373 ≤ t374))))))) else (some false))))) else (some false))))) = some r := H
          have A49 := Aside0.mk A490
          clear A490
          by_cases c50 : t353 = (wrap64 (t355 + t356))
          · rw [if_pos c50] at H
            have c50b0 : (t353 == (wrap64 (t355 + t356))) = true := beq_iff_eq.mpr c50
            have c50b1 : (t353 != (wrap64 (t355 + t356))) = false := bne_eq_false_iff_eq.mpr c50
            clear c50
            replace H := Option.bind_eq_some_iff.mp H
            obtain ⟨t357, A510, H⟩ := H
            replace H : ((nat_Nat_Bits.f kj6 t357).bind fun t360 => ((nat_Nat_Bits.f kj6 t332).bind fun t361 => (if t360 = (wrap64 (t361 + 1)) then ((nat_Nat_Cmp.f kj6 t332 t338).bind fun t362 => (if t362 > 0 then (some true) else ((nat_Nat_Bits.f kj6 t332).bind fun t363 => ((nat_Nat_Bits.f kj6 t338).bind fun t364 => (some (decide (t363 ≤ t364))))))) else (some false)))) = some r := H
            have A51 := Aside0.mk A510
            clear A510
            replace H := Option.bind_eq_some_iff.mp H
            obtain ⟨t360, A520, H⟩ := H
            replace H : ((nat_Nat_Bits.f kj6 t332).bind fun t361 => (if t360 = (wrap64 (t361 + 1)) then ((nat_Nat_Cmp.f kj6 t332 t338).bind fun t362 => (if t362 > 0 then (some true) else ((nat_Nat_Bits.f kj6 t332).bind fun t363 => ((nat_Nat_Bits.f kj6 t338).bind fun t364 => (some (decide (t363 ≤ t364))))))) else (some false))) = some r := H
            have A52 := Aside0.mk A520
            clear A520
            replace H := Option.bind_eq_some_iff.mp H
            obtain ⟨t361, A530, H⟩ := H
            replace H : (if t360 = (wrap64 (t361 + 1)) then ((nat_Nat_Cmp.f kj6 t332 t338).bind fun t362 => (if t362 > 0 then (some true) else ((nat_Nat_Bits.f kj6 t332).bind fun t363 => ((nat_Nat_Bits.f kj6 t338).bind fun t364 => (some (decide (t363 ≤ t364))))))) else (some false)) = some r := H
            have A53 := Aside0.mk A530
            clear A530
            by_cases c54 : t360 = (wrap64 (t361 + 1))
            rotate_left
            · rw [if_neg c54] at H
              have c54b0 : (t360 == (wrap64 (t361 + 1))) = false := beq_eq_false_iff_ne.mpr c54
              have c54b1 : (t360 != (wrap64 (t361 + 1))) = true := bne_iff_ne.mpr c54
              exact absurd (Option.some.inj H) (by rw [ht_]; decide)
            rw [if_pos c54] at H
            have c54b0 : (t360 == (wrap64 (t361 + 1))) = true := beq_iff_eq.mpr c54
            have c54b1 : (t360 != (wrap64 (t361 + 1))) = false := bne_eq_false_iff_eq.mpr c54
            clear c54
            replace H := Option.bind_eq_some_iff.mp H
            obtain ⟨t362, A550, H⟩ := H
            replace H : (if t362 > 0 then (some true) else ((nat_Nat_Bits.f kj6 t332).bind fun t363 => ((nat_Nat_Bits.f kj6 t338).bind fun t364 => (some (decide (t363 ≤ t364)))))) = some r := H
            have A55 := Aside0.mk A550
            clear A550
            by_cases c56 : t362 > 0
            · rw [if_pos c56] at H
              have c56b0 : decide (0 < t362) = true := decide_eq_true c56
              clear c56
              obtain rfl := Option.some.inj H
              have hnb57 := NB341_342.out
              have hnc57 := NB342_341.out
              have hcz58_0 : wc.cell? ⟨gb341, 0, none⟩ = some (.slice Ao16 t332.length co16) := (blk_cell BK341.out 0).trans rfl
              have hfz58_0 := blk_frozen BK341.out 0
              have hcz59_0 : wc.cell? ⟨gb342, 0, none⟩ = some (.slice Ao19 t338.length co19) := (blk_cell BK342.out 0).trans rfl
              have hfz59_0 := blk_frozen BK342.out 0
              try go_wp2_with (first | ((with_reducible refine gate_callee (f := 24) rfl ?_); refine goesL_ (some 30) rfl rfl Try.func24 (by kernel_rfl) rfl #[.agg #[.slice Ao16 t332.length co16], .agg #[.slice Ao19 t338.length co19]] rfl (by (try simp only [List.map_toArray, List.map_cons, List.map_nil]); first | done | rfl | (simp only [List.length_drop, List.length_take]; rfl)) ?_; (with_reducible refine (nat_Nat_Mul.calls kj6 _ _ t332 _ _ t338 t350 _ ?side1 ?side2 ?side3 ?side4 A44.out).mono ?_); (case side1 => exact cv HO_342000.out); (case side2 => exact (Kd.V_reads' HO_342000.out).2.1); (case side3 => exact cv HO_343000.out); (case side4 => exact (Kd.V_reads' HO_343000.out).2.1); rintro e w60 ⟨v351, rfl, ho0, hb⟩; refine ⟨_, rfl, ?_⟩; replace HO_342000 := Aside0.mk (vb HO_342000.out hb); replace HO_343000 := Aside0.mk (vb HO_343000.out hb); have HO352 := Aside0.mk (Kd.V_lower (Kd.V_mono (ok' := fun k_ => k_ ≠ gb341 ∧ k_ ≠ gb342) ho0 (fun k_ hk_ => ⟨(fb BK341.out k_ hk_), (fb BK342.out k_ hk_)⟩)) (bz HB.out)); replace BK341 := Aside0.mk (bb BK341.out hb); replace BK342 := Aside0.mk (bb BK342.out hb); replace HB := Aside0.mk (bs HB.out hb); (try clear hb); (try clear hb2); (try clear hk); (try clear hi); (try clear ho0); obtain ⟨Ao61, co61, eo61⟩ := Kd.V_slice HO352.out; subst eo61) | ((with_reducible refine gate_callee (f := 19) rfl ?_); refine goesL_ (some 31) rfl rfl Try.func19 (by kernel_rfl) rfl #[.agg #[.slice Ao61 t350.length co61]] rfl (by (try simp only [List.map_toArray, List.map_cons, List.map_nil]); first | done | rfl | (simp only [List.length_drop, List.length_take]; rfl)) ?_; (with_reducible refine (nat_Nat_Bits.calls kj6 _ _ t350 t353 _ ?side1 ?side2 A45.out).mono ?_); (case side1 => exact cv HO352.out); (case side2 => exact (Kd.V_reads' HO352.out).2.1); rintro e w62 ⟨rfl, hb⟩; refine ⟨_, rfl, ?_⟩; replace HO_342000 := Aside0.mk (vb HO_342000.out hb); replace HO_343000 := Aside0.mk (vb HO_343000.out hb); replace HO352 := Aside0.mk (vb HO352.out hb); replace BK341 := Aside0.mk (bb BK341.out hb); replace BK342 := Aside0.mk (bb BK342.out hb); replace HB := Aside0.mk (bs HB.out hb); (try clear hb); (try clear hb2); (try clear hk); (try clear hi)))
              replace HO_342000 := Aside0.mk (Kd.V_drew HO_342000.out)
              replace HO_343000 := Aside0.mk (Kd.V_drew HO_343000.out)
              replace HO352 := Aside0.mk (Kd.V_drew HO352.out)
              replace BK341 := Aside0.mk (blk_drew BK341.out)
              replace BK342 := Aside0.mk (blk_drew BK342.out)
              replace HB := Aside0.mk (below_drew1 HB.out)
              refine start_ (n := 44) (S := fun w' => w'.cell? ⟨gb341, 0, none⟩ = some (.slice Ao16 t332.length co16) ∧ w'.cell? ⟨gb342, 0, none⟩ = some (.slice Ao19 t338.length co19)) (ds := []) (fl 0 44 []) (by kernel_rfl) rfl rfl ⟨(blk_cell BK341.out 0).trans rfl, (blk_cell BK342.out 0).trans rfl⟩ (fun hHeld => ?_); refine with_tabW chattellaw01_NatBits.tab5 chattellaw01_NatBits.bits5 (fun HT_ HW_ => ?_)
              generalize w62.drew = w63 at HO_342000 HO_343000 HO352 BK341 BK342 HB hHeld ⊢
              refine one_ (i := 0) (N := some 32) (fl 1 44 []) rfl rfl (one_of HT_.out (by kernel_rfl)) (by decide) (fun K hK => ?_)
              refine goes_ Try.func20 (by kernel_rfl) rfl #[] (by rfl) rfl rfl (by (try simp only [List.map_toArray, List.map_cons, List.map_nil]); first | done | rfl | (simp only [List.length_drop, List.length_take]; rfl)) ?_
              with_reducible refine (chattellaw01_wakes.calls kj6  true _ A46.out).mono ?_
              rintro e w64 ⟨rfl, hb⟩
              refine ⟨_, rfl, ?_⟩
              replace HO_342000 := Aside0.mk (vb HO_342000.out hb)
              replace HO_343000 := Aside0.mk (vb HO_343000.out hb)
              replace HO352 := Aside0.mk (vb HO352.out hb)
              replace BK341 := Aside0.mk (bb BK341.out hb)
              replace BK342 := Aside0.mk (bb BK342.out hb)
              replace HB := Aside0.mk (bs HB.out hb)
              (try clear hb)
              (try clear hb2)
              (try clear hk)
              (try clear hi)
              refine hK.out _ _ ⟨(blk_cell BK341.out 0).trans rfl, (blk_cell BK342.out 0).trans rfl⟩ (fun hHeld => ?_)
              clear hK K
              refine norm_ (a' := ?_) ?_ ?_
              rotate_left
              · show Act.put _ (some 32) _ = _
                simp only [Act.put, List.setIfInBounds_toArray, List.set_cons_zero, List.set_cons_succ, i64_w, i32_w]
                rfl
              refine pure_ (i := 1) (N := some 33) (v := ?_) (a' := ?_) (fl 2 44 []) rfl rfl (any_of HT_.out (by kernel_rfl)) (fun _ _ _ h => h) (Or.inl ⟨by rfl, ?_⟩) ?_ ?_
              rotate_left
              · intro w'
                go_simp
                with_reducible rfl
              rotate_left
              · simp only [Act.put, List.setIfInBounds_toArray, List.set_cons_zero, List.set_cons_succ, i64_w, i32_w]
                rfl
              refine pure_ (i := 2) (N := some 34) (v := ?_) (a' := ?_) (fl 3 44 []) rfl rfl (any_of HT_.out (by kernel_rfl)) (fun _ _ _ h => h) (Or.inl ⟨by rfl, ?_⟩) ?_ ?_
              rotate_left
              · intro w'
                go_simp
                with_reducible rfl
              rotate_left
              · simp only [Act.put, List.setIfInBounds_toArray, List.set_cons_zero, List.set_cons_succ, i64_w, i32_w]
                rfl
              refine take_ (i := 3) (N := some 35) (v := ?_) (a' := ?_) (fl 4 44 []) rfl rfl (take_ofW HT_.out HW_.out (by kernel_rfl)) (fun _ _ _ h => h) (Or.inl ⟨by rfl, ?_⟩) hHeld ?_ ?_
              rotate_left
              · rintro w' ⟨s0, s1⟩
                go_simp
                with_reducible rfl
              rotate_left
              · simp only [Act.put, List.setIfInBounds_toArray, List.set_cons_zero, List.set_cons_succ, i64_w, i32_w]
                rfl
              refine take_ (i := 5) (N := some 37) (v := ?_) (a' := ?_) (fl 4 44 [5]) rfl rfl (take_ofW HT_.out HW_.out (by kernel_rfl)) (fun _ _ _ h => h) (Or.inl ⟨by rfl, ?_⟩) hHeld ?_ ?_
              rotate_left
              · rintro w' ⟨s0, s1⟩
                go_simp
                with_reducible rfl
              rotate_left
              · simp only [Act.put, List.setIfInBounds_toArray, List.set_cons_zero, List.set_cons_succ, i64_w, i32_w]
                rfl
              refine one_ (i := 4) (N := some 36) (fl 6 44 []) rfl rfl (one_of HT_.out (by kernel_rfl)) (by decide) (fun K hK => ?_)
              refine goes_ Try.func19 (by kernel_rfl) rfl #[.agg #[.slice Ao16 t332.length co16]] (by rfl) rfl rfl (by (try simp only [List.map_toArray, List.map_cons, List.map_nil]); first | done | rfl | (simp only [List.length_drop, List.length_take]; rfl)) ?_
              with_reducible refine (nat_Nat_Bits.calls kj6 _ _ t332 t355 _ ?side1 ?side2 A48.out).mono ?_
              (case side1 => exact cv HO_342000.out)
              (case side2 => exact (Kd.V_reads' HO_342000.out).2.1)
              rintro e w65 ⟨rfl, hb⟩
              refine ⟨_, rfl, ?_⟩
              replace HO_342000 := Aside0.mk (vb HO_342000.out hb)
              replace HO_343000 := Aside0.mk (vb HO_343000.out hb)
              replace HO352 := Aside0.mk (vb HO352.out hb)
              replace BK341 := Aside0.mk (bb BK341.out hb)
              replace BK342 := Aside0.mk (bb BK342.out hb)
              replace HB := Aside0.mk (bs HB.out hb)
              (try clear hb)
              (try clear hb2)
              (try clear hk)
              (try clear hi)
              refine hK.out _ _ ⟨(blk_cell BK341.out 0).trans rfl, (blk_cell BK342.out 0).trans rfl⟩ (fun hHeld => ?_)
              clear hK K
              refine norm_ (a' := ?_) ?_ ?_
              rotate_left
              · show Act.put _ (some 36) _ = _
                simp only [Act.put, List.setIfInBounds_toArray, List.set_cons_zero, List.set_cons_succ, i64_w, i32_w]
                rfl
              refine one_ (i := 6) (N := some 38) (fl 7 44 []) rfl rfl (one_of HT_.out (by kernel_rfl)) (by decide) (fun K hK => ?_)
              refine goes_ Try.func19 (by kernel_rfl) rfl #[.agg #[.slice Ao19 t338.length co19]] (by rfl) rfl rfl (by (try simp only [List.map_toArray, List.map_cons, List.map_nil]); first | done | rfl | (simp only [List.length_drop, List.length_take]; rfl)) ?_
              with_reducible refine (nat_Nat_Bits.calls kj6 _ _ t338 t356 _ ?side1 ?side2 A49.out).mono ?_
              (case side1 => exact cv HO_343000.out)
              (case side2 => exact (Kd.V_reads' HO_343000.out).2.1)
              rintro e w66 ⟨rfl, hb⟩
              refine ⟨_, rfl, ?_⟩
              replace HO_342000 := Aside0.mk (vb HO_342000.out hb)
              replace HO_343000 := Aside0.mk (vb HO_343000.out hb)
              replace HO352 := Aside0.mk (vb HO352.out hb)
              replace BK341 := Aside0.mk (bb BK341.out hb)
              replace BK342 := Aside0.mk (bb BK342.out hb)
              replace HB := Aside0.mk (bs HB.out hb)
              (try clear hb)
              (try clear hb2)
              (try clear hk)
              (try clear hi)
              refine hK.out _ _ ⟨(blk_cell BK341.out 0).trans rfl, (blk_cell BK342.out 0).trans rfl⟩ (fun hHeld => ?_)
              clear hK K
              refine norm_ (a' := ?_) ?_ ?_
              rotate_left
              · show Act.put _ (some 38) _ = _
                simp only [Act.put, List.setIfInBounds_toArray, List.set_cons_zero, List.set_cons_succ, i64_w, i32_w]
                rfl
              refine pure_ (i := 7) (N := some 39) (v := ?_) (a' := ?_) (fl 8 44 []) rfl rfl (any_of HT_.out (by kernel_rfl)) (fun _ _ _ h => h) (Or.inl ⟨by rfl, ?_⟩) ?_ ?_
              rotate_left
              · intro w'
                go_simp
                with_reducible rfl
              rotate_left
              · simp only [Act.put, List.setIfInBounds_toArray, List.set_cons_zero, List.set_cons_succ, i64_w, i32_w]
                rfl
              refine pure_ (i := 8) (N := some 40) (v := ?_) (a' := ?_) (fl 9 44 []) rfl rfl (any_of HT_.out (by kernel_rfl)) (fun _ _ _ h => h) (Or.inl ⟨by rfl, ?_⟩) ?_ ?_
              rotate_left
              · intro w'
                go_simp
                with_reducible rfl
              rotate_left
              · simp only [Act.put, List.setIfInBounds_toArray, List.set_cons_zero, List.set_cons_succ, i64_w, i32_w]
                rfl
              refine pure_ (i := 9) (N := some 41) (v := ?_) (a' := ?_) (fl 10 44 []) rfl rfl (any_of HT_.out (by kernel_rfl)) (fun _ _ _ h => h) (Or.inl ⟨by rfl, ?_⟩) ?_ ?_
              rotate_left
              · intro w'
                go_simp
                with_reducible rfl
              rotate_left
              · simp only [Act.put, List.setIfInBounds_toArray, List.set_cons_zero, List.set_cons_succ, i64_w, i32_w]
                rfl
              refine pure_ (i := 10) (N := some 42) (v := undef) (a' := ?_) (fl 11 44 []) rfl rfl (any_of HT_.out (by kernel_rfl)) (fun _ _ _ h => h) (Or.inr ⟨by rfl, rfl⟩) ?_ ?_
              rotate_left
              · simp only [Act.put, List.setIfInBounds_toArray, List.set_cons_zero, List.set_cons_succ, i64_w, i32_w]
                rfl
              refine pure_ (i := 11) (N := some 43) (v := undef) (a' := ?_) (fl 12 44 []) rfl rfl (any_of HT_.out (by kernel_rfl)) (fun _ _ _ h => h) (Or.inr ⟨by rfl, rfl⟩) ?_ ?_
              rotate_left
              · simp only [Act.put, List.setIfInBounds_toArray, List.set_cons_zero, List.set_cons_succ, i64_w, i32_w]
                rfl
              refine pure_ (i := 12) (N := some 44) (v := undef) (a' := ?_) (fl 13 44 []) rfl rfl (any_of HT_.out (by kernel_rfl)) (fun _ _ _ h => h) (Or.inr ⟨by rfl, rfl⟩) ?_ ?_
              rotate_left
              · simp only [Act.put, List.setIfInBounds_toArray, List.set_cons_zero, List.set_cons_succ, i64_w, i32_w]
                rfl
              refine pure_ (i := 13) (N := some 45) (v := undef) (a' := ?_) (fl 14 44 []) rfl rfl (any_of HT_.out (by kernel_rfl)) (fun _ _ _ h => h) (Or.inr ⟨by rfl, rfl⟩) ?_ ?_
              rotate_left
              · simp only [Act.put, List.setIfInBounds_toArray, List.set_cons_zero, List.set_cons_succ, i64_w, i32_w]
                rfl
              refine pure_ (i := 14) (N := some 46) (v := undef) (a' := ?_) (fl 15 44 []) rfl rfl (any_of HT_.out (by kernel_rfl)) (fun _ _ _ h => h) (Or.inr ⟨by rfl, rfl⟩) ?_ ?_
              rotate_left
              · simp only [Act.put, List.setIfInBounds_toArray, List.set_cons_zero, List.set_cons_succ, i64_w, i32_w]
                rfl
              refine pure_ (i := 15) (N := some 47) (v := undef) (a' := ?_) (fl 16 44 []) rfl rfl (any_of HT_.out (by kernel_rfl)) (fun _ _ _ h => h) (Or.inr ⟨by rfl, rfl⟩) ?_ ?_
              rotate_left
              · simp only [Act.put, List.setIfInBounds_toArray, List.set_cons_zero, List.set_cons_succ, i64_w, i32_w]
                rfl
              refine pure_ (i := 16) (N := some 48) (v := undef) (a' := ?_) (fl 17 44 []) rfl rfl (any_of HT_.out (by kernel_rfl)) (fun _ _ _ h => h) (Or.inr ⟨by rfl, rfl⟩) ?_ ?_
              rotate_left
              · simp only [Act.put, List.setIfInBounds_toArray, List.set_cons_zero, List.set_cons_succ, i64_w, i32_w]
                rfl
              refine pure_ (i := 17) (N := some 49) (v := undef) (a' := ?_) (fl 18 44 []) rfl rfl (any_of HT_.out (by kernel_rfl)) (fun _ _ _ h => h) (Or.inr ⟨by rfl, rfl⟩) ?_ ?_
              rotate_left
              · simp only [Act.put, List.setIfInBounds_toArray, List.set_cons_zero, List.set_cons_succ, i64_w, i32_w]
                rfl
              refine pure_ (i := 18) (N := some 50) (v := ?_) (a' := ?_) (fl 19 44 []) rfl rfl (any_of HT_.out (by kernel_rfl)) (fun _ _ _ h => h) (Or.inl ⟨by rfl, ?_⟩) ?_ ?_
              rotate_left
              · intro w'
                go_simp
                with_reducible rfl
              rotate_left
              · simp only [Act.put, List.setIfInBounds_toArray, List.set_cons_zero, List.set_cons_succ, i64_w, i32_w]
                rfl
              refine pure_ (i := 19) (N := some 51) (v := ?_) (a' := ?_) (fl 20 44 []) rfl rfl (any_of HT_.out (by kernel_rfl)) (fun _ _ _ h => h) (Or.inl ⟨by rfl, ?_⟩) ?_ ?_
              rotate_left
              · intro w'
                go_simp
                with_reducible rfl
              rotate_left
              · simp only [Act.put, List.setIfInBounds_toArray, List.set_cons_zero, List.set_cons_succ, i64_w, i32_w]
                rfl
              refine pure_ (i := 20) (N := some 52) (v := ?_) (a' := ?_) (fl 21 44 []) rfl rfl (any_of HT_.out (by kernel_rfl)) (fun _ _ _ h => h) (Or.inl ⟨by rfl, ?_⟩) ?_ ?_
              rotate_left
              · intro w'
                go_simp
                with_reducible rfl
              rotate_left
              · simp only [Act.put, List.setIfInBounds_toArray, List.set_cons_zero, List.set_cons_succ, i64_w, i32_w]
                rfl
              refine take_ (i := 21) (N := some 53) (v := ?_) (a' := ?_) (fl 22 44 []) rfl rfl (take_ofW HT_.out HW_.out (by kernel_rfl)) (fun _ _ _ h => h) (Or.inl ⟨by rfl, ?_⟩) hHeld ?_ ?_
              rotate_left
              · rintro w' ⟨s0, s1⟩
                go_simp
                with_reducible rfl
              rotate_left
              · simp only [Act.put, List.setIfInBounds_toArray, List.set_cons_zero, List.set_cons_succ, i64_w, i32_w]
                rfl
              refine take_ (i := 22) (N := some 54) (v := ?_) (a' := ?_) (fl 23 44 []) rfl rfl (take_ofW HT_.out HW_.out (by kernel_rfl)) (fun _ _ _ h => h) (Or.inl ⟨by rfl, ?_⟩) hHeld ?_ ?_
              rotate_left
              · rintro w' ⟨s0, s1⟩
                go_simp
                with_reducible rfl
              rotate_left
              · simp only [Act.put, List.setIfInBounds_toArray, List.set_cons_zero, List.set_cons_succ, i64_w, i32_w]
                rfl
              refine take_ (i := 25) (N := some 57) (v := ?_) (a' := ?_) (fl 23 44 [25]) rfl rfl (take_ofW HT_.out HW_.out (by kernel_rfl)) (fun _ _ _ h => h) (Or.inl ⟨by rfl, ?_⟩) hHeld ?_ ?_
              rotate_left
              · rintro w' ⟨s0, s1⟩
                go_simp
                with_reducible rfl
              rotate_left
              · simp only [Act.put, List.setIfInBounds_toArray, List.set_cons_zero, List.set_cons_succ, i64_w, i32_w]
                rfl
              refine one_ (i := 23) (N := some 55) (fl 24 44 [25]) rfl rfl (one_of HT_.out (by kernel_rfl)) (by decide) (fun K hK => ?_)
              refine goes_ Try.func25 (by kernel_rfl) rfl #[.agg #[.slice Ao16 t332.length co16], .agg #[.slice Ao16 t332.length co16]] (by rfl) rfl rfl (by (try simp only [List.map_toArray, List.map_cons, List.map_nil]); first | done | rfl | (simp only [List.length_drop, List.length_take]; rfl)) ?_
              with_reducible refine (nat_Nat_Add.calls kj6 _ _ t332 _ _ t332 t357 _ ?side1 ?side2 ?side3 ?side4 A51.out).mono ?_
              (case side1 => exact cv HO_342000.out)
              (case side2 => exact (Kd.V_reads' HO_342000.out).2.1)
              (case side3 => exact cv HO_342000.out)
              (case side4 => exact (Kd.V_reads' HO_342000.out).2.1)
              rintro e w67 ⟨v358, rfl, ho0, hb⟩
              refine ⟨_, rfl, ?_⟩
              replace HO_342000 := Aside0.mk (vb HO_342000.out hb)
              replace HO_343000 := Aside0.mk (vb HO_343000.out hb)
              replace HO352 := Aside0.mk (vb HO352.out hb)
              have HO359 := Aside0.mk (Kd.V_lower (Kd.V_mono (ok' := fun k_ => k_ ≠ gb341 ∧ k_ ≠ gb342) ho0 (fun k_ hk_ => ⟨(fb BK341.out k_ hk_), (fb BK342.out k_ hk_)⟩)) (bz HB.out))
              replace BK341 := Aside0.mk (bb BK341.out hb)
              replace BK342 := Aside0.mk (bb BK342.out hb)
              replace HB := Aside0.mk (bs HB.out hb)
              (try clear hb)
              (try clear hb2)
              (try clear hk)
              (try clear hi)
              (try clear ho0)
              obtain ⟨Ao68, co68, eo68⟩ := Kd.V_slice HO359.out
              (first | subst eo68 | (injection eo68 with f1_ f2_ f3_; have f4_ := f1_.symm; have f5_ := f3_.symm; clear f1_ f2_ f3_; subst f4_; subst f5_))
              refine hK.out _ _ ⟨(blk_cell BK341.out 0).trans rfl, (blk_cell BK342.out 0).trans rfl⟩ (fun hHeld => ?_)
              clear hK K
              refine norm_ (a' := ?_) ?_ ?_
              rotate_left
              · show Act.put _ (some 55) _ = _
                simp only [Act.put, List.setIfInBounds_toArray, List.set_cons_zero, List.set_cons_succ, i64_w, i32_w]
                rfl
              refine one_ (i := 24) (N := some 56) (fl 26 44 []) rfl rfl (one_of HT_.out (by kernel_rfl)) (by decide) (fun K hK => ?_)
              refine goes_ Try.func19 (by kernel_rfl) rfl #[.agg #[.slice Ao68 t357.length co68]] (by rfl) rfl rfl (by (try simp only [List.map_toArray, List.map_cons, List.map_nil]); first | done | rfl | (simp only [List.length_drop, List.length_take]; rfl)) ?_
              with_reducible refine (nat_Nat_Bits.calls kj6 _ _ t357 t360 _ ?side1 ?side2 A52.out).mono ?_
              (case side1 => exact cv HO359.out)
              (case side2 => exact (Kd.V_reads' HO359.out).2.1)
              rintro e w69 ⟨rfl, hb⟩
              refine ⟨_, rfl, ?_⟩
              replace HO_342000 := Aside0.mk (vb HO_342000.out hb)
              replace HO_343000 := Aside0.mk (vb HO_343000.out hb)
              replace HO352 := Aside0.mk (vb HO352.out hb)
              replace HO359 := Aside0.mk (vb HO359.out hb)
              replace BK341 := Aside0.mk (bb BK341.out hb)
              replace BK342 := Aside0.mk (bb BK342.out hb)
              replace HB := Aside0.mk (bs HB.out hb)
              (try clear hb)
              (try clear hb2)
              (try clear hk)
              (try clear hi)
              refine hK.out _ _ ⟨(blk_cell BK341.out 0).trans rfl, (blk_cell BK342.out 0).trans rfl⟩ (fun hHeld => ?_)
              clear hK K
              refine norm_ (a' := ?_) ?_ ?_
              rotate_left
              · show Act.put _ (some 56) _ = _
                simp only [Act.put, List.setIfInBounds_toArray, List.set_cons_zero, List.set_cons_succ, i64_w, i32_w]
                rfl
              refine one_ (i := 26) (N := some 58) (fl 27 44 []) rfl rfl (one_of HT_.out (by kernel_rfl)) (by decide) (fun K hK => ?_)
              refine goes_ Try.func19 (by kernel_rfl) rfl #[.agg #[.slice Ao16 t332.length co16]] (by rfl) rfl rfl (by (try simp only [List.map_toArray, List.map_cons, List.map_nil]); first | done | rfl | (simp only [List.length_drop, List.length_take]; rfl)) ?_
              with_reducible refine (nat_Nat_Bits.calls kj6 _ _ t332 t361 _ ?side1 ?side2 A53.out).mono ?_
              (case side1 => exact cv HO_342000.out)
              (case side2 => exact (Kd.V_reads' HO_342000.out).2.1)
              rintro e w70 ⟨rfl, hb⟩
              refine ⟨_, rfl, ?_⟩
              replace HO_342000 := Aside0.mk (vb HO_342000.out hb)
              replace HO_343000 := Aside0.mk (vb HO_343000.out hb)
              replace HO352 := Aside0.mk (vb HO352.out hb)
              replace HO359 := Aside0.mk (vb HO359.out hb)
              replace BK341 := Aside0.mk (bb BK341.out hb)
              replace BK342 := Aside0.mk (bb BK342.out hb)
              replace HB := Aside0.mk (bs HB.out hb)
              (try clear hb)
              (try clear hb2)
              (try clear hk)
              (try clear hi)
              refine hK.out _ _ ⟨(blk_cell BK341.out 0).trans rfl, (blk_cell BK342.out 0).trans rfl⟩ (fun hHeld => ?_)
              clear hK K
              refine norm_ (a' := ?_) ?_ ?_
              rotate_left
              · show Act.put _ (some 58) _ = _
                simp only [Act.put, List.setIfInBounds_toArray, List.set_cons_zero, List.set_cons_succ, i64_w, i32_w]
                rfl
              refine pure_ (i := 27) (N := some 59) (v := ?_) (a' := ?_) (fl 28 44 []) rfl rfl (any_of HT_.out (by kernel_rfl)) (fun _ _ _ h => h) (Or.inl ⟨by rfl, ?_⟩) ?_ ?_
              rotate_left
              · intro w'
                go_simp
                with_reducible rfl
              rotate_left
              · simp only [Act.put, List.setIfInBounds_toArray, List.set_cons_zero, List.set_cons_succ, i64_w, i32_w]
                rfl
              refine pure_ (i := 28) (N := some 60) (v := ?_) (a' := ?_) (fl 29 44 []) rfl rfl (any_of HT_.out (by kernel_rfl)) (fun _ _ _ h => h) (Or.inl ⟨by rfl, ?_⟩) ?_ ?_
              rotate_left
              · intro w'
                go_simp
                with_reducible rfl
              rotate_left
              · simp only [Act.put, List.setIfInBounds_toArray, List.set_cons_zero, List.set_cons_succ, i64_w, i32_w]
                rfl
              refine pure_ (i := 29) (N := some 61) (v := ?_) (a' := ?_) (fl 30 44 []) rfl rfl (any_of HT_.out (by kernel_rfl)) (fun _ _ _ h => h) (Or.inl ⟨by rfl, ?_⟩) ?_ ?_
              rotate_left
              · intro w'
                go_simp
                with_reducible rfl
              rotate_left
              · simp only [Act.put, List.setIfInBounds_toArray, List.set_cons_zero, List.set_cons_succ, i64_w, i32_w]
                rfl
              refine pure_ (i := 30) (N := some 62) (v := ?_) (a' := ?_) (fl 31 44 []) rfl rfl (any_of HT_.out (by kernel_rfl)) (fun _ _ _ h => h) (Or.inl ⟨by rfl, ?_⟩) ?_ ?_
              rotate_left
              · intro w'
                go_simp
                with_reducible rfl
              rotate_left
              · simp only [Act.put, List.setIfInBounds_toArray, List.set_cons_zero, List.set_cons_succ, i64_w, i32_w]
                rfl
              refine take_ (i := 31) (N := some 63) (v := ?_) (a' := ?_) (fl 32 44 []) rfl rfl (take_ofW HT_.out HW_.out (by kernel_rfl)) (fun _ _ _ h => h) (Or.inl ⟨by rfl, ?_⟩) hHeld ?_ ?_
              rotate_left
              · rintro w' ⟨s0, s1⟩
                go_simp
                with_reducible rfl
              rotate_left
              · simp only [Act.put, List.setIfInBounds_toArray, List.set_cons_zero, List.set_cons_succ, i64_w, i32_w]
                rfl
              refine take_ (i := 32) (N := some 64) (v := ?_) (a' := ?_) (fl 33 44 []) rfl rfl (take_ofW HT_.out HW_.out (by kernel_rfl)) (fun _ _ _ h => h) (Or.inl ⟨by rfl, ?_⟩) hHeld ?_ ?_
              rotate_left
              · rintro w' ⟨s0, s1⟩
                go_simp
                with_reducible rfl
              rotate_left
              · simp only [Act.put, List.setIfInBounds_toArray, List.set_cons_zero, List.set_cons_succ, i64_w, i32_w]
                rfl
              refine one_ (i := 33) (N := some 65) (fl 34 44 []) rfl rfl (one_of HT_.out (by kernel_rfl)) (by decide) (fun K hK => ?_)
              refine goes_ Try.func21 (by kernel_rfl) rfl #[.agg #[.slice Ao16 t332.length co16], .agg #[.slice Ao19 t338.length co19]] (by rfl) rfl rfl (by (try simp only [List.map_toArray, List.map_cons, List.map_nil]); first | done | rfl | (simp only [List.length_drop, List.length_take]; rfl)) ?_
              with_reducible refine (nat_Nat_Cmp.calls kj6 _ _ t332 _ _ t338 t362 _ ?side1 ?side2 ?side3 ?side4 A55.out).mono ?_
              (case side1 => exact cv HO_342000.out)
              (case side2 => exact (Kd.V_reads' HO_342000.out).2.1)
              (case side3 => exact cv HO_343000.out)
              (case side4 => exact (Kd.V_reads' HO_343000.out).2.1)
              rintro e w71 ⟨rfl, hb⟩
              refine ⟨_, rfl, ?_⟩
              replace HO_342000 := Aside0.mk (vb HO_342000.out hb)
              replace HO_343000 := Aside0.mk (vb HO_343000.out hb)
              replace HO352 := Aside0.mk (vb HO352.out hb)
              replace HO359 := Aside0.mk (vb HO359.out hb)
              replace BK341 := Aside0.mk (bb BK341.out hb)
              replace BK342 := Aside0.mk (bb BK342.out hb)
              replace HB := Aside0.mk (bs HB.out hb)
              (try clear hb)
              (try clear hb2)
              (try clear hk)
              (try clear hi)
              refine hK.out _ _ ⟨(blk_cell BK341.out 0).trans rfl, (blk_cell BK342.out 0).trans rfl⟩ (fun hHeld => ?_)
              clear hK K
              refine norm_ (a' := ?_) ?_ ?_
              rotate_left
              · show Act.put _ (some 65) _ = _
                simp only [Act.put, List.setIfInBounds_toArray, List.set_cons_zero, List.set_cons_succ, i64_w, i32_w]
                rfl
              refine pure_ (i := 34) (N := some 66) (v := ?_) (a' := ?_) (fl 35 44 []) rfl rfl (any_of HT_.out (by kernel_rfl)) (fun _ _ _ h => h) (Or.inl ⟨by rfl, ?_⟩) ?_ ?_
              rotate_left
              · intro w'
                go_simp
                with_reducible rfl
              rotate_left
              · simp only [Act.put, List.setIfInBounds_toArray, List.set_cons_zero, List.set_cons_succ, i64_w, i32_w]
                rfl
              refine pure_ (i := 35) (N := some 67) (v := ?_) (a' := ?_) (fl 36 44 []) rfl rfl (any_of HT_.out (by kernel_rfl)) (fun _ _ _ h => h) (Or.inl ⟨by rfl, ?_⟩) ?_ ?_
              rotate_left
              · intro w'
                go_simp
                with_reducible rfl
              rotate_left
              · simp only [Act.put, List.setIfInBounds_toArray, List.set_cons_zero, List.set_cons_succ, i64_w, i32_w]
                rfl
              refine pure_ (i := 36) (N := some 68) (v := undef) (a' := ?_) (fl 37 44 []) rfl rfl (any_of HT_.out (by kernel_rfl)) (fun _ _ _ h => h) (Or.inr ⟨by rfl, rfl⟩) ?_ ?_
              rotate_left
              · simp only [Act.put, List.setIfInBounds_toArray, List.set_cons_zero, List.set_cons_succ, i64_w, i32_w]
                rfl
              refine pure_ (i := 37) (N := some 69) (v := undef) (a' := ?_) (fl 38 44 []) rfl rfl (any_of HT_.out (by kernel_rfl)) (fun _ _ _ h => h) (Or.inr ⟨by rfl, rfl⟩) ?_ ?_
              rotate_left
              · simp only [Act.put, List.setIfInBounds_toArray, List.set_cons_zero, List.set_cons_succ, i64_w, i32_w]
                rfl
              refine pure_ (i := 38) (N := some 70) (v := undef) (a' := ?_) (fl 39 44 []) rfl rfl (any_of HT_.out (by kernel_rfl)) (fun _ _ _ h => h) (Or.inr ⟨by rfl, rfl⟩) ?_ ?_
              rotate_left
              · simp only [Act.put, List.setIfInBounds_toArray, List.set_cons_zero, List.set_cons_succ, i64_w, i32_w]
                rfl
              refine pure_ (i := 39) (N := some 71) (v := undef) (a' := ?_) (fl 40 44 []) rfl rfl (any_of HT_.out (by kernel_rfl)) (fun _ _ _ h => h) (Or.inr ⟨by rfl, rfl⟩) ?_ ?_
              rotate_left
              · simp only [Act.put, List.setIfInBounds_toArray, List.set_cons_zero, List.set_cons_succ, i64_w, i32_w]
                rfl
              refine pure_ (i := 40) (N := some 72) (v := undef) (a' := ?_) (fl 41 44 []) rfl rfl (any_of HT_.out (by kernel_rfl)) (fun _ _ _ h => h) (Or.inr ⟨by rfl, rfl⟩) ?_ ?_
              rotate_left
              · simp only [Act.put, List.setIfInBounds_toArray, List.set_cons_zero, List.set_cons_succ, i64_w, i32_w]
                rfl
              refine pure_ (i := 41) (N := some 73) (v := ?_) (a' := ?_) (fl 42 44 []) rfl rfl (any_of HT_.out (by kernel_rfl)) (fun _ _ _ h => h) (Or.inl ⟨by rfl, ?_⟩) ?_ ?_
              rotate_left
              · intro w'
                go_simp
                with_reducible rfl
              rotate_left
              · simp only [Act.put, List.setIfInBounds_toArray, List.set_cons_zero, List.set_cons_succ, i64_w, i32_w]
                rfl
              refine pure_ (i := 42) (N := some 74) (v := ?_) (a' := ?_) (fl 43 44 []) rfl rfl (any_of HT_.out (by kernel_rfl)) (fun _ _ _ h => h) (Or.inl ⟨by rfl, ?_⟩) ?_ ?_
              rotate_left
              · intro w'
                go_simp
                with_reducible rfl
              rotate_left
              · simp only [Act.put, List.setIfInBounds_toArray, List.set_cons_zero, List.set_cons_succ, i64_w, i32_w]
                rfl
              refine pure_ (i := 43) (N := some 4) (v := ?_) (a' := ?_) (fl 44 44 []) rfl rfl (any_of HT_.out (by kernel_rfl)) (fun _ _ _ h => h) (Or.inl ⟨by rfl, ?_⟩) ?_ ?_
              rotate_left
              · intro w'
                go_simp
                with_reducible rfl
              rotate_left
              · simp only [Act.put, List.setIfInBounds_toArray, List.set_cons_zero, List.set_cons_succ, i64_w, i32_w]
                rfl
              refine done_ (done_of HT_.out (by kernel_rfl)) ?_
              try go_wp2
              go_ret
              exact ⟨by first | rfl | (simp [errW_none, errW_some] <;> rfl) | (simp [*, errW_none, errW_some] <;> rfl), by repeat (first | (with_reducible first | exact HB.out | apply below_alloc | apply pw_below_drewN | apply below_drew1 | refine below_set ?_ GE341.out | refine below_set ?_ GE342.out) | exact HB.out)⟩
            · rw [if_neg c56] at H
              have c56b0 : decide (0 < t362) = false := decide_eq_false c56
              clear c56
              replace H := Option.bind_eq_some_iff.mp H
              obtain ⟨t363, A720, H⟩ := H
              replace H : ((nat_Nat_Bits.f kj6 t338).bind fun t364 => (some (decide (t363 ≤ t364)))) = some r := H
              have A72 := Aside0.mk A720
              clear A720
              replace H := Option.bind_eq_some_iff.mp H
              obtain ⟨t364, A730, H⟩ := H
              replace H : (some (decide (t363 ≤ t364))) = some r := H
              have A73 := Aside0.mk A730
              clear A730
              obtain rfl := Option.some.inj H
              have hnb74 := NB341_342.out
              have hnc74 := NB342_341.out
              have hcz75_0 : wc.cell? ⟨gb341, 0, none⟩ = some (.slice Ao16 t332.length co16) := (blk_cell BK341.out 0).trans rfl
              have hfz75_0 := blk_frozen BK341.out 0
              have hcz76_0 : wc.cell? ⟨gb342, 0, none⟩ = some (.slice Ao19 t338.length co19) := (blk_cell BK342.out 0).trans rfl
              have hfz76_0 := blk_frozen BK342.out 0
              try go_wp2_with (first | ((with_reducible refine gate_callee (f := 24) rfl ?_); refine goesL_ (some 30) rfl rfl Try.func24 (by kernel_rfl) rfl #[.agg #[.slice Ao16 t332.length co16], .agg #[.slice Ao19 t338.length co19]] rfl (by (try simp only [List.map_toArray, List.map_cons, List.map_nil]); first | done | rfl | (simp only [List.length_drop, List.length_take]; rfl)) ?_; (with_reducible refine (nat_Nat_Mul.calls kj6 _ _ t332 _ _ t338 t350 _ ?side1 ?side2 ?side3 ?side4 A44.out).mono ?_); (case side1 => exact cv HO_342000.out); (case side2 => exact (Kd.V_reads' HO_342000.out).2.1); (case side3 => exact cv HO_343000.out); (case side4 => exact (Kd.V_reads' HO_343000.out).2.1); rintro e w77 ⟨v351, rfl, ho0, hb⟩; refine ⟨_, rfl, ?_⟩; replace HO_342000 := Aside0.mk (vb HO_342000.out hb); replace HO_343000 := Aside0.mk (vb HO_343000.out hb); have HO352 := Aside0.mk (Kd.V_lower (Kd.V_mono (ok' := fun k_ => k_ ≠ gb341 ∧ k_ ≠ gb342) ho0 (fun k_ hk_ => ⟨(fb BK341.out k_ hk_), (fb BK342.out k_ hk_)⟩)) (bz HB.out)); replace BK341 := Aside0.mk (bb BK341.out hb); replace BK342 := Aside0.mk (bb BK342.out hb); replace HB := Aside0.mk (bs HB.out hb); (try clear hb); (try clear hb2); (try clear hk); (try clear hi); (try clear ho0); obtain ⟨Ao78, co78, eo78⟩ := Kd.V_slice HO352.out; subst eo78) | ((with_reducible refine gate_callee (f := 19) rfl ?_); refine goesL_ (some 31) rfl rfl Try.func19 (by kernel_rfl) rfl #[.agg #[.slice Ao78 t350.length co78]] rfl (by (try simp only [List.map_toArray, List.map_cons, List.map_nil]); first | done | rfl | (simp only [List.length_drop, List.length_take]; rfl)) ?_; (with_reducible refine (nat_Nat_Bits.calls kj6 _ _ t350 t353 _ ?side1 ?side2 A45.out).mono ?_); (case side1 => exact cv HO352.out); (case side2 => exact (Kd.V_reads' HO352.out).2.1); rintro e w79 ⟨rfl, hb⟩; refine ⟨_, rfl, ?_⟩; replace HO_342000 := Aside0.mk (vb HO_342000.out hb); replace HO_343000 := Aside0.mk (vb HO_343000.out hb); replace HO352 := Aside0.mk (vb HO352.out hb); replace BK341 := Aside0.mk (bb BK341.out hb); replace BK342 := Aside0.mk (bb BK342.out hb); replace HB := Aside0.mk (bs HB.out hb); (try clear hb); (try clear hb2); (try clear hk); (try clear hi)))
              replace HO_342000 := Aside0.mk (Kd.V_drew HO_342000.out)
              replace HO_343000 := Aside0.mk (Kd.V_drew HO_343000.out)
              replace HO352 := Aside0.mk (Kd.V_drew HO352.out)
              replace BK341 := Aside0.mk (blk_drew BK341.out)
              replace BK342 := Aside0.mk (blk_drew BK342.out)
              replace HB := Aside0.mk (below_drew1 HB.out)
              refine start_ (n := 44) (S := fun w' => w'.cell? ⟨gb341, 0, none⟩ = some (.slice Ao16 t332.length co16) ∧ w'.cell? ⟨gb342, 0, none⟩ = some (.slice Ao19 t338.length co19)) (ds := []) (fl 0 44 []) (by kernel_rfl) rfl rfl ⟨(blk_cell BK341.out 0).trans rfl, (blk_cell BK342.out 0).trans rfl⟩ (fun hHeld => ?_); refine with_tabW chattellaw01_NatBits.tab5 chattellaw01_NatBits.bits5 (fun HT_ HW_ => ?_)
              generalize w79.drew = w80 at HO_342000 HO_343000 HO352 BK341 BK342 HB hHeld ⊢
              refine one_ (i := 0) (N := some 32) (fl 1 44 []) rfl rfl (one_of HT_.out (by kernel_rfl)) (by decide) (fun K hK => ?_)
              refine goes_ Try.func20 (by kernel_rfl) rfl #[] (by rfl) rfl rfl (by (try simp only [List.map_toArray, List.map_cons, List.map_nil]); first | done | rfl | (simp only [List.length_drop, List.length_take]; rfl)) ?_
              with_reducible refine (chattellaw01_wakes.calls kj6  true _ A46.out).mono ?_
              rintro e w81 ⟨rfl, hb⟩
              refine ⟨_, rfl, ?_⟩
              replace HO_342000 := Aside0.mk (vb HO_342000.out hb)
              replace HO_343000 := Aside0.mk (vb HO_343000.out hb)
              replace HO352 := Aside0.mk (vb HO352.out hb)
              replace BK341 := Aside0.mk (bb BK341.out hb)
              replace BK342 := Aside0.mk (bb BK342.out hb)
              replace HB := Aside0.mk (bs HB.out hb)
              (try clear hb)
              (try clear hb2)
              (try clear hk)
              (try clear hi)
              refine hK.out _ _ ⟨(blk_cell BK341.out 0).trans rfl, (blk_cell BK342.out 0).trans rfl⟩ (fun hHeld => ?_)
              clear hK K
              refine norm_ (a' := ?_) ?_ ?_
              rotate_left
              · show Act.put _ (some 32) _ = _
                simp only [Act.put, List.setIfInBounds_toArray, List.set_cons_zero, List.set_cons_succ, i64_w, i32_w]
                rfl
              refine pure_ (i := 1) (N := some 33) (v := ?_) (a' := ?_) (fl 2 44 []) rfl rfl (any_of HT_.out (by kernel_rfl)) (fun _ _ _ h => h) (Or.inl ⟨by rfl, ?_⟩) ?_ ?_
              rotate_left
              · intro w'
                go_simp
                with_reducible rfl
              rotate_left
              · simp only [Act.put, List.setIfInBounds_toArray, List.set_cons_zero, List.set_cons_succ, i64_w, i32_w]
                rfl
              refine pure_ (i := 2) (N := some 34) (v := ?_) (a' := ?_) (fl 3 44 []) rfl rfl (any_of HT_.out (by kernel_rfl)) (fun _ _ _ h => h) (Or.inl ⟨by rfl, ?_⟩) ?_ ?_
              rotate_left
              · intro w'
                go_simp
                with_reducible rfl
              rotate_left
              · simp only [Act.put, List.setIfInBounds_toArray, List.set_cons_zero, List.set_cons_succ, i64_w, i32_w]
                rfl
              refine take_ (i := 3) (N := some 35) (v := ?_) (a' := ?_) (fl 4 44 []) rfl rfl (take_ofW HT_.out HW_.out (by kernel_rfl)) (fun _ _ _ h => h) (Or.inl ⟨by rfl, ?_⟩) hHeld ?_ ?_
              rotate_left
              · rintro w' ⟨s0, s1⟩
                go_simp
                with_reducible rfl
              rotate_left
              · simp only [Act.put, List.setIfInBounds_toArray, List.set_cons_zero, List.set_cons_succ, i64_w, i32_w]
                rfl
              refine take_ (i := 5) (N := some 37) (v := ?_) (a' := ?_) (fl 4 44 [5]) rfl rfl (take_ofW HT_.out HW_.out (by kernel_rfl)) (fun _ _ _ h => h) (Or.inl ⟨by rfl, ?_⟩) hHeld ?_ ?_
              rotate_left
              · rintro w' ⟨s0, s1⟩
                go_simp
                with_reducible rfl
              rotate_left
              · simp only [Act.put, List.setIfInBounds_toArray, List.set_cons_zero, List.set_cons_succ, i64_w, i32_w]
                rfl
              refine one_ (i := 4) (N := some 36) (fl 6 44 []) rfl rfl (one_of HT_.out (by kernel_rfl)) (by decide) (fun K hK => ?_)
              refine goes_ Try.func19 (by kernel_rfl) rfl #[.agg #[.slice Ao16 t332.length co16]] (by rfl) rfl rfl (by (try simp only [List.map_toArray, List.map_cons, List.map_nil]); first | done | rfl | (simp only [List.length_drop, List.length_take]; rfl)) ?_
              with_reducible refine (nat_Nat_Bits.calls kj6 _ _ t332 t355 _ ?side1 ?side2 A48.out).mono ?_
              (case side1 => exact cv HO_342000.out)
              (case side2 => exact (Kd.V_reads' HO_342000.out).2.1)
              rintro e w82 ⟨rfl, hb⟩
              refine ⟨_, rfl, ?_⟩
              replace HO_342000 := Aside0.mk (vb HO_342000.out hb)
              replace HO_343000 := Aside0.mk (vb HO_343000.out hb)
              replace HO352 := Aside0.mk (vb HO352.out hb)
              replace BK341 := Aside0.mk (bb BK341.out hb)
              replace BK342 := Aside0.mk (bb BK342.out hb)
              replace HB := Aside0.mk (bs HB.out hb)
              (try clear hb)
              (try clear hb2)
              (try clear hk)
              (try clear hi)
              refine hK.out _ _ ⟨(blk_cell BK341.out 0).trans rfl, (blk_cell BK342.out 0).trans rfl⟩ (fun hHeld => ?_)
              clear hK K
              refine norm_ (a' := ?_) ?_ ?_
              rotate_left
              · show Act.put _ (some 36) _ = _
                simp only [Act.put, List.setIfInBounds_toArray, List.set_cons_zero, List.set_cons_succ, i64_w, i32_w]
                rfl
              refine one_ (i := 6) (N := some 38) (fl 7 44 []) rfl rfl (one_of HT_.out (by kernel_rfl)) (by decide) (fun K hK => ?_)
              refine goes_ Try.func19 (by kernel_rfl) rfl #[.agg #[.slice Ao19 t338.length co19]] (by rfl) rfl rfl (by (try simp only [List.map_toArray, List.map_cons, List.map_nil]); first | done | rfl | (simp only [List.length_drop, List.length_take]; rfl)) ?_
              with_reducible refine (nat_Nat_Bits.calls kj6 _ _ t338 t356 _ ?side1 ?side2 A49.out).mono ?_
              (case side1 => exact cv HO_343000.out)
              (case side2 => exact (Kd.V_reads' HO_343000.out).2.1)
              rintro e w83 ⟨rfl, hb⟩
              refine ⟨_, rfl, ?_⟩
              replace HO_342000 := Aside0.mk (vb HO_342000.out hb)
              replace HO_343000 := Aside0.mk (vb HO_343000.out hb)
              replace HO352 := Aside0.mk (vb HO352.out hb)
              replace BK341 := Aside0.mk (bb BK341.out hb)
              replace BK342 := Aside0.mk (bb BK342.out hb)
              replace HB := Aside0.mk (bs HB.out hb)
              (try clear hb)
              (try clear hb2)
              (try clear hk)
              (try clear hi)
              refine hK.out _ _ ⟨(blk_cell BK341.out 0).trans rfl, (blk_cell BK342.out 0).trans rfl⟩ (fun hHeld => ?_)
              clear hK K
              refine norm_ (a' := ?_) ?_ ?_
              rotate_left
              · show Act.put _ (some 38) _ = _
                simp only [Act.put, List.setIfInBounds_toArray, List.set_cons_zero, List.set_cons_succ, i64_w, i32_w]
                rfl
              refine pure_ (i := 7) (N := some 39) (v := ?_) (a' := ?_) (fl 8 44 []) rfl rfl (any_of HT_.out (by kernel_rfl)) (fun _ _ _ h => h) (Or.inl ⟨by rfl, ?_⟩) ?_ ?_
              rotate_left
              · intro w'
                go_simp
                with_reducible rfl
              rotate_left
              · simp only [Act.put, List.setIfInBounds_toArray, List.set_cons_zero, List.set_cons_succ, i64_w, i32_w]
                rfl
              refine pure_ (i := 8) (N := some 40) (v := ?_) (a' := ?_) (fl 9 44 []) rfl rfl (any_of HT_.out (by kernel_rfl)) (fun _ _ _ h => h) (Or.inl ⟨by rfl, ?_⟩) ?_ ?_
              rotate_left
              · intro w'
                go_simp
                with_reducible rfl
              rotate_left
              · simp only [Act.put, List.setIfInBounds_toArray, List.set_cons_zero, List.set_cons_succ, i64_w, i32_w]
                rfl
              refine pure_ (i := 9) (N := some 41) (v := ?_) (a' := ?_) (fl 10 44 []) rfl rfl (any_of HT_.out (by kernel_rfl)) (fun _ _ _ h => h) (Or.inl ⟨by rfl, ?_⟩) ?_ ?_
              rotate_left
              · intro w'
                go_simp
                with_reducible rfl
              rotate_left
              · simp only [Act.put, List.setIfInBounds_toArray, List.set_cons_zero, List.set_cons_succ, i64_w, i32_w]
                rfl
              refine pure_ (i := 10) (N := some 42) (v := undef) (a' := ?_) (fl 11 44 []) rfl rfl (any_of HT_.out (by kernel_rfl)) (fun _ _ _ h => h) (Or.inr ⟨by rfl, rfl⟩) ?_ ?_
              rotate_left
              · simp only [Act.put, List.setIfInBounds_toArray, List.set_cons_zero, List.set_cons_succ, i64_w, i32_w]
                rfl
              refine pure_ (i := 11) (N := some 43) (v := undef) (a' := ?_) (fl 12 44 []) rfl rfl (any_of HT_.out (by kernel_rfl)) (fun _ _ _ h => h) (Or.inr ⟨by rfl, rfl⟩) ?_ ?_
              rotate_left
              · simp only [Act.put, List.setIfInBounds_toArray, List.set_cons_zero, List.set_cons_succ, i64_w, i32_w]
                rfl
              refine pure_ (i := 12) (N := some 44) (v := undef) (a' := ?_) (fl 13 44 []) rfl rfl (any_of HT_.out (by kernel_rfl)) (fun _ _ _ h => h) (Or.inr ⟨by rfl, rfl⟩) ?_ ?_
              rotate_left
              · simp only [Act.put, List.setIfInBounds_toArray, List.set_cons_zero, List.set_cons_succ, i64_w, i32_w]
                rfl
              refine pure_ (i := 13) (N := some 45) (v := undef) (a' := ?_) (fl 14 44 []) rfl rfl (any_of HT_.out (by kernel_rfl)) (fun _ _ _ h => h) (Or.inr ⟨by rfl, rfl⟩) ?_ ?_
              rotate_left
              · simp only [Act.put, List.setIfInBounds_toArray, List.set_cons_zero, List.set_cons_succ, i64_w, i32_w]
                rfl
              refine pure_ (i := 14) (N := some 46) (v := undef) (a' := ?_) (fl 15 44 []) rfl rfl (any_of HT_.out (by kernel_rfl)) (fun _ _ _ h => h) (Or.inr ⟨by rfl, rfl⟩) ?_ ?_
              rotate_left
              · simp only [Act.put, List.setIfInBounds_toArray, List.set_cons_zero, List.set_cons_succ, i64_w, i32_w]
                rfl
              refine pure_ (i := 15) (N := some 47) (v := undef) (a' := ?_) (fl 16 44 []) rfl rfl (any_of HT_.out (by kernel_rfl)) (fun _ _ _ h => h) (Or.inr ⟨by rfl, rfl⟩) ?_ ?_
              rotate_left
              · simp only [Act.put, List.setIfInBounds_toArray, List.set_cons_zero, List.set_cons_succ, i64_w, i32_w]
                rfl
              refine pure_ (i := 16) (N := some 48) (v := undef) (a' := ?_) (fl 17 44 []) rfl rfl (any_of HT_.out (by kernel_rfl)) (fun _ _ _ h => h) (Or.inr ⟨by rfl, rfl⟩) ?_ ?_
              rotate_left
              · simp only [Act.put, List.setIfInBounds_toArray, List.set_cons_zero, List.set_cons_succ, i64_w, i32_w]
                rfl
              refine pure_ (i := 17) (N := some 49) (v := undef) (a' := ?_) (fl 18 44 []) rfl rfl (any_of HT_.out (by kernel_rfl)) (fun _ _ _ h => h) (Or.inr ⟨by rfl, rfl⟩) ?_ ?_
              rotate_left
              · simp only [Act.put, List.setIfInBounds_toArray, List.set_cons_zero, List.set_cons_succ, i64_w, i32_w]
                rfl
              refine pure_ (i := 18) (N := some 50) (v := ?_) (a' := ?_) (fl 19 44 []) rfl rfl (any_of HT_.out (by kernel_rfl)) (fun _ _ _ h => h) (Or.inl ⟨by rfl, ?_⟩) ?_ ?_
              rotate_left
              · intro w'
                go_simp
                with_reducible rfl
              rotate_left
              · simp only [Act.put, List.setIfInBounds_toArray, List.set_cons_zero, List.set_cons_succ, i64_w, i32_w]
                rfl
              refine pure_ (i := 19) (N := some 51) (v := ?_) (a' := ?_) (fl 20 44 []) rfl rfl (any_of HT_.out (by kernel_rfl)) (fun _ _ _ h => h) (Or.inl ⟨by rfl, ?_⟩) ?_ ?_
              rotate_left
              · intro w'
                go_simp
                with_reducible rfl
              rotate_left
              · simp only [Act.put, List.setIfInBounds_toArray, List.set_cons_zero, List.set_cons_succ, i64_w, i32_w]
                rfl
              refine pure_ (i := 20) (N := some 52) (v := ?_) (a' := ?_) (fl 21 44 []) rfl rfl (any_of HT_.out (by kernel_rfl)) (fun _ _ _ h => h) (Or.inl ⟨by rfl, ?_⟩) ?_ ?_
              rotate_left
              · intro w'
                go_simp
                with_reducible rfl
              rotate_left
              · simp only [Act.put, List.setIfInBounds_toArray, List.set_cons_zero, List.set_cons_succ, i64_w, i32_w]
                rfl
              refine take_ (i := 21) (N := some 53) (v := ?_) (a' := ?_) (fl 22 44 []) rfl rfl (take_ofW HT_.out HW_.out (by kernel_rfl)) (fun _ _ _ h => h) (Or.inl ⟨by rfl, ?_⟩) hHeld ?_ ?_
              rotate_left
              · rintro w' ⟨s0, s1⟩
                go_simp
                with_reducible rfl
              rotate_left
              · simp only [Act.put, List.setIfInBounds_toArray, List.set_cons_zero, List.set_cons_succ, i64_w, i32_w]
                rfl
              refine take_ (i := 22) (N := some 54) (v := ?_) (a' := ?_) (fl 23 44 []) rfl rfl (take_ofW HT_.out HW_.out (by kernel_rfl)) (fun _ _ _ h => h) (Or.inl ⟨by rfl, ?_⟩) hHeld ?_ ?_
              rotate_left
              · rintro w' ⟨s0, s1⟩
                go_simp
                with_reducible rfl
              rotate_left
              · simp only [Act.put, List.setIfInBounds_toArray, List.set_cons_zero, List.set_cons_succ, i64_w, i32_w]
                rfl
              refine take_ (i := 25) (N := some 57) (v := ?_) (a' := ?_) (fl 23 44 [25]) rfl rfl (take_ofW HT_.out HW_.out (by kernel_rfl)) (fun _ _ _ h => h) (Or.inl ⟨by rfl, ?_⟩) hHeld ?_ ?_
              rotate_left
              · rintro w' ⟨s0, s1⟩
                go_simp
                with_reducible rfl
              rotate_left
              · simp only [Act.put, List.setIfInBounds_toArray, List.set_cons_zero, List.set_cons_succ, i64_w, i32_w]
                rfl
              refine one_ (i := 23) (N := some 55) (fl 24 44 [25]) rfl rfl (one_of HT_.out (by kernel_rfl)) (by decide) (fun K hK => ?_)
              refine goes_ Try.func25 (by kernel_rfl) rfl #[.agg #[.slice Ao16 t332.length co16], .agg #[.slice Ao16 t332.length co16]] (by rfl) rfl rfl (by (try simp only [List.map_toArray, List.map_cons, List.map_nil]); first | done | rfl | (simp only [List.length_drop, List.length_take]; rfl)) ?_
              with_reducible refine (nat_Nat_Add.calls kj6 _ _ t332 _ _ t332 t357 _ ?side1 ?side2 ?side3 ?side4 A51.out).mono ?_
              (case side1 => exact cv HO_342000.out)
              (case side2 => exact (Kd.V_reads' HO_342000.out).2.1)
              (case side3 => exact cv HO_342000.out)
              (case side4 => exact (Kd.V_reads' HO_342000.out).2.1)
              rintro e w84 ⟨v358, rfl, ho0, hb⟩
              refine ⟨_, rfl, ?_⟩
              replace HO_342000 := Aside0.mk (vb HO_342000.out hb)
              replace HO_343000 := Aside0.mk (vb HO_343000.out hb)
              replace HO352 := Aside0.mk (vb HO352.out hb)
              have HO359 := Aside0.mk (Kd.V_lower (Kd.V_mono (ok' := fun k_ => k_ ≠ gb341 ∧ k_ ≠ gb342) ho0 (fun k_ hk_ => ⟨(fb BK341.out k_ hk_), (fb BK342.out k_ hk_)⟩)) (bz HB.out))
              replace BK341 := Aside0.mk (bb BK341.out hb)
              replace BK342 := Aside0.mk (bb BK342.out hb)
              replace HB := Aside0.mk (bs HB.out hb)
              (try clear hb)
              (try clear hb2)
              (try clear hk)
              (try clear hi)
              (try clear ho0)
              obtain ⟨Ao85, co85, eo85⟩ := Kd.V_slice HO359.out
              (first | subst eo85 | (injection eo85 with f1_ f2_ f3_; have f4_ := f1_.symm; have f5_ := f3_.symm; clear f1_ f2_ f3_; subst f4_; subst f5_))
              refine hK.out _ _ ⟨(blk_cell BK341.out 0).trans rfl, (blk_cell BK342.out 0).trans rfl⟩ (fun hHeld => ?_)
              clear hK K
              refine norm_ (a' := ?_) ?_ ?_
              rotate_left
              · show Act.put _ (some 55) _ = _
                simp only [Act.put, List.setIfInBounds_toArray, List.set_cons_zero, List.set_cons_succ, i64_w, i32_w]
                rfl
              refine one_ (i := 24) (N := some 56) (fl 26 44 []) rfl rfl (one_of HT_.out (by kernel_rfl)) (by decide) (fun K hK => ?_)
              refine goes_ Try.func19 (by kernel_rfl) rfl #[.agg #[.slice Ao85 t357.length co85]] (by rfl) rfl rfl (by (try simp only [List.map_toArray, List.map_cons, List.map_nil]); first | done | rfl | (simp only [List.length_drop, List.length_take]; rfl)) ?_
              with_reducible refine (nat_Nat_Bits.calls kj6 _ _ t357 t360 _ ?side1 ?side2 A52.out).mono ?_
              (case side1 => exact cv HO359.out)
              (case side2 => exact (Kd.V_reads' HO359.out).2.1)
              rintro e w86 ⟨rfl, hb⟩
              refine ⟨_, rfl, ?_⟩
              replace HO_342000 := Aside0.mk (vb HO_342000.out hb)
              replace HO_343000 := Aside0.mk (vb HO_343000.out hb)
              replace HO352 := Aside0.mk (vb HO352.out hb)
              replace HO359 := Aside0.mk (vb HO359.out hb)
              replace BK341 := Aside0.mk (bb BK341.out hb)
              replace BK342 := Aside0.mk (bb BK342.out hb)
              replace HB := Aside0.mk (bs HB.out hb)
              (try clear hb)
              (try clear hb2)
              (try clear hk)
              (try clear hi)
              refine hK.out _ _ ⟨(blk_cell BK341.out 0).trans rfl, (blk_cell BK342.out 0).trans rfl⟩ (fun hHeld => ?_)
              clear hK K
              refine norm_ (a' := ?_) ?_ ?_
              rotate_left
              · show Act.put _ (some 56) _ = _
                simp only [Act.put, List.setIfInBounds_toArray, List.set_cons_zero, List.set_cons_succ, i64_w, i32_w]
                rfl
              refine one_ (i := 26) (N := some 58) (fl 27 44 []) rfl rfl (one_of HT_.out (by kernel_rfl)) (by decide) (fun K hK => ?_)
              refine goes_ Try.func19 (by kernel_rfl) rfl #[.agg #[.slice Ao16 t332.length co16]] (by rfl) rfl rfl (by (try simp only [List.map_toArray, List.map_cons, List.map_nil]); first | done | rfl | (simp only [List.length_drop, List.length_take]; rfl)) ?_
              with_reducible refine (nat_Nat_Bits.calls kj6 _ _ t332 t361 _ ?side1 ?side2 A53.out).mono ?_
              (case side1 => exact cv HO_342000.out)
              (case side2 => exact (Kd.V_reads' HO_342000.out).2.1)
              rintro e w87 ⟨rfl, hb⟩
              refine ⟨_, rfl, ?_⟩
              replace HO_342000 := Aside0.mk (vb HO_342000.out hb)
              replace HO_343000 := Aside0.mk (vb HO_343000.out hb)
              replace HO352 := Aside0.mk (vb HO352.out hb)
              replace HO359 := Aside0.mk (vb HO359.out hb)
              replace BK341 := Aside0.mk (bb BK341.out hb)
              replace BK342 := Aside0.mk (bb BK342.out hb)
              replace HB := Aside0.mk (bs HB.out hb)
              (try clear hb)
              (try clear hb2)
              (try clear hk)
              (try clear hi)
              refine hK.out _ _ ⟨(blk_cell BK341.out 0).trans rfl, (blk_cell BK342.out 0).trans rfl⟩ (fun hHeld => ?_)
              clear hK K
              refine norm_ (a' := ?_) ?_ ?_
              rotate_left
              · show Act.put _ (some 58) _ = _
                simp only [Act.put, List.setIfInBounds_toArray, List.set_cons_zero, List.set_cons_succ, i64_w, i32_w]
                rfl
              refine pure_ (i := 27) (N := some 59) (v := ?_) (a' := ?_) (fl 28 44 []) rfl rfl (any_of HT_.out (by kernel_rfl)) (fun _ _ _ h => h) (Or.inl ⟨by rfl, ?_⟩) ?_ ?_
              rotate_left
              · intro w'
                go_simp
                with_reducible rfl
              rotate_left
              · simp only [Act.put, List.setIfInBounds_toArray, List.set_cons_zero, List.set_cons_succ, i64_w, i32_w]
                rfl
              refine pure_ (i := 28) (N := some 60) (v := ?_) (a' := ?_) (fl 29 44 []) rfl rfl (any_of HT_.out (by kernel_rfl)) (fun _ _ _ h => h) (Or.inl ⟨by rfl, ?_⟩) ?_ ?_
              rotate_left
              · intro w'
                go_simp
                with_reducible rfl
              rotate_left
              · simp only [Act.put, List.setIfInBounds_toArray, List.set_cons_zero, List.set_cons_succ, i64_w, i32_w]
                rfl
              refine pure_ (i := 29) (N := some 61) (v := ?_) (a' := ?_) (fl 30 44 []) rfl rfl (any_of HT_.out (by kernel_rfl)) (fun _ _ _ h => h) (Or.inl ⟨by rfl, ?_⟩) ?_ ?_
              rotate_left
              · intro w'
                go_simp
                with_reducible rfl
              rotate_left
              · simp only [Act.put, List.setIfInBounds_toArray, List.set_cons_zero, List.set_cons_succ, i64_w, i32_w]
                rfl
              refine pure_ (i := 30) (N := some 62) (v := ?_) (a' := ?_) (fl 31 44 []) rfl rfl (any_of HT_.out (by kernel_rfl)) (fun _ _ _ h => h) (Or.inl ⟨by rfl, ?_⟩) ?_ ?_
              rotate_left
              · intro w'
                go_simp
                with_reducible rfl
              rotate_left
              · simp only [Act.put, List.setIfInBounds_toArray, List.set_cons_zero, List.set_cons_succ, i64_w, i32_w]
                rfl
              refine take_ (i := 31) (N := some 63) (v := ?_) (a' := ?_) (fl 32 44 []) rfl rfl (take_ofW HT_.out HW_.out (by kernel_rfl)) (fun _ _ _ h => h) (Or.inl ⟨by rfl, ?_⟩) hHeld ?_ ?_
              rotate_left
              · rintro w' ⟨s0, s1⟩
                go_simp
                with_reducible rfl
              rotate_left
              · simp only [Act.put, List.setIfInBounds_toArray, List.set_cons_zero, List.set_cons_succ, i64_w, i32_w]
                rfl
              refine take_ (i := 32) (N := some 64) (v := ?_) (a' := ?_) (fl 33 44 []) rfl rfl (take_ofW HT_.out HW_.out (by kernel_rfl)) (fun _ _ _ h => h) (Or.inl ⟨by rfl, ?_⟩) hHeld ?_ ?_
              rotate_left
              · rintro w' ⟨s0, s1⟩
                go_simp
                with_reducible rfl
              rotate_left
              · simp only [Act.put, List.setIfInBounds_toArray, List.set_cons_zero, List.set_cons_succ, i64_w, i32_w]
                rfl
              refine one_ (i := 33) (N := some 65) (fl 34 44 []) rfl rfl (one_of HT_.out (by kernel_rfl)) (by decide) (fun K hK => ?_)
              refine goes_ Try.func21 (by kernel_rfl) rfl #[.agg #[.slice Ao16 t332.length co16], .agg #[.slice Ao19 t338.length co19]] (by rfl) rfl rfl (by (try simp only [List.map_toArray, List.map_cons, List.map_nil]); first | done | rfl | (simp only [List.length_drop, List.length_take]; rfl)) ?_
              with_reducible refine (nat_Nat_Cmp.calls kj6 _ _ t332 _ _ t338 t362 _ ?side1 ?side2 ?side3 ?side4 A55.out).mono ?_
              (case side1 => exact cv HO_342000.out)
              (case side2 => exact (Kd.V_reads' HO_342000.out).2.1)
              (case side3 => exact cv HO_343000.out)
              (case side4 => exact (Kd.V_reads' HO_343000.out).2.1)
              rintro e w88 ⟨rfl, hb⟩
              refine ⟨_, rfl, ?_⟩
              replace HO_342000 := Aside0.mk (vb HO_342000.out hb)
              replace HO_343000 := Aside0.mk (vb HO_343000.out hb)
              replace HO352 := Aside0.mk (vb HO352.out hb)
              replace HO359 := Aside0.mk (vb HO359.out hb)
              replace BK341 := Aside0.mk (bb BK341.out hb)
              replace BK342 := Aside0.mk (bb BK342.out hb)
              replace HB := Aside0.mk (bs HB.out hb)
              (try clear hb)
              (try clear hb2)
              (try clear hk)
              (try clear hi)
              refine hK.out _ _ ⟨(blk_cell BK341.out 0).trans rfl, (blk_cell BK342.out 0).trans rfl⟩ (fun hHeld => ?_)
              clear hK K
              refine norm_ (a' := ?_) ?_ ?_
              rotate_left
              · show Act.put _ (some 65) _ = _
                simp only [Act.put, List.setIfInBounds_toArray, List.set_cons_zero, List.set_cons_succ, i64_w, i32_w]
                rfl
              refine pure_ (i := 34) (N := some 66) (v := ?_) (a' := ?_) (fl 35 44 []) rfl rfl (any_of HT_.out (by kernel_rfl)) (fun _ _ _ h => h) (Or.inl ⟨by rfl, ?_⟩) ?_ ?_
              rotate_left
              · intro w'
                go_simp
                with_reducible rfl
              rotate_left
              · simp only [Act.put, List.setIfInBounds_toArray, List.set_cons_zero, List.set_cons_succ, i64_w, i32_w]
                rfl
              refine pure_ (i := 35) (N := some 67) (v := ?_) (a' := ?_) (fl 36 44 []) rfl rfl (any_of HT_.out (by kernel_rfl)) (fun _ _ _ h => h) (Or.inl ⟨by rfl, ?_⟩) ?_ ?_
              rotate_left
              · intro w'
                go_simp
                with_reducible rfl
              rotate_left
              · simp only [Act.put, List.setIfInBounds_toArray, List.set_cons_zero, List.set_cons_succ, i64_w, i32_w]
                rfl
              refine take_ (i := 36) (N := some 68) (v := ?_) (a' := ?_) (fl 37 44 []) rfl rfl (take_ofW HT_.out HW_.out (by kernel_rfl)) (fun _ _ _ h => h) (Or.inl ⟨by rfl, ?_⟩) hHeld ?_ ?_
              rotate_left
              · rintro w' ⟨s0, s1⟩
                go_simp
                with_reducible rfl
              rotate_left
              · simp only [Act.put, List.setIfInBounds_toArray, List.set_cons_zero, List.set_cons_succ, i64_w, i32_w]
                rfl
              refine take_ (i := 38) (N := some 70) (v := ?_) (a' := ?_) (fl 37 44 [38]) rfl rfl (take_ofW HT_.out HW_.out (by kernel_rfl)) (fun _ _ _ h => h) (Or.inl ⟨by rfl, ?_⟩) hHeld ?_ ?_
              rotate_left
              · rintro w' ⟨s0, s1⟩
                go_simp
                with_reducible rfl
              rotate_left
              · simp only [Act.put, List.setIfInBounds_toArray, List.set_cons_zero, List.set_cons_succ, i64_w, i32_w]
                rfl
              refine one_ (i := 37) (N := some 69) (fl 39 44 []) rfl rfl (one_of HT_.out (by kernel_rfl)) (by decide) (fun K hK => ?_)
              refine goes_ Try.func19 (by kernel_rfl) rfl #[.agg #[.slice Ao16 t332.length co16]] (by rfl) rfl rfl (by (try simp only [List.map_toArray, List.map_cons, List.map_nil]); first | done | rfl | (simp only [List.length_drop, List.length_take]; rfl)) ?_
              with_reducible refine (nat_Nat_Bits.calls kj6 _ _ t332 t363 _ ?side1 ?side2 A72.out).mono ?_
              (case side1 => exact cv HO_342000.out)
              (case side2 => exact (Kd.V_reads' HO_342000.out).2.1)
              rintro e w89 ⟨rfl, hb⟩
              refine ⟨_, rfl, ?_⟩
              replace HO_342000 := Aside0.mk (vb HO_342000.out hb)
              replace HO_343000 := Aside0.mk (vb HO_343000.out hb)
              replace HO352 := Aside0.mk (vb HO352.out hb)
              replace HO359 := Aside0.mk (vb HO359.out hb)
              replace BK341 := Aside0.mk (bb BK341.out hb)
              replace BK342 := Aside0.mk (bb BK342.out hb)
              replace HB := Aside0.mk (bs HB.out hb)
              (try clear hb)
              (try clear hb2)
              (try clear hk)
              (try clear hi)
              refine hK.out _ _ ⟨(blk_cell BK341.out 0).trans rfl, (blk_cell BK342.out 0).trans rfl⟩ (fun hHeld => ?_)
              clear hK K
              refine norm_ (a' := ?_) ?_ ?_
              rotate_left
              · show Act.put _ (some 69) _ = _
                simp only [Act.put, List.setIfInBounds_toArray, List.set_cons_zero, List.set_cons_succ, i64_w, i32_w]
                rfl
              refine one_ (i := 39) (N := some 71) (fl 40 44 []) rfl rfl (one_of HT_.out (by kernel_rfl)) (by decide) (fun K hK => ?_)
              refine goes_ Try.func19 (by kernel_rfl) rfl #[.agg #[.slice Ao19 t338.length co19]] (by rfl) rfl rfl (by (try simp only [List.map_toArray, List.map_cons, List.map_nil]); first | done | rfl | (simp only [List.length_drop, List.length_take]; rfl)) ?_
              with_reducible refine (nat_Nat_Bits.calls kj6 _ _ t338 t364 _ ?side1 ?side2 A73.out).mono ?_
              (case side1 => exact cv HO_343000.out)
              (case side2 => exact (Kd.V_reads' HO_343000.out).2.1)
              rintro e w90 ⟨rfl, hb⟩
              refine ⟨_, rfl, ?_⟩
              replace HO_342000 := Aside0.mk (vb HO_342000.out hb)
              replace HO_343000 := Aside0.mk (vb HO_343000.out hb)
              replace HO352 := Aside0.mk (vb HO352.out hb)
              replace HO359 := Aside0.mk (vb HO359.out hb)
              replace BK341 := Aside0.mk (bb BK341.out hb)
              replace BK342 := Aside0.mk (bb BK342.out hb)
              replace HB := Aside0.mk (bs HB.out hb)
              (try clear hb)
              (try clear hb2)
              (try clear hk)
              (try clear hi)
              refine hK.out _ _ ⟨(blk_cell BK341.out 0).trans rfl, (blk_cell BK342.out 0).trans rfl⟩ (fun hHeld => ?_)
              clear hK K
              refine norm_ (a' := ?_) ?_ ?_
              rotate_left
              · show Act.put _ (some 71) _ = _
                simp only [Act.put, List.setIfInBounds_toArray, List.set_cons_zero, List.set_cons_succ, i64_w, i32_w]
                rfl
              refine pure_ (i := 40) (N := some 72) (v := ?_) (a' := ?_) (fl 41 44 []) rfl rfl (any_of HT_.out (by kernel_rfl)) (fun _ _ _ h => h) (Or.inl ⟨by rfl, ?_⟩) ?_ ?_
              rotate_left
              · intro w'
                go_simp
                with_reducible rfl
              rotate_left
              · simp only [Act.put, List.setIfInBounds_toArray, List.set_cons_zero, List.set_cons_succ, i64_w, i32_w]
                rfl
              refine pure_ (i := 41) (N := some 73) (v := ?_) (a' := ?_) (fl 42 44 []) rfl rfl (any_of HT_.out (by kernel_rfl)) (fun _ _ _ h => h) (Or.inl ⟨by rfl, ?_⟩) ?_ ?_
              rotate_left
              · intro w'
                go_simp
                with_reducible rfl
              rotate_left
              · simp only [Act.put, List.setIfInBounds_toArray, List.set_cons_zero, List.set_cons_succ, i64_w, i32_w]
                rfl
              refine pure_ (i := 42) (N := some 74) (v := ?_) (a' := ?_) (fl 43 44 []) rfl rfl (any_of HT_.out (by kernel_rfl)) (fun _ _ _ h => h) (Or.inl ⟨by rfl, ?_⟩) ?_ ?_
              rotate_left
              · intro w'
                go_simp
                with_reducible rfl
              rotate_left
              · simp only [Act.put, List.setIfInBounds_toArray, List.set_cons_zero, List.set_cons_succ, i64_w, i32_w]
                rfl
              refine pure_ (i := 43) (N := some 4) (v := ?_) (a' := ?_) (fl 44 44 []) rfl rfl (any_of HT_.out (by kernel_rfl)) (fun _ _ _ h => h) (Or.inl ⟨by rfl, ?_⟩) ?_ ?_
              rotate_left
              · intro w'
                go_simp
                with_reducible rfl
              rotate_left
              · simp only [Act.put, List.setIfInBounds_toArray, List.set_cons_zero, List.set_cons_succ, i64_w, i32_w]
                rfl
              refine done_ (done_of HT_.out (by kernel_rfl)) ?_
              try go_wp2
              go_ret
              exact ⟨by first | rfl | (simp [errW_none, errW_some] <;> rfl) | (simp [*, errW_none, errW_some] <;> rfl), by repeat (first | (with_reducible first | exact HB.out | apply below_alloc | apply pw_below_drewN | apply below_drew1 | refine below_set ?_ GE341.out | refine below_set ?_ GE342.out) | exact HB.out)⟩
          · rw [if_neg c50] at H
            have c50b0 : (t353 == (wrap64 (t355 + t356))) = false := beq_eq_false_iff_ne.mpr c50
            have c50b1 : (t353 != (wrap64 (t355 + t356))) = true := bne_iff_ne.mpr c50
            replace H := Option.bind_eq_some_iff.mp H
            obtain ⟨t365, A910, H⟩ := H
            replace H : ((nat_Nat_Bits.f kj6 t338).bind fun t366 => (if t353 = (wrap64 ((wrap64 (t365 + t366)) - 1)) then ((nat_Nat_Add.f kj6 t332 t332).bind fun t367 => ((nat_Nat_Bits.f kj6 t367).bind fun t370 => ((nat_Nat_Bits.f kj6 t332).bind fun t371 => (if t370 = (wrap64 (t371 + 1)) then ((nat_Nat_Cmp.f kj6 t332 t338).bind fun t372 => (if t372 > 0 then (some true) else ((nat_Nat_Bits.f kj6 t332).bind fun t373 => ((nat_Nat_Bits.f kj6 t338).bind fun t374 => (some (decide (t373 ≤ t374))))))) else (some false))))) else (some false))) = some r := H
            have A91 := Aside0.mk A910
            clear A910
            replace H := Option.bind_eq_some_iff.mp H
            obtain ⟨t366, A920, H⟩ := H
            replace H : (if t353 = (wrap64 ((wrap64 (t365 + t366)) - 1)) then ((nat_Nat_Add.f kj6 t332 t332).bind fun t367 => ((nat_Nat_Bits.f kj6 t367).bind fun t370 => ((nat_Nat_Bits.f kj6 t332).bind fun t371 => (if t370 = (wrap64 (t371 + 1)) then ((nat_Nat_Cmp.f kj6 t332 t338).bind fun t372 => (if t372 > 0 then (some true) else ((nat_Nat_Bits.f kj6 t332).bind fun t373 => ((nat_Nat_Bits.f kj6 t338).bind fun t374 => (some (decide (t373 ≤ t374))))))) else (some false))))) else (some false)) = some r := H
            have A92 := Aside0.mk A920
            clear A920
            by_cases c93 : t353 = (wrap64 ((wrap64 (t365 + t366)) - 1))
            rotate_left
            · rw [if_neg c93] at H
              have c93b0 : (t353 == (wrap64 ((wrap64 (t365 + t366)) - 1))) = false := beq_eq_false_iff_ne.mpr c93
              have c93b1 : (t353 != (wrap64 ((wrap64 (t365 + t366)) - 1))) = true := bne_iff_ne.mpr c93
              exact absurd (Option.some.inj H) (by rw [ht_]; decide)
            rw [if_pos c93] at H
            have c93b0 : (t353 == (wrap64 ((wrap64 (t365 + t366)) - 1))) = true := beq_iff_eq.mpr c93
            have c93b1 : (t353 != (wrap64 ((wrap64 (t365 + t366)) - 1))) = false := bne_eq_false_iff_eq.mpr c93
            clear c93
            replace H := Option.bind_eq_some_iff.mp H
            obtain ⟨t367, A940, H⟩ := H
            replace H : ((nat_Nat_Bits.f kj6 t367).bind fun t370 => ((nat_Nat_Bits.f kj6 t332).bind fun t371 => (if t370 = (wrap64 (t371 + 1)) then ((nat_Nat_Cmp.f kj6 t332 t338).bind fun t372 => (if t372 > 0 then (some true) else ((nat_Nat_Bits.f kj6 t332).bind fun t373 => ((nat_Nat_Bits.f kj6 t338).bind fun t374 => (some (decide (t373 ≤ t374))))))) else (some false)))) = some r := H
            have A94 := Aside0.mk A940
            clear A940
            replace H := Option.bind_eq_some_iff.mp H
            obtain ⟨t370, A950, H⟩ := H
            replace H : ((nat_Nat_Bits.f kj6 t332).bind fun t371 => (if t370 = (wrap64 (t371 + 1)) then ((nat_Nat_Cmp.f kj6 t332 t338).bind fun t372 => (if t372 > 0 then (some true) else ((nat_Nat_Bits.f kj6 t332).bind fun t373 => ((nat_Nat_Bits.f kj6 t338).bind fun t374 => (some (decide (t373 ≤ t374))))))) else (some false))) = some r := H
            have A95 := Aside0.mk A950
            clear A950
            replace H := Option.bind_eq_some_iff.mp H
            obtain ⟨t371, A960, H⟩ := H
            replace H : (if t370 = (wrap64 (t371 + 1)) then ((nat_Nat_Cmp.f kj6 t332 t338).bind fun t372 => (if t372 > 0 then (some true) else ((nat_Nat_Bits.f kj6 t332).bind fun t373 => ((nat_Nat_Bits.f kj6 t338).bind fun t374 => (some (decide (t373 ≤ t374))))))) else (some false)) = some r := H
            have A96 := Aside0.mk A960
            clear A960
            by_cases c97 : t370 = (wrap64 (t371 + 1))
            rotate_left
            · rw [if_neg c97] at H
              have c97b0 : (t370 == (wrap64 (t371 + 1))) = false := beq_eq_false_iff_ne.mpr c97
              have c97b1 : (t370 != (wrap64 (t371 + 1))) = true := bne_iff_ne.mpr c97
              exact absurd (Option.some.inj H) (by rw [ht_]; decide)
            rw [if_pos c97] at H
            have c97b0 : (t370 == (wrap64 (t371 + 1))) = true := beq_iff_eq.mpr c97
            have c97b1 : (t370 != (wrap64 (t371 + 1))) = false := bne_eq_false_iff_eq.mpr c97
            clear c97
            replace H := Option.bind_eq_some_iff.mp H
            obtain ⟨t372, A980, H⟩ := H
            replace H : (if t372 > 0 then (some true) else ((nat_Nat_Bits.f kj6 t332).bind fun t373 => ((nat_Nat_Bits.f kj6 t338).bind fun t374 => (some (decide (t373 ≤ t374)))))) = some r := H
            have A98 := Aside0.mk A980
            clear A980
            by_cases c99 : t372 > 0
            · rw [if_pos c99] at H
              have c99b0 : decide (0 < t372) = true := decide_eq_true c99
              clear c99
              obtain rfl := Option.some.inj H
              have hnb100 := NB341_342.out
              have hnc100 := NB342_341.out
              have hcz101_0 : wc.cell? ⟨gb341, 0, none⟩ = some (.slice Ao16 t332.length co16) := (blk_cell BK341.out 0).trans rfl
              have hfz101_0 := blk_frozen BK341.out 0
              have hcz102_0 : wc.cell? ⟨gb342, 0, none⟩ = some (.slice Ao19 t338.length co19) := (blk_cell BK342.out 0).trans rfl
              have hfz102_0 := blk_frozen BK342.out 0
              try go_wp2_with (first | ((with_reducible refine gate_callee (f := 24) rfl ?_); refine goesL_ (some 30) rfl rfl Try.func24 (by kernel_rfl) rfl #[.agg #[.slice Ao16 t332.length co16], .agg #[.slice Ao19 t338.length co19]] rfl (by (try simp only [List.map_toArray, List.map_cons, List.map_nil]); first | done | rfl | (simp only [List.length_drop, List.length_take]; rfl)) ?_; (with_reducible refine (nat_Nat_Mul.calls kj6 _ _ t332 _ _ t338 t350 _ ?side1 ?side2 ?side3 ?side4 A44.out).mono ?_); (case side1 => exact cv HO_342000.out); (case side2 => exact (Kd.V_reads' HO_342000.out).2.1); (case side3 => exact cv HO_343000.out); (case side4 => exact (Kd.V_reads' HO_343000.out).2.1); rintro e w103 ⟨v351, rfl, ho0, hb⟩; refine ⟨_, rfl, ?_⟩; replace HO_342000 := Aside0.mk (vb HO_342000.out hb); replace HO_343000 := Aside0.mk (vb HO_343000.out hb); have HO352 := Aside0.mk (Kd.V_lower (Kd.V_mono (ok' := fun k_ => k_ ≠ gb341 ∧ k_ ≠ gb342) ho0 (fun k_ hk_ => ⟨(fb BK341.out k_ hk_), (fb BK342.out k_ hk_)⟩)) (bz HB.out)); replace BK341 := Aside0.mk (bb BK341.out hb); replace BK342 := Aside0.mk (bb BK342.out hb); replace HB := Aside0.mk (bs HB.out hb); (try clear hb); (try clear hb2); (try clear hk); (try clear hi); (try clear ho0); obtain ⟨Ao104, co104, eo104⟩ := Kd.V_slice HO352.out; subst eo104) | ((with_reducible refine gate_callee (f := 19) rfl ?_); refine goesL_ (some 31) rfl rfl Try.func19 (by kernel_rfl) rfl #[.agg #[.slice Ao104 t350.length co104]] rfl (by (try simp only [List.map_toArray, List.map_cons, List.map_nil]); first | done | rfl | (simp only [List.length_drop, List.length_take]; rfl)) ?_; (with_reducible refine (nat_Nat_Bits.calls kj6 _ _ t350 t353 _ ?side1 ?side2 A45.out).mono ?_); (case side1 => exact cv HO352.out); (case side2 => exact (Kd.V_reads' HO352.out).2.1); rintro e w105 ⟨rfl, hb⟩; refine ⟨_, rfl, ?_⟩; replace HO_342000 := Aside0.mk (vb HO_342000.out hb); replace HO_343000 := Aside0.mk (vb HO_343000.out hb); replace HO352 := Aside0.mk (vb HO352.out hb); replace BK341 := Aside0.mk (bb BK341.out hb); replace BK342 := Aside0.mk (bb BK342.out hb); replace HB := Aside0.mk (bs HB.out hb); (try clear hb); (try clear hb2); (try clear hk); (try clear hi)))
              replace HO_342000 := Aside0.mk (Kd.V_drew HO_342000.out)
              replace HO_343000 := Aside0.mk (Kd.V_drew HO_343000.out)
              replace HO352 := Aside0.mk (Kd.V_drew HO352.out)
              replace BK341 := Aside0.mk (blk_drew BK341.out)
              replace BK342 := Aside0.mk (blk_drew BK342.out)
              replace HB := Aside0.mk (below_drew1 HB.out)
              refine start_ (n := 44) (S := fun w' => w'.cell? ⟨gb341, 0, none⟩ = some (.slice Ao16 t332.length co16) ∧ w'.cell? ⟨gb342, 0, none⟩ = some (.slice Ao19 t338.length co19)) (ds := []) (fl 0 44 []) (by kernel_rfl) rfl rfl ⟨(blk_cell BK341.out 0).trans rfl, (blk_cell BK342.out 0).trans rfl⟩ (fun hHeld => ?_); refine with_tabW chattellaw01_NatBits.tab5 chattellaw01_NatBits.bits5 (fun HT_ HW_ => ?_)
              generalize w105.drew = w106 at HO_342000 HO_343000 HO352 BK341 BK342 HB hHeld ⊢
              refine one_ (i := 0) (N := some 32) (fl 1 44 []) rfl rfl (one_of HT_.out (by kernel_rfl)) (by decide) (fun K hK => ?_)
              refine goes_ Try.func20 (by kernel_rfl) rfl #[] (by rfl) rfl rfl (by (try simp only [List.map_toArray, List.map_cons, List.map_nil]); first | done | rfl | (simp only [List.length_drop, List.length_take]; rfl)) ?_
              with_reducible refine (chattellaw01_wakes.calls kj6  true _ A46.out).mono ?_
              rintro e w107 ⟨rfl, hb⟩
              refine ⟨_, rfl, ?_⟩
              replace HO_342000 := Aside0.mk (vb HO_342000.out hb)
              replace HO_343000 := Aside0.mk (vb HO_343000.out hb)
              replace HO352 := Aside0.mk (vb HO352.out hb)
              replace BK341 := Aside0.mk (bb BK341.out hb)
              replace BK342 := Aside0.mk (bb BK342.out hb)
              replace HB := Aside0.mk (bs HB.out hb)
              (try clear hb)
              (try clear hb2)
              (try clear hk)
              (try clear hi)
              refine hK.out _ _ ⟨(blk_cell BK341.out 0).trans rfl, (blk_cell BK342.out 0).trans rfl⟩ (fun hHeld => ?_)
              clear hK K
              refine norm_ (a' := ?_) ?_ ?_
              rotate_left
              · show Act.put _ (some 32) _ = _
                simp only [Act.put, List.setIfInBounds_toArray, List.set_cons_zero, List.set_cons_succ, i64_w, i32_w]
                rfl
              refine pure_ (i := 1) (N := some 33) (v := ?_) (a' := ?_) (fl 2 44 []) rfl rfl (any_of HT_.out (by kernel_rfl)) (fun _ _ _ h => h) (Or.inl ⟨by rfl, ?_⟩) ?_ ?_
              rotate_left
              · intro w'
                go_simp
                with_reducible rfl
              rotate_left
              · simp only [Act.put, List.setIfInBounds_toArray, List.set_cons_zero, List.set_cons_succ, i64_w, i32_w]
                rfl
              refine pure_ (i := 2) (N := some 34) (v := ?_) (a' := ?_) (fl 3 44 []) rfl rfl (any_of HT_.out (by kernel_rfl)) (fun _ _ _ h => h) (Or.inl ⟨by rfl, ?_⟩) ?_ ?_
              rotate_left
              · intro w'
                go_simp
                with_reducible rfl
              rotate_left
              · simp only [Act.put, List.setIfInBounds_toArray, List.set_cons_zero, List.set_cons_succ, i64_w, i32_w]
                rfl
              refine take_ (i := 3) (N := some 35) (v := ?_) (a' := ?_) (fl 4 44 []) rfl rfl (take_ofW HT_.out HW_.out (by kernel_rfl)) (fun _ _ _ h => h) (Or.inl ⟨by rfl, ?_⟩) hHeld ?_ ?_
              rotate_left
              · rintro w' ⟨s0, s1⟩
                go_simp
                with_reducible rfl
              rotate_left
              · simp only [Act.put, List.setIfInBounds_toArray, List.set_cons_zero, List.set_cons_succ, i64_w, i32_w]
                rfl
              refine take_ (i := 5) (N := some 37) (v := ?_) (a' := ?_) (fl 4 44 [5]) rfl rfl (take_ofW HT_.out HW_.out (by kernel_rfl)) (fun _ _ _ h => h) (Or.inl ⟨by rfl, ?_⟩) hHeld ?_ ?_
              rotate_left
              · rintro w' ⟨s0, s1⟩
                go_simp
                with_reducible rfl
              rotate_left
              · simp only [Act.put, List.setIfInBounds_toArray, List.set_cons_zero, List.set_cons_succ, i64_w, i32_w]
                rfl
              refine one_ (i := 4) (N := some 36) (fl 6 44 []) rfl rfl (one_of HT_.out (by kernel_rfl)) (by decide) (fun K hK => ?_)
              refine goes_ Try.func19 (by kernel_rfl) rfl #[.agg #[.slice Ao16 t332.length co16]] (by rfl) rfl rfl (by (try simp only [List.map_toArray, List.map_cons, List.map_nil]); first | done | rfl | (simp only [List.length_drop, List.length_take]; rfl)) ?_
              with_reducible refine (nat_Nat_Bits.calls kj6 _ _ t332 t355 _ ?side1 ?side2 A48.out).mono ?_
              (case side1 => exact cv HO_342000.out)
              (case side2 => exact (Kd.V_reads' HO_342000.out).2.1)
              rintro e w108 ⟨rfl, hb⟩
              refine ⟨_, rfl, ?_⟩
              replace HO_342000 := Aside0.mk (vb HO_342000.out hb)
              replace HO_343000 := Aside0.mk (vb HO_343000.out hb)
              replace HO352 := Aside0.mk (vb HO352.out hb)
              replace BK341 := Aside0.mk (bb BK341.out hb)
              replace BK342 := Aside0.mk (bb BK342.out hb)
              replace HB := Aside0.mk (bs HB.out hb)
              (try clear hb)
              (try clear hb2)
              (try clear hk)
              (try clear hi)
              refine hK.out _ _ ⟨(blk_cell BK341.out 0).trans rfl, (blk_cell BK342.out 0).trans rfl⟩ (fun hHeld => ?_)
              clear hK K
              refine norm_ (a' := ?_) ?_ ?_
              rotate_left
              · show Act.put _ (some 36) _ = _
                simp only [Act.put, List.setIfInBounds_toArray, List.set_cons_zero, List.set_cons_succ, i64_w, i32_w]
                rfl
              refine one_ (i := 6) (N := some 38) (fl 7 44 []) rfl rfl (one_of HT_.out (by kernel_rfl)) (by decide) (fun K hK => ?_)
              refine goes_ Try.func19 (by kernel_rfl) rfl #[.agg #[.slice Ao19 t338.length co19]] (by rfl) rfl rfl (by (try simp only [List.map_toArray, List.map_cons, List.map_nil]); first | done | rfl | (simp only [List.length_drop, List.length_take]; rfl)) ?_
              with_reducible refine (nat_Nat_Bits.calls kj6 _ _ t338 t356 _ ?side1 ?side2 A49.out).mono ?_
              (case side1 => exact cv HO_343000.out)
              (case side2 => exact (Kd.V_reads' HO_343000.out).2.1)
              rintro e w109 ⟨rfl, hb⟩
              refine ⟨_, rfl, ?_⟩
              replace HO_342000 := Aside0.mk (vb HO_342000.out hb)
              replace HO_343000 := Aside0.mk (vb HO_343000.out hb)
              replace HO352 := Aside0.mk (vb HO352.out hb)
              replace BK341 := Aside0.mk (bb BK341.out hb)
              replace BK342 := Aside0.mk (bb BK342.out hb)
              replace HB := Aside0.mk (bs HB.out hb)
              (try clear hb)
              (try clear hb2)
              (try clear hk)
              (try clear hi)
              refine hK.out _ _ ⟨(blk_cell BK341.out 0).trans rfl, (blk_cell BK342.out 0).trans rfl⟩ (fun hHeld => ?_)
              clear hK K
              refine norm_ (a' := ?_) ?_ ?_
              rotate_left
              · show Act.put _ (some 38) _ = _
                simp only [Act.put, List.setIfInBounds_toArray, List.set_cons_zero, List.set_cons_succ, i64_w, i32_w]
                rfl
              refine pure_ (i := 7) (N := some 39) (v := ?_) (a' := ?_) (fl 8 44 []) rfl rfl (any_of HT_.out (by kernel_rfl)) (fun _ _ _ h => h) (Or.inl ⟨by rfl, ?_⟩) ?_ ?_
              rotate_left
              · intro w'
                go_simp
                with_reducible rfl
              rotate_left
              · simp only [Act.put, List.setIfInBounds_toArray, List.set_cons_zero, List.set_cons_succ, i64_w, i32_w]
                rfl
              refine pure_ (i := 8) (N := some 40) (v := ?_) (a' := ?_) (fl 9 44 []) rfl rfl (any_of HT_.out (by kernel_rfl)) (fun _ _ _ h => h) (Or.inl ⟨by rfl, ?_⟩) ?_ ?_
              rotate_left
              · intro w'
                go_simp
                with_reducible rfl
              rotate_left
              · simp only [Act.put, List.setIfInBounds_toArray, List.set_cons_zero, List.set_cons_succ, i64_w, i32_w]
                rfl
              refine pure_ (i := 9) (N := some 41) (v := ?_) (a' := ?_) (fl 10 44 []) rfl rfl (any_of HT_.out (by kernel_rfl)) (fun _ _ _ h => h) (Or.inl ⟨by rfl, ?_⟩) ?_ ?_
              rotate_left
              · intro w'
                go_simp
                with_reducible rfl
              rotate_left
              · simp only [Act.put, List.setIfInBounds_toArray, List.set_cons_zero, List.set_cons_succ, i64_w, i32_w]
                rfl
              refine pure_ (i := 10) (N := some 42) (v := ?_) (a' := ?_) (fl 11 44 []) rfl rfl (any_of HT_.out (by kernel_rfl)) (fun _ _ _ h => h) (Or.inl ⟨by rfl, ?_⟩) ?_ ?_
              rotate_left
              · intro w'
                go_simp
                with_reducible rfl
              rotate_left
              · simp only [Act.put, List.setIfInBounds_toArray, List.set_cons_zero, List.set_cons_succ, i64_w, i32_w]
                rfl
              refine take_ (i := 11) (N := some 43) (v := ?_) (a' := ?_) (fl 12 44 []) rfl rfl (take_ofW HT_.out HW_.out (by kernel_rfl)) (fun _ _ _ h => h) (Or.inl ⟨by rfl, ?_⟩) hHeld ?_ ?_
              rotate_left
              · rintro w' ⟨s0, s1⟩
                go_simp
                with_reducible rfl
              rotate_left
              · simp only [Act.put, List.setIfInBounds_toArray, List.set_cons_zero, List.set_cons_succ, i64_w, i32_w]
                rfl
              refine take_ (i := 13) (N := some 45) (v := ?_) (a' := ?_) (fl 12 44 [13]) rfl rfl (take_ofW HT_.out HW_.out (by kernel_rfl)) (fun _ _ _ h => h) (Or.inl ⟨by rfl, ?_⟩) hHeld ?_ ?_
              rotate_left
              · rintro w' ⟨s0, s1⟩
                go_simp
                with_reducible rfl
              rotate_left
              · simp only [Act.put, List.setIfInBounds_toArray, List.set_cons_zero, List.set_cons_succ, i64_w, i32_w]
                rfl
              refine one_ (i := 12) (N := some 44) (fl 14 44 []) rfl rfl (one_of HT_.out (by kernel_rfl)) (by decide) (fun K hK => ?_)
              refine goes_ Try.func19 (by kernel_rfl) rfl #[.agg #[.slice Ao16 t332.length co16]] (by rfl) rfl rfl (by (try simp only [List.map_toArray, List.map_cons, List.map_nil]); first | done | rfl | (simp only [List.length_drop, List.length_take]; rfl)) ?_
              with_reducible refine (nat_Nat_Bits.calls kj6 _ _ t332 t365 _ ?side1 ?side2 A91.out).mono ?_
              (case side1 => exact cv HO_342000.out)
              (case side2 => exact (Kd.V_reads' HO_342000.out).2.1)
              rintro e w110 ⟨rfl, hb⟩
              refine ⟨_, rfl, ?_⟩
              replace HO_342000 := Aside0.mk (vb HO_342000.out hb)
              replace HO_343000 := Aside0.mk (vb HO_343000.out hb)
              replace HO352 := Aside0.mk (vb HO352.out hb)
              replace BK341 := Aside0.mk (bb BK341.out hb)
              replace BK342 := Aside0.mk (bb BK342.out hb)
              replace HB := Aside0.mk (bs HB.out hb)
              (try clear hb)
              (try clear hb2)
              (try clear hk)
              (try clear hi)
              refine hK.out _ _ ⟨(blk_cell BK341.out 0).trans rfl, (blk_cell BK342.out 0).trans rfl⟩ (fun hHeld => ?_)
              clear hK K
              refine norm_ (a' := ?_) ?_ ?_
              rotate_left
              · show Act.put _ (some 44) _ = _
                simp only [Act.put, List.setIfInBounds_toArray, List.set_cons_zero, List.set_cons_succ, i64_w, i32_w]
                rfl
              refine one_ (i := 14) (N := some 46) (fl 15 44 []) rfl rfl (one_of HT_.out (by kernel_rfl)) (by decide) (fun K hK => ?_)
              refine goes_ Try.func19 (by kernel_rfl) rfl #[.agg #[.slice Ao19 t338.length co19]] (by rfl) rfl rfl (by (try simp only [List.map_toArray, List.map_cons, List.map_nil]); first | done | rfl | (simp only [List.length_drop, List.length_take]; rfl)) ?_
              with_reducible refine (nat_Nat_Bits.calls kj6 _ _ t338 t366 _ ?side1 ?side2 A92.out).mono ?_
              (case side1 => exact cv HO_343000.out)
              (case side2 => exact (Kd.V_reads' HO_343000.out).2.1)
              rintro e w111 ⟨rfl, hb⟩
              refine ⟨_, rfl, ?_⟩
              replace HO_342000 := Aside0.mk (vb HO_342000.out hb)
              replace HO_343000 := Aside0.mk (vb HO_343000.out hb)
              replace HO352 := Aside0.mk (vb HO352.out hb)
              replace BK341 := Aside0.mk (bb BK341.out hb)
              replace BK342 := Aside0.mk (bb BK342.out hb)
              replace HB := Aside0.mk (bs HB.out hb)
              (try clear hb)
              (try clear hb2)
              (try clear hk)
              (try clear hi)
              refine hK.out _ _ ⟨(blk_cell BK341.out 0).trans rfl, (blk_cell BK342.out 0).trans rfl⟩ (fun hHeld => ?_)
              clear hK K
              refine norm_ (a' := ?_) ?_ ?_
              rotate_left
              · show Act.put _ (some 46) _ = _
                simp only [Act.put, List.setIfInBounds_toArray, List.set_cons_zero, List.set_cons_succ, i64_w, i32_w]
                rfl
              refine pure_ (i := 15) (N := some 47) (v := ?_) (a' := ?_) (fl 16 44 []) rfl rfl (any_of HT_.out (by kernel_rfl)) (fun _ _ _ h => h) (Or.inl ⟨by rfl, ?_⟩) ?_ ?_
              rotate_left
              · intro w'
                go_simp
                with_reducible rfl
              rotate_left
              · simp only [Act.put, List.setIfInBounds_toArray, List.set_cons_zero, List.set_cons_succ, i64_w, i32_w]
                rfl
              refine pure_ (i := 16) (N := some 48) (v := ?_) (a' := ?_) (fl 17 44 []) rfl rfl (any_of HT_.out (by kernel_rfl)) (fun _ _ _ h => h) (Or.inl ⟨by rfl, ?_⟩) ?_ ?_
              rotate_left
              · intro w'
                go_simp
                with_reducible rfl
              rotate_left
              · simp only [Act.put, List.setIfInBounds_toArray, List.set_cons_zero, List.set_cons_succ, i64_w, i32_w]
                rfl
              refine pure_ (i := 17) (N := some 49) (v := ?_) (a' := ?_) (fl 18 44 []) rfl rfl (any_of HT_.out (by kernel_rfl)) (fun _ _ _ h => h) (Or.inl ⟨by rfl, ?_⟩) ?_ ?_
              rotate_left
              · intro w'
                go_simp
                with_reducible rfl
              rotate_left
              · simp only [Act.put, List.setIfInBounds_toArray, List.set_cons_zero, List.set_cons_succ, i64_w, i32_w]
                rfl
              refine pure_ (i := 18) (N := some 50) (v := ?_) (a' := ?_) (fl 19 44 []) rfl rfl (any_of HT_.out (by kernel_rfl)) (fun _ _ _ h => h) (Or.inl ⟨by rfl, ?_⟩) ?_ ?_
              rotate_left
              · intro w'
                go_simp
                with_reducible rfl
              rotate_left
              · simp only [Act.put, List.setIfInBounds_toArray, List.set_cons_zero, List.set_cons_succ, i64_w, i32_w]
                rfl
              refine pure_ (i := 19) (N := some 51) (v := ?_) (a' := ?_) (fl 20 44 []) rfl rfl (any_of HT_.out (by kernel_rfl)) (fun _ _ _ h => h) (Or.inl ⟨by rfl, ?_⟩) ?_ ?_
              rotate_left
              · intro w'
                go_simp
                with_reducible rfl
              rotate_left
              · simp only [Act.put, List.setIfInBounds_toArray, List.set_cons_zero, List.set_cons_succ, i64_w, i32_w]
                rfl
              refine pure_ (i := 20) (N := some 52) (v := ?_) (a' := ?_) (fl 21 44 []) rfl rfl (any_of HT_.out (by kernel_rfl)) (fun _ _ _ h => h) (Or.inl ⟨by rfl, ?_⟩) ?_ ?_
              rotate_left
              · intro w'
                go_simp
                with_reducible rfl
              rotate_left
              · simp only [Act.put, List.setIfInBounds_toArray, List.set_cons_zero, List.set_cons_succ, i64_w, i32_w]
                rfl
              refine take_ (i := 21) (N := some 53) (v := ?_) (a' := ?_) (fl 22 44 []) rfl rfl (take_ofW HT_.out HW_.out (by kernel_rfl)) (fun _ _ _ h => h) (Or.inl ⟨by rfl, ?_⟩) hHeld ?_ ?_
              rotate_left
              · rintro w' ⟨s0, s1⟩
                go_simp
                with_reducible rfl
              rotate_left
              · simp only [Act.put, List.setIfInBounds_toArray, List.set_cons_zero, List.set_cons_succ, i64_w, i32_w]
                rfl
              refine take_ (i := 22) (N := some 54) (v := ?_) (a' := ?_) (fl 23 44 []) rfl rfl (take_ofW HT_.out HW_.out (by kernel_rfl)) (fun _ _ _ h => h) (Or.inl ⟨by rfl, ?_⟩) hHeld ?_ ?_
              rotate_left
              · rintro w' ⟨s0, s1⟩
                go_simp
                with_reducible rfl
              rotate_left
              · simp only [Act.put, List.setIfInBounds_toArray, List.set_cons_zero, List.set_cons_succ, i64_w, i32_w]
                rfl
              refine take_ (i := 25) (N := some 57) (v := ?_) (a' := ?_) (fl 23 44 [25]) rfl rfl (take_ofW HT_.out HW_.out (by kernel_rfl)) (fun _ _ _ h => h) (Or.inl ⟨by rfl, ?_⟩) hHeld ?_ ?_
              rotate_left
              · rintro w' ⟨s0, s1⟩
                go_simp
                with_reducible rfl
              rotate_left
              · simp only [Act.put, List.setIfInBounds_toArray, List.set_cons_zero, List.set_cons_succ, i64_w, i32_w]
                rfl
              refine one_ (i := 23) (N := some 55) (fl 24 44 [25]) rfl rfl (one_of HT_.out (by kernel_rfl)) (by decide) (fun K hK => ?_)
              refine goes_ Try.func25 (by kernel_rfl) rfl #[.agg #[.slice Ao16 t332.length co16], .agg #[.slice Ao16 t332.length co16]] (by rfl) rfl rfl (by (try simp only [List.map_toArray, List.map_cons, List.map_nil]); first | done | rfl | (simp only [List.length_drop, List.length_take]; rfl)) ?_
              with_reducible refine (nat_Nat_Add.calls kj6 _ _ t332 _ _ t332 t367 _ ?side1 ?side2 ?side3 ?side4 A94.out).mono ?_
              (case side1 => exact cv HO_342000.out)
              (case side2 => exact (Kd.V_reads' HO_342000.out).2.1)
              (case side3 => exact cv HO_342000.out)
              (case side4 => exact (Kd.V_reads' HO_342000.out).2.1)
              rintro e w112 ⟨v368, rfl, ho0, hb⟩
              refine ⟨_, rfl, ?_⟩
              replace HO_342000 := Aside0.mk (vb HO_342000.out hb)
              replace HO_343000 := Aside0.mk (vb HO_343000.out hb)
              replace HO352 := Aside0.mk (vb HO352.out hb)
              have HO369 := Aside0.mk (Kd.V_lower (Kd.V_mono (ok' := fun k_ => k_ ≠ gb341 ∧ k_ ≠ gb342) ho0 (fun k_ hk_ => ⟨(fb BK341.out k_ hk_), (fb BK342.out k_ hk_)⟩)) (bz HB.out))
              replace BK341 := Aside0.mk (bb BK341.out hb)
              replace BK342 := Aside0.mk (bb BK342.out hb)
              replace HB := Aside0.mk (bs HB.out hb)
              (try clear hb)
              (try clear hb2)
              (try clear hk)
              (try clear hi)
              (try clear ho0)
              obtain ⟨Ao113, co113, eo113⟩ := Kd.V_slice HO369.out
              (first | subst eo113 | (injection eo113 with f1_ f2_ f3_; have f4_ := f1_.symm; have f5_ := f3_.symm; clear f1_ f2_ f3_; subst f4_; subst f5_))
              refine hK.out _ _ ⟨(blk_cell BK341.out 0).trans rfl, (blk_cell BK342.out 0).trans rfl⟩ (fun hHeld => ?_)
              clear hK K
              refine norm_ (a' := ?_) ?_ ?_
              rotate_left
              · show Act.put _ (some 55) _ = _
                simp only [Act.put, List.setIfInBounds_toArray, List.set_cons_zero, List.set_cons_succ, i64_w, i32_w]
                rfl
              refine one_ (i := 24) (N := some 56) (fl 26 44 []) rfl rfl (one_of HT_.out (by kernel_rfl)) (by decide) (fun K hK => ?_)
              refine goes_ Try.func19 (by kernel_rfl) rfl #[.agg #[.slice Ao113 t367.length co113]] (by rfl) rfl rfl (by (try simp only [List.map_toArray, List.map_cons, List.map_nil]); first | done | rfl | (simp only [List.length_drop, List.length_take]; rfl)) ?_
              with_reducible refine (nat_Nat_Bits.calls kj6 _ _ t367 t370 _ ?side1 ?side2 A95.out).mono ?_
              (case side1 => exact cv HO369.out)
              (case side2 => exact (Kd.V_reads' HO369.out).2.1)
              rintro e w114 ⟨rfl, hb⟩
              refine ⟨_, rfl, ?_⟩
              replace HO_342000 := Aside0.mk (vb HO_342000.out hb)
              replace HO_343000 := Aside0.mk (vb HO_343000.out hb)
              replace HO352 := Aside0.mk (vb HO352.out hb)
              replace HO369 := Aside0.mk (vb HO369.out hb)
              replace BK341 := Aside0.mk (bb BK341.out hb)
              replace BK342 := Aside0.mk (bb BK342.out hb)
              replace HB := Aside0.mk (bs HB.out hb)
              (try clear hb)
              (try clear hb2)
              (try clear hk)
              (try clear hi)
              refine hK.out _ _ ⟨(blk_cell BK341.out 0).trans rfl, (blk_cell BK342.out 0).trans rfl⟩ (fun hHeld => ?_)
              clear hK K
              refine norm_ (a' := ?_) ?_ ?_
              rotate_left
              · show Act.put _ (some 56) _ = _
                simp only [Act.put, List.setIfInBounds_toArray, List.set_cons_zero, List.set_cons_succ, i64_w, i32_w]
                rfl
              refine one_ (i := 26) (N := some 58) (fl 27 44 []) rfl rfl (one_of HT_.out (by kernel_rfl)) (by decide) (fun K hK => ?_)
              refine goes_ Try.func19 (by kernel_rfl) rfl #[.agg #[.slice Ao16 t332.length co16]] (by rfl) rfl rfl (by (try simp only [List.map_toArray, List.map_cons, List.map_nil]); first | done | rfl | (simp only [List.length_drop, List.length_take]; rfl)) ?_
              with_reducible refine (nat_Nat_Bits.calls kj6 _ _ t332 t371 _ ?side1 ?side2 A96.out).mono ?_
              (case side1 => exact cv HO_342000.out)
              (case side2 => exact (Kd.V_reads' HO_342000.out).2.1)
              rintro e w115 ⟨rfl, hb⟩
              refine ⟨_, rfl, ?_⟩
              replace HO_342000 := Aside0.mk (vb HO_342000.out hb)
              replace HO_343000 := Aside0.mk (vb HO_343000.out hb)
              replace HO352 := Aside0.mk (vb HO352.out hb)
              replace HO369 := Aside0.mk (vb HO369.out hb)
              replace BK341 := Aside0.mk (bb BK341.out hb)
              replace BK342 := Aside0.mk (bb BK342.out hb)
              replace HB := Aside0.mk (bs HB.out hb)
              (try clear hb)
              (try clear hb2)
              (try clear hk)
              (try clear hi)
              refine hK.out _ _ ⟨(blk_cell BK341.out 0).trans rfl, (blk_cell BK342.out 0).trans rfl⟩ (fun hHeld => ?_)
              clear hK K
              refine norm_ (a' := ?_) ?_ ?_
              rotate_left
              · show Act.put _ (some 58) _ = _
                simp only [Act.put, List.setIfInBounds_toArray, List.set_cons_zero, List.set_cons_succ, i64_w, i32_w]
                rfl
              refine pure_ (i := 27) (N := some 59) (v := ?_) (a' := ?_) (fl 28 44 []) rfl rfl (any_of HT_.out (by kernel_rfl)) (fun _ _ _ h => h) (Or.inl ⟨by rfl, ?_⟩) ?_ ?_
              rotate_left
              · intro w'
                go_simp
                with_reducible rfl
              rotate_left
              · simp only [Act.put, List.setIfInBounds_toArray, List.set_cons_zero, List.set_cons_succ, i64_w, i32_w]
                rfl
              refine pure_ (i := 28) (N := some 60) (v := ?_) (a' := ?_) (fl 29 44 []) rfl rfl (any_of HT_.out (by kernel_rfl)) (fun _ _ _ h => h) (Or.inl ⟨by rfl, ?_⟩) ?_ ?_
              rotate_left
              · intro w'
                go_simp
                with_reducible rfl
              rotate_left
              · simp only [Act.put, List.setIfInBounds_toArray, List.set_cons_zero, List.set_cons_succ, i64_w, i32_w]
                rfl
              refine pure_ (i := 29) (N := some 61) (v := ?_) (a' := ?_) (fl 30 44 []) rfl rfl (any_of HT_.out (by kernel_rfl)) (fun _ _ _ h => h) (Or.inl ⟨by rfl, ?_⟩) ?_ ?_
              rotate_left
              · intro w'
                go_simp
                with_reducible rfl
              rotate_left
              · simp only [Act.put, List.setIfInBounds_toArray, List.set_cons_zero, List.set_cons_succ, i64_w, i32_w]
                rfl
              refine pure_ (i := 30) (N := some 62) (v := ?_) (a' := ?_) (fl 31 44 []) rfl rfl (any_of HT_.out (by kernel_rfl)) (fun _ _ _ h => h) (Or.inl ⟨by rfl, ?_⟩) ?_ ?_
              rotate_left
              · intro w'
                go_simp
                with_reducible rfl
              rotate_left
              · simp only [Act.put, List.setIfInBounds_toArray, List.set_cons_zero, List.set_cons_succ, i64_w, i32_w]
                rfl
              refine take_ (i := 31) (N := some 63) (v := ?_) (a' := ?_) (fl 32 44 []) rfl rfl (take_ofW HT_.out HW_.out (by kernel_rfl)) (fun _ _ _ h => h) (Or.inl ⟨by rfl, ?_⟩) hHeld ?_ ?_
              rotate_left
              · rintro w' ⟨s0, s1⟩
                go_simp
                with_reducible rfl
              rotate_left
              · simp only [Act.put, List.setIfInBounds_toArray, List.set_cons_zero, List.set_cons_succ, i64_w, i32_w]
                rfl
              refine take_ (i := 32) (N := some 64) (v := ?_) (a' := ?_) (fl 33 44 []) rfl rfl (take_ofW HT_.out HW_.out (by kernel_rfl)) (fun _ _ _ h => h) (Or.inl ⟨by rfl, ?_⟩) hHeld ?_ ?_
              rotate_left
              · rintro w' ⟨s0, s1⟩
                go_simp
                with_reducible rfl
              rotate_left
              · simp only [Act.put, List.setIfInBounds_toArray, List.set_cons_zero, List.set_cons_succ, i64_w, i32_w]
                rfl
              refine one_ (i := 33) (N := some 65) (fl 34 44 []) rfl rfl (one_of HT_.out (by kernel_rfl)) (by decide) (fun K hK => ?_)
              refine goes_ Try.func21 (by kernel_rfl) rfl #[.agg #[.slice Ao16 t332.length co16], .agg #[.slice Ao19 t338.length co19]] (by rfl) rfl rfl (by (try simp only [List.map_toArray, List.map_cons, List.map_nil]); first | done | rfl | (simp only [List.length_drop, List.length_take]; rfl)) ?_
              with_reducible refine (nat_Nat_Cmp.calls kj6 _ _ t332 _ _ t338 t372 _ ?side1 ?side2 ?side3 ?side4 A98.out).mono ?_
              (case side1 => exact cv HO_342000.out)
              (case side2 => exact (Kd.V_reads' HO_342000.out).2.1)
              (case side3 => exact cv HO_343000.out)
              (case side4 => exact (Kd.V_reads' HO_343000.out).2.1)
              rintro e w116 ⟨rfl, hb⟩
              refine ⟨_, rfl, ?_⟩
              replace HO_342000 := Aside0.mk (vb HO_342000.out hb)
              replace HO_343000 := Aside0.mk (vb HO_343000.out hb)
              replace HO352 := Aside0.mk (vb HO352.out hb)
              replace HO369 := Aside0.mk (vb HO369.out hb)
              replace BK341 := Aside0.mk (bb BK341.out hb)
              replace BK342 := Aside0.mk (bb BK342.out hb)
              replace HB := Aside0.mk (bs HB.out hb)
              (try clear hb)
              (try clear hb2)
              (try clear hk)
              (try clear hi)
              refine hK.out _ _ ⟨(blk_cell BK341.out 0).trans rfl, (blk_cell BK342.out 0).trans rfl⟩ (fun hHeld => ?_)
              clear hK K
              refine norm_ (a' := ?_) ?_ ?_
              rotate_left
              · show Act.put _ (some 65) _ = _
                simp only [Act.put, List.setIfInBounds_toArray, List.set_cons_zero, List.set_cons_succ, i64_w, i32_w]
                rfl
              refine pure_ (i := 34) (N := some 66) (v := ?_) (a' := ?_) (fl 35 44 []) rfl rfl (any_of HT_.out (by kernel_rfl)) (fun _ _ _ h => h) (Or.inl ⟨by rfl, ?_⟩) ?_ ?_
              rotate_left
              · intro w'
                go_simp
                with_reducible rfl
              rotate_left
              · simp only [Act.put, List.setIfInBounds_toArray, List.set_cons_zero, List.set_cons_succ, i64_w, i32_w]
                rfl
              refine pure_ (i := 35) (N := some 67) (v := ?_) (a' := ?_) (fl 36 44 []) rfl rfl (any_of HT_.out (by kernel_rfl)) (fun _ _ _ h => h) (Or.inl ⟨by rfl, ?_⟩) ?_ ?_
              rotate_left
              · intro w'
                go_simp
                with_reducible rfl
              rotate_left
              · simp only [Act.put, List.setIfInBounds_toArray, List.set_cons_zero, List.set_cons_succ, i64_w, i32_w]
                rfl
              refine pure_ (i := 36) (N := some 68) (v := undef) (a' := ?_) (fl 37 44 []) rfl rfl (any_of HT_.out (by kernel_rfl)) (fun _ _ _ h => h) (Or.inr ⟨by rfl, rfl⟩) ?_ ?_
              rotate_left
              · simp only [Act.put, List.setIfInBounds_toArray, List.set_cons_zero, List.set_cons_succ, i64_w, i32_w]
                rfl
              refine pure_ (i := 37) (N := some 69) (v := undef) (a' := ?_) (fl 38 44 []) rfl rfl (any_of HT_.out (by kernel_rfl)) (fun _ _ _ h => h) (Or.inr ⟨by rfl, rfl⟩) ?_ ?_
              rotate_left
              · simp only [Act.put, List.setIfInBounds_toArray, List.set_cons_zero, List.set_cons_succ, i64_w, i32_w]
                rfl
              refine pure_ (i := 38) (N := some 70) (v := undef) (a' := ?_) (fl 39 44 []) rfl rfl (any_of HT_.out (by kernel_rfl)) (fun _ _ _ h => h) (Or.inr ⟨by rfl, rfl⟩) ?_ ?_
              rotate_left
              · simp only [Act.put, List.setIfInBounds_toArray, List.set_cons_zero, List.set_cons_succ, i64_w, i32_w]
                rfl
              refine pure_ (i := 39) (N := some 71) (v := undef) (a' := ?_) (fl 40 44 []) rfl rfl (any_of HT_.out (by kernel_rfl)) (fun _ _ _ h => h) (Or.inr ⟨by rfl, rfl⟩) ?_ ?_
              rotate_left
              · simp only [Act.put, List.setIfInBounds_toArray, List.set_cons_zero, List.set_cons_succ, i64_w, i32_w]
                rfl
              refine pure_ (i := 40) (N := some 72) (v := undef) (a' := ?_) (fl 41 44 []) rfl rfl (any_of HT_.out (by kernel_rfl)) (fun _ _ _ h => h) (Or.inr ⟨by rfl, rfl⟩) ?_ ?_
              rotate_left
              · simp only [Act.put, List.setIfInBounds_toArray, List.set_cons_zero, List.set_cons_succ, i64_w, i32_w]
                rfl
              refine pure_ (i := 41) (N := some 73) (v := ?_) (a' := ?_) (fl 42 44 []) rfl rfl (any_of HT_.out (by kernel_rfl)) (fun _ _ _ h => h) (Or.inl ⟨by rfl, ?_⟩) ?_ ?_
              rotate_left
              · intro w'
                go_simp
                with_reducible rfl
              rotate_left
              · simp only [Act.put, List.setIfInBounds_toArray, List.set_cons_zero, List.set_cons_succ, i64_w, i32_w]
                rfl
              refine pure_ (i := 42) (N := some 74) (v := ?_) (a' := ?_) (fl 43 44 []) rfl rfl (any_of HT_.out (by kernel_rfl)) (fun _ _ _ h => h) (Or.inl ⟨by rfl, ?_⟩) ?_ ?_
              rotate_left
              · intro w'
                go_simp
                with_reducible rfl
              rotate_left
              · simp only [Act.put, List.setIfInBounds_toArray, List.set_cons_zero, List.set_cons_succ, i64_w, i32_w]
                rfl
              refine pure_ (i := 43) (N := some 4) (v := ?_) (a' := ?_) (fl 44 44 []) rfl rfl (any_of HT_.out (by kernel_rfl)) (fun _ _ _ h => h) (Or.inl ⟨by rfl, ?_⟩) ?_ ?_
              rotate_left
              · intro w'
                go_simp
                with_reducible rfl
              rotate_left
              · simp only [Act.put, List.setIfInBounds_toArray, List.set_cons_zero, List.set_cons_succ, i64_w, i32_w]
                rfl
              refine done_ (done_of HT_.out (by kernel_rfl)) ?_
              try go_wp2
              go_ret
              exact ⟨by first | rfl | (simp [errW_none, errW_some] <;> rfl) | (simp [*, errW_none, errW_some] <;> rfl), by repeat (first | (with_reducible first | exact HB.out | apply below_alloc | apply pw_below_drewN | apply below_drew1 | refine below_set ?_ GE341.out | refine below_set ?_ GE342.out) | exact HB.out)⟩
            · rw [if_neg c99] at H
              have c99b0 : decide (0 < t372) = false := decide_eq_false c99
              clear c99
              replace H := Option.bind_eq_some_iff.mp H
              obtain ⟨t373, A1170, H⟩ := H
              replace H : ((nat_Nat_Bits.f kj6 t338).bind fun t374 => (some (decide (t373 ≤ t374)))) = some r := H
              have A117 := Aside0.mk A1170
              clear A1170
              replace H := Option.bind_eq_some_iff.mp H
              obtain ⟨t374, A1180, H⟩ := H
              replace H : (some (decide (t373 ≤ t374))) = some r := H
              have A118 := Aside0.mk A1180
              clear A1180
              obtain rfl := Option.some.inj H
              have hnb119 := NB341_342.out
              have hnc119 := NB342_341.out
              have hcz120_0 : wc.cell? ⟨gb341, 0, none⟩ = some (.slice Ao16 t332.length co16) := (blk_cell BK341.out 0).trans rfl
              have hfz120_0 := blk_frozen BK341.out 0
              have hcz121_0 : wc.cell? ⟨gb342, 0, none⟩ = some (.slice Ao19 t338.length co19) := (blk_cell BK342.out 0).trans rfl
              have hfz121_0 := blk_frozen BK342.out 0
              try go_wp2_with (first | ((with_reducible refine gate_callee (f := 24) rfl ?_); refine goesL_ (some 30) rfl rfl Try.func24 (by kernel_rfl) rfl #[.agg #[.slice Ao16 t332.length co16], .agg #[.slice Ao19 t338.length co19]] rfl (by (try simp only [List.map_toArray, List.map_cons, List.map_nil]); first | done | rfl | (simp only [List.length_drop, List.length_take]; rfl)) ?_; (with_reducible refine (nat_Nat_Mul.calls kj6 _ _ t332 _ _ t338 t350 _ ?side1 ?side2 ?side3 ?side4 A44.out).mono ?_); (case side1 => exact cv HO_342000.out); (case side2 => exact (Kd.V_reads' HO_342000.out).2.1); (case side3 => exact cv HO_343000.out); (case side4 => exact (Kd.V_reads' HO_343000.out).2.1); rintro e w122 ⟨v351, rfl, ho0, hb⟩; refine ⟨_, rfl, ?_⟩; replace HO_342000 := Aside0.mk (vb HO_342000.out hb); replace HO_343000 := Aside0.mk (vb HO_343000.out hb); have HO352 := Aside0.mk (Kd.V_lower (Kd.V_mono (ok' := fun k_ => k_ ≠ gb341 ∧ k_ ≠ gb342) ho0 (fun k_ hk_ => ⟨(fb BK341.out k_ hk_), (fb BK342.out k_ hk_)⟩)) (bz HB.out)); replace BK341 := Aside0.mk (bb BK341.out hb); replace BK342 := Aside0.mk (bb BK342.out hb); replace HB := Aside0.mk (bs HB.out hb); (try clear hb); (try clear hb2); (try clear hk); (try clear hi); (try clear ho0); obtain ⟨Ao123, co123, eo123⟩ := Kd.V_slice HO352.out; subst eo123) | ((with_reducible refine gate_callee (f := 19) rfl ?_); refine goesL_ (some 31) rfl rfl Try.func19 (by kernel_rfl) rfl #[.agg #[.slice Ao123 t350.length co123]] rfl (by (try simp only [List.map_toArray, List.map_cons, List.map_nil]); first | done | rfl | (simp only [List.length_drop, List.length_take]; rfl)) ?_; (with_reducible refine (nat_Nat_Bits.calls kj6 _ _ t350 t353 _ ?side1 ?side2 A45.out).mono ?_); (case side1 => exact cv HO352.out); (case side2 => exact (Kd.V_reads' HO352.out).2.1); rintro e w124 ⟨rfl, hb⟩; refine ⟨_, rfl, ?_⟩; replace HO_342000 := Aside0.mk (vb HO_342000.out hb); replace HO_343000 := Aside0.mk (vb HO_343000.out hb); replace HO352 := Aside0.mk (vb HO352.out hb); replace BK341 := Aside0.mk (bb BK341.out hb); replace BK342 := Aside0.mk (bb BK342.out hb); replace HB := Aside0.mk (bs HB.out hb); (try clear hb); (try clear hb2); (try clear hk); (try clear hi)))
              replace HO_342000 := Aside0.mk (Kd.V_drew HO_342000.out)
              replace HO_343000 := Aside0.mk (Kd.V_drew HO_343000.out)
              replace HO352 := Aside0.mk (Kd.V_drew HO352.out)
              replace BK341 := Aside0.mk (blk_drew BK341.out)
              replace BK342 := Aside0.mk (blk_drew BK342.out)
              replace HB := Aside0.mk (below_drew1 HB.out)
              refine start_ (n := 44) (S := fun w' => w'.cell? ⟨gb341, 0, none⟩ = some (.slice Ao16 t332.length co16) ∧ w'.cell? ⟨gb342, 0, none⟩ = some (.slice Ao19 t338.length co19)) (ds := []) (fl 0 44 []) (by kernel_rfl) rfl rfl ⟨(blk_cell BK341.out 0).trans rfl, (blk_cell BK342.out 0).trans rfl⟩ (fun hHeld => ?_); refine with_tabW chattellaw01_NatBits.tab5 chattellaw01_NatBits.bits5 (fun HT_ HW_ => ?_)
              generalize w124.drew = w125 at HO_342000 HO_343000 HO352 BK341 BK342 HB hHeld ⊢
              refine one_ (i := 0) (N := some 32) (fl 1 44 []) rfl rfl (one_of HT_.out (by kernel_rfl)) (by decide) (fun K hK => ?_)
              refine goes_ Try.func20 (by kernel_rfl) rfl #[] (by rfl) rfl rfl (by (try simp only [List.map_toArray, List.map_cons, List.map_nil]); first | done | rfl | (simp only [List.length_drop, List.length_take]; rfl)) ?_
              with_reducible refine (chattellaw01_wakes.calls kj6  true _ A46.out).mono ?_
              rintro e w126 ⟨rfl, hb⟩
              refine ⟨_, rfl, ?_⟩
              replace HO_342000 := Aside0.mk (vb HO_342000.out hb)
              replace HO_343000 := Aside0.mk (vb HO_343000.out hb)
              replace HO352 := Aside0.mk (vb HO352.out hb)
              replace BK341 := Aside0.mk (bb BK341.out hb)
              replace BK342 := Aside0.mk (bb BK342.out hb)
              replace HB := Aside0.mk (bs HB.out hb)
              (try clear hb)
              (try clear hb2)
              (try clear hk)
              (try clear hi)
              refine hK.out _ _ ⟨(blk_cell BK341.out 0).trans rfl, (blk_cell BK342.out 0).trans rfl⟩ (fun hHeld => ?_)
              clear hK K
              refine norm_ (a' := ?_) ?_ ?_
              rotate_left
              · show Act.put _ (some 32) _ = _
                simp only [Act.put, List.setIfInBounds_toArray, List.set_cons_zero, List.set_cons_succ, i64_w, i32_w]
                rfl
              refine pure_ (i := 1) (N := some 33) (v := ?_) (a' := ?_) (fl 2 44 []) rfl rfl (any_of HT_.out (by kernel_rfl)) (fun _ _ _ h => h) (Or.inl ⟨by rfl, ?_⟩) ?_ ?_
              rotate_left
              · intro w'
                go_simp
                with_reducible rfl
              rotate_left
              · simp only [Act.put, List.setIfInBounds_toArray, List.set_cons_zero, List.set_cons_succ, i64_w, i32_w]
                rfl
              refine pure_ (i := 2) (N := some 34) (v := ?_) (a' := ?_) (fl 3 44 []) rfl rfl (any_of HT_.out (by kernel_rfl)) (fun _ _ _ h => h) (Or.inl ⟨by rfl, ?_⟩) ?_ ?_
              rotate_left
              · intro w'
                go_simp
                with_reducible rfl
              rotate_left
              · simp only [Act.put, List.setIfInBounds_toArray, List.set_cons_zero, List.set_cons_succ, i64_w, i32_w]
                rfl
              refine take_ (i := 3) (N := some 35) (v := ?_) (a' := ?_) (fl 4 44 []) rfl rfl (take_ofW HT_.out HW_.out (by kernel_rfl)) (fun _ _ _ h => h) (Or.inl ⟨by rfl, ?_⟩) hHeld ?_ ?_
              rotate_left
              · rintro w' ⟨s0, s1⟩
                go_simp
                with_reducible rfl
              rotate_left
              · simp only [Act.put, List.setIfInBounds_toArray, List.set_cons_zero, List.set_cons_succ, i64_w, i32_w]
                rfl
              refine take_ (i := 5) (N := some 37) (v := ?_) (a' := ?_) (fl 4 44 [5]) rfl rfl (take_ofW HT_.out HW_.out (by kernel_rfl)) (fun _ _ _ h => h) (Or.inl ⟨by rfl, ?_⟩) hHeld ?_ ?_
              rotate_left
              · rintro w' ⟨s0, s1⟩
                go_simp
                with_reducible rfl
              rotate_left
              · simp only [Act.put, List.setIfInBounds_toArray, List.set_cons_zero, List.set_cons_succ, i64_w, i32_w]
                rfl
              refine one_ (i := 4) (N := some 36) (fl 6 44 []) rfl rfl (one_of HT_.out (by kernel_rfl)) (by decide) (fun K hK => ?_)
              refine goes_ Try.func19 (by kernel_rfl) rfl #[.agg #[.slice Ao16 t332.length co16]] (by rfl) rfl rfl (by (try simp only [List.map_toArray, List.map_cons, List.map_nil]); first | done | rfl | (simp only [List.length_drop, List.length_take]; rfl)) ?_
              with_reducible refine (nat_Nat_Bits.calls kj6 _ _ t332 t355 _ ?side1 ?side2 A48.out).mono ?_
              (case side1 => exact cv HO_342000.out)
              (case side2 => exact (Kd.V_reads' HO_342000.out).2.1)
              rintro e w127 ⟨rfl, hb⟩
              refine ⟨_, rfl, ?_⟩
              replace HO_342000 := Aside0.mk (vb HO_342000.out hb)
              replace HO_343000 := Aside0.mk (vb HO_343000.out hb)
              replace HO352 := Aside0.mk (vb HO352.out hb)
              replace BK341 := Aside0.mk (bb BK341.out hb)
              replace BK342 := Aside0.mk (bb BK342.out hb)
              replace HB := Aside0.mk (bs HB.out hb)
              (try clear hb)
              (try clear hb2)
              (try clear hk)
              (try clear hi)
              refine hK.out _ _ ⟨(blk_cell BK341.out 0).trans rfl, (blk_cell BK342.out 0).trans rfl⟩ (fun hHeld => ?_)
              clear hK K
              refine norm_ (a' := ?_) ?_ ?_
              rotate_left
              · show Act.put _ (some 36) _ = _
                simp only [Act.put, List.setIfInBounds_toArray, List.set_cons_zero, List.set_cons_succ, i64_w, i32_w]
                rfl
              refine one_ (i := 6) (N := some 38) (fl 7 44 []) rfl rfl (one_of HT_.out (by kernel_rfl)) (by decide) (fun K hK => ?_)
              refine goes_ Try.func19 (by kernel_rfl) rfl #[.agg #[.slice Ao19 t338.length co19]] (by rfl) rfl rfl (by (try simp only [List.map_toArray, List.map_cons, List.map_nil]); first | done | rfl | (simp only [List.length_drop, List.length_take]; rfl)) ?_
              with_reducible refine (nat_Nat_Bits.calls kj6 _ _ t338 t356 _ ?side1 ?side2 A49.out).mono ?_
              (case side1 => exact cv HO_343000.out)
              (case side2 => exact (Kd.V_reads' HO_343000.out).2.1)
              rintro e w128 ⟨rfl, hb⟩
              refine ⟨_, rfl, ?_⟩
              replace HO_342000 := Aside0.mk (vb HO_342000.out hb)
              replace HO_343000 := Aside0.mk (vb HO_343000.out hb)
              replace HO352 := Aside0.mk (vb HO352.out hb)
              replace BK341 := Aside0.mk (bb BK341.out hb)
              replace BK342 := Aside0.mk (bb BK342.out hb)
              replace HB := Aside0.mk (bs HB.out hb)
              (try clear hb)
              (try clear hb2)
              (try clear hk)
              (try clear hi)
              refine hK.out _ _ ⟨(blk_cell BK341.out 0).trans rfl, (blk_cell BK342.out 0).trans rfl⟩ (fun hHeld => ?_)
              clear hK K
              refine norm_ (a' := ?_) ?_ ?_
              rotate_left
              · show Act.put _ (some 38) _ = _
                simp only [Act.put, List.setIfInBounds_toArray, List.set_cons_zero, List.set_cons_succ, i64_w, i32_w]
                rfl
              refine pure_ (i := 7) (N := some 39) (v := ?_) (a' := ?_) (fl 8 44 []) rfl rfl (any_of HT_.out (by kernel_rfl)) (fun _ _ _ h => h) (Or.inl ⟨by rfl, ?_⟩) ?_ ?_
              rotate_left
              · intro w'
                go_simp
                with_reducible rfl
              rotate_left
              · simp only [Act.put, List.setIfInBounds_toArray, List.set_cons_zero, List.set_cons_succ, i64_w, i32_w]
                rfl
              refine pure_ (i := 8) (N := some 40) (v := ?_) (a' := ?_) (fl 9 44 []) rfl rfl (any_of HT_.out (by kernel_rfl)) (fun _ _ _ h => h) (Or.inl ⟨by rfl, ?_⟩) ?_ ?_
              rotate_left
              · intro w'
                go_simp
                with_reducible rfl
              rotate_left
              · simp only [Act.put, List.setIfInBounds_toArray, List.set_cons_zero, List.set_cons_succ, i64_w, i32_w]
                rfl
              refine pure_ (i := 9) (N := some 41) (v := ?_) (a' := ?_) (fl 10 44 []) rfl rfl (any_of HT_.out (by kernel_rfl)) (fun _ _ _ h => h) (Or.inl ⟨by rfl, ?_⟩) ?_ ?_
              rotate_left
              · intro w'
                go_simp
                with_reducible rfl
              rotate_left
              · simp only [Act.put, List.setIfInBounds_toArray, List.set_cons_zero, List.set_cons_succ, i64_w, i32_w]
                rfl
              refine pure_ (i := 10) (N := some 42) (v := ?_) (a' := ?_) (fl 11 44 []) rfl rfl (any_of HT_.out (by kernel_rfl)) (fun _ _ _ h => h) (Or.inl ⟨by rfl, ?_⟩) ?_ ?_
              rotate_left
              · intro w'
                go_simp
                with_reducible rfl
              rotate_left
              · simp only [Act.put, List.setIfInBounds_toArray, List.set_cons_zero, List.set_cons_succ, i64_w, i32_w]
                rfl
              refine take_ (i := 11) (N := some 43) (v := ?_) (a' := ?_) (fl 12 44 []) rfl rfl (take_ofW HT_.out HW_.out (by kernel_rfl)) (fun _ _ _ h => h) (Or.inl ⟨by rfl, ?_⟩) hHeld ?_ ?_
              rotate_left
              · rintro w' ⟨s0, s1⟩
                go_simp
                with_reducible rfl
              rotate_left
              · simp only [Act.put, List.setIfInBounds_toArray, List.set_cons_zero, List.set_cons_succ, i64_w, i32_w]
                rfl
              refine take_ (i := 13) (N := some 45) (v := ?_) (a' := ?_) (fl 12 44 [13]) rfl rfl (take_ofW HT_.out HW_.out (by kernel_rfl)) (fun _ _ _ h => h) (Or.inl ⟨by rfl, ?_⟩) hHeld ?_ ?_
              rotate_left
              · rintro w' ⟨s0, s1⟩
                go_simp
                with_reducible rfl
              rotate_left
              · simp only [Act.put, List.setIfInBounds_toArray, List.set_cons_zero, List.set_cons_succ, i64_w, i32_w]
                rfl
              refine one_ (i := 12) (N := some 44) (fl 14 44 []) rfl rfl (one_of HT_.out (by kernel_rfl)) (by decide) (fun K hK => ?_)
              refine goes_ Try.func19 (by kernel_rfl) rfl #[.agg #[.slice Ao16 t332.length co16]] (by rfl) rfl rfl (by (try simp only [List.map_toArray, List.map_cons, List.map_nil]); first | done | rfl | (simp only [List.length_drop, List.length_take]; rfl)) ?_
              with_reducible refine (nat_Nat_Bits.calls kj6 _ _ t332 t365 _ ?side1 ?side2 A91.out).mono ?_
              (case side1 => exact cv HO_342000.out)
              (case side2 => exact (Kd.V_reads' HO_342000.out).2.1)
              rintro e w129 ⟨rfl, hb⟩
              refine ⟨_, rfl, ?_⟩
              replace HO_342000 := Aside0.mk (vb HO_342000.out hb)
              replace HO_343000 := Aside0.mk (vb HO_343000.out hb)
              replace HO352 := Aside0.mk (vb HO352.out hb)
              replace BK341 := Aside0.mk (bb BK341.out hb)
              replace BK342 := Aside0.mk (bb BK342.out hb)
              replace HB := Aside0.mk (bs HB.out hb)
              (try clear hb)
              (try clear hb2)
              (try clear hk)
              (try clear hi)
              refine hK.out _ _ ⟨(blk_cell BK341.out 0).trans rfl, (blk_cell BK342.out 0).trans rfl⟩ (fun hHeld => ?_)
              clear hK K
              refine norm_ (a' := ?_) ?_ ?_
              rotate_left
              · show Act.put _ (some 44) _ = _
                simp only [Act.put, List.setIfInBounds_toArray, List.set_cons_zero, List.set_cons_succ, i64_w, i32_w]
                rfl
              refine one_ (i := 14) (N := some 46) (fl 15 44 []) rfl rfl (one_of HT_.out (by kernel_rfl)) (by decide) (fun K hK => ?_)
              refine goes_ Try.func19 (by kernel_rfl) rfl #[.agg #[.slice Ao19 t338.length co19]] (by rfl) rfl rfl (by (try simp only [List.map_toArray, List.map_cons, List.map_nil]); first | done | rfl | (simp only [List.length_drop, List.length_take]; rfl)) ?_
              with_reducible refine (nat_Nat_Bits.calls kj6 _ _ t338 t366 _ ?side1 ?side2 A92.out).mono ?_
              (case side1 => exact cv HO_343000.out)
              (case side2 => exact (Kd.V_reads' HO_343000.out).2.1)
              rintro e w130 ⟨rfl, hb⟩
              refine ⟨_, rfl, ?_⟩
              replace HO_342000 := Aside0.mk (vb HO_342000.out hb)
              replace HO_343000 := Aside0.mk (vb HO_343000.out hb)
              replace HO352 := Aside0.mk (vb HO352.out hb)
              replace BK341 := Aside0.mk (bb BK341.out hb)
              replace BK342 := Aside0.mk (bb BK342.out hb)
              replace HB := Aside0.mk (bs HB.out hb)
              (try clear hb)
              (try clear hb2)
              (try clear hk)
              (try clear hi)
              refine hK.out _ _ ⟨(blk_cell BK341.out 0).trans rfl, (blk_cell BK342.out 0).trans rfl⟩ (fun hHeld => ?_)
              clear hK K
              refine norm_ (a' := ?_) ?_ ?_
              rotate_left
              · show Act.put _ (some 46) _ = _
                simp only [Act.put, List.setIfInBounds_toArray, List.set_cons_zero, List.set_cons_succ, i64_w, i32_w]
                rfl
              refine pure_ (i := 15) (N := some 47) (v := ?_) (a' := ?_) (fl 16 44 []) rfl rfl (any_of HT_.out (by kernel_rfl)) (fun _ _ _ h => h) (Or.inl ⟨by rfl, ?_⟩) ?_ ?_
              rotate_left
              · intro w'
                go_simp
                with_reducible rfl
              rotate_left
              · simp only [Act.put, List.setIfInBounds_toArray, List.set_cons_zero, List.set_cons_succ, i64_w, i32_w]
                rfl
              refine pure_ (i := 16) (N := some 48) (v := ?_) (a' := ?_) (fl 17 44 []) rfl rfl (any_of HT_.out (by kernel_rfl)) (fun _ _ _ h => h) (Or.inl ⟨by rfl, ?_⟩) ?_ ?_
              rotate_left
              · intro w'
                go_simp
                with_reducible rfl
              rotate_left
              · simp only [Act.put, List.setIfInBounds_toArray, List.set_cons_zero, List.set_cons_succ, i64_w, i32_w]
                rfl
              refine pure_ (i := 17) (N := some 49) (v := ?_) (a' := ?_) (fl 18 44 []) rfl rfl (any_of HT_.out (by kernel_rfl)) (fun _ _ _ h => h) (Or.inl ⟨by rfl, ?_⟩) ?_ ?_
              rotate_left
              · intro w'
                go_simp
                with_reducible rfl
              rotate_left
              · simp only [Act.put, List.setIfInBounds_toArray, List.set_cons_zero, List.set_cons_succ, i64_w, i32_w]
                rfl
              refine pure_ (i := 18) (N := some 50) (v := ?_) (a' := ?_) (fl 19 44 []) rfl rfl (any_of HT_.out (by kernel_rfl)) (fun _ _ _ h => h) (Or.inl ⟨by rfl, ?_⟩) ?_ ?_
              rotate_left
              · intro w'
                go_simp
                with_reducible rfl
              rotate_left
              · simp only [Act.put, List.setIfInBounds_toArray, List.set_cons_zero, List.set_cons_succ, i64_w, i32_w]
                rfl
              refine pure_ (i := 19) (N := some 51) (v := ?_) (a' := ?_) (fl 20 44 []) rfl rfl (any_of HT_.out (by kernel_rfl)) (fun _ _ _ h => h) (Or.inl ⟨by rfl, ?_⟩) ?_ ?_
              rotate_left
              · intro w'
                go_simp
                with_reducible rfl
              rotate_left
              · simp only [Act.put, List.setIfInBounds_toArray, List.set_cons_zero, List.set_cons_succ, i64_w, i32_w]
                rfl
              refine pure_ (i := 20) (N := some 52) (v := ?_) (a' := ?_) (fl 21 44 []) rfl rfl (any_of HT_.out (by kernel_rfl)) (fun _ _ _ h => h) (Or.inl ⟨by rfl, ?_⟩) ?_ ?_
              rotate_left
              · intro w'
                go_simp
                with_reducible rfl
              rotate_left
              · simp only [Act.put, List.setIfInBounds_toArray, List.set_cons_zero, List.set_cons_succ, i64_w, i32_w]
                rfl
              refine take_ (i := 21) (N := some 53) (v := ?_) (a' := ?_) (fl 22 44 []) rfl rfl (take_ofW HT_.out HW_.out (by kernel_rfl)) (fun _ _ _ h => h) (Or.inl ⟨by rfl, ?_⟩) hHeld ?_ ?_
              rotate_left
              · rintro w' ⟨s0, s1⟩
                go_simp
                with_reducible rfl
              rotate_left
              · simp only [Act.put, List.setIfInBounds_toArray, List.set_cons_zero, List.set_cons_succ, i64_w, i32_w]
                rfl
              refine take_ (i := 22) (N := some 54) (v := ?_) (a' := ?_) (fl 23 44 []) rfl rfl (take_ofW HT_.out HW_.out (by kernel_rfl)) (fun _ _ _ h => h) (Or.inl ⟨by rfl, ?_⟩) hHeld ?_ ?_
              rotate_left
              · rintro w' ⟨s0, s1⟩
                go_simp
                with_reducible rfl
              rotate_left
              · simp only [Act.put, List.setIfInBounds_toArray, List.set_cons_zero, List.set_cons_succ, i64_w, i32_w]
                rfl
              refine take_ (i := 25) (N := some 57) (v := ?_) (a' := ?_) (fl 23 44 [25]) rfl rfl (take_ofW HT_.out HW_.out (by kernel_rfl)) (fun _ _ _ h => h) (Or.inl ⟨by rfl, ?_⟩) hHeld ?_ ?_
              rotate_left
              · rintro w' ⟨s0, s1⟩
                go_simp
                with_reducible rfl
              rotate_left
              · simp only [Act.put, List.setIfInBounds_toArray, List.set_cons_zero, List.set_cons_succ, i64_w, i32_w]
                rfl
              refine one_ (i := 23) (N := some 55) (fl 24 44 [25]) rfl rfl (one_of HT_.out (by kernel_rfl)) (by decide) (fun K hK => ?_)
              refine goes_ Try.func25 (by kernel_rfl) rfl #[.agg #[.slice Ao16 t332.length co16], .agg #[.slice Ao16 t332.length co16]] (by rfl) rfl rfl (by (try simp only [List.map_toArray, List.map_cons, List.map_nil]); first | done | rfl | (simp only [List.length_drop, List.length_take]; rfl)) ?_
              with_reducible refine (nat_Nat_Add.calls kj6 _ _ t332 _ _ t332 t367 _ ?side1 ?side2 ?side3 ?side4 A94.out).mono ?_
              (case side1 => exact cv HO_342000.out)
              (case side2 => exact (Kd.V_reads' HO_342000.out).2.1)
              (case side3 => exact cv HO_342000.out)
              (case side4 => exact (Kd.V_reads' HO_342000.out).2.1)
              rintro e w131 ⟨v368, rfl, ho0, hb⟩
              refine ⟨_, rfl, ?_⟩
              replace HO_342000 := Aside0.mk (vb HO_342000.out hb)
              replace HO_343000 := Aside0.mk (vb HO_343000.out hb)
              replace HO352 := Aside0.mk (vb HO352.out hb)
              have HO369 := Aside0.mk (Kd.V_lower (Kd.V_mono (ok' := fun k_ => k_ ≠ gb341 ∧ k_ ≠ gb342) ho0 (fun k_ hk_ => ⟨(fb BK341.out k_ hk_), (fb BK342.out k_ hk_)⟩)) (bz HB.out))
              replace BK341 := Aside0.mk (bb BK341.out hb)
              replace BK342 := Aside0.mk (bb BK342.out hb)
              replace HB := Aside0.mk (bs HB.out hb)
              (try clear hb)
              (try clear hb2)
              (try clear hk)
              (try clear hi)
              (try clear ho0)
              obtain ⟨Ao132, co132, eo132⟩ := Kd.V_slice HO369.out
              (first | subst eo132 | (injection eo132 with f1_ f2_ f3_; have f4_ := f1_.symm; have f5_ := f3_.symm; clear f1_ f2_ f3_; subst f4_; subst f5_))
              refine hK.out _ _ ⟨(blk_cell BK341.out 0).trans rfl, (blk_cell BK342.out 0).trans rfl⟩ (fun hHeld => ?_)
              clear hK K
              refine norm_ (a' := ?_) ?_ ?_
              rotate_left
              · show Act.put _ (some 55) _ = _
                simp only [Act.put, List.setIfInBounds_toArray, List.set_cons_zero, List.set_cons_succ, i64_w, i32_w]
                rfl
              refine one_ (i := 24) (N := some 56) (fl 26 44 []) rfl rfl (one_of HT_.out (by kernel_rfl)) (by decide) (fun K hK => ?_)
              refine goes_ Try.func19 (by kernel_rfl) rfl #[.agg #[.slice Ao132 t367.length co132]] (by rfl) rfl rfl (by (try simp only [List.map_toArray, List.map_cons, List.map_nil]); first | done | rfl | (simp only [List.length_drop, List.length_take]; rfl)) ?_
              with_reducible refine (nat_Nat_Bits.calls kj6 _ _ t367 t370 _ ?side1 ?side2 A95.out).mono ?_
              (case side1 => exact cv HO369.out)
              (case side2 => exact (Kd.V_reads' HO369.out).2.1)
              rintro e w133 ⟨rfl, hb⟩
              refine ⟨_, rfl, ?_⟩
              replace HO_342000 := Aside0.mk (vb HO_342000.out hb)
              replace HO_343000 := Aside0.mk (vb HO_343000.out hb)
              replace HO352 := Aside0.mk (vb HO352.out hb)
              replace HO369 := Aside0.mk (vb HO369.out hb)
              replace BK341 := Aside0.mk (bb BK341.out hb)
              replace BK342 := Aside0.mk (bb BK342.out hb)
              replace HB := Aside0.mk (bs HB.out hb)
              (try clear hb)
              (try clear hb2)
              (try clear hk)
              (try clear hi)
              refine hK.out _ _ ⟨(blk_cell BK341.out 0).trans rfl, (blk_cell BK342.out 0).trans rfl⟩ (fun hHeld => ?_)
              clear hK K
              refine norm_ (a' := ?_) ?_ ?_
              rotate_left
              · show Act.put _ (some 56) _ = _
                simp only [Act.put, List.setIfInBounds_toArray, List.set_cons_zero, List.set_cons_succ, i64_w, i32_w]
                rfl
              refine one_ (i := 26) (N := some 58) (fl 27 44 []) rfl rfl (one_of HT_.out (by kernel_rfl)) (by decide) (fun K hK => ?_)
              refine goes_ Try.func19 (by kernel_rfl) rfl #[.agg #[.slice Ao16 t332.length co16]] (by rfl) rfl rfl (by (try simp only [List.map_toArray, List.map_cons, List.map_nil]); first | done | rfl | (simp only [List.length_drop, List.length_take]; rfl)) ?_
              with_reducible refine (nat_Nat_Bits.calls kj6 _ _ t332 t371 _ ?side1 ?side2 A96.out).mono ?_
              (case side1 => exact cv HO_342000.out)
              (case side2 => exact (Kd.V_reads' HO_342000.out).2.1)
              rintro e w134 ⟨rfl, hb⟩
              refine ⟨_, rfl, ?_⟩
              replace HO_342000 := Aside0.mk (vb HO_342000.out hb)
              replace HO_343000 := Aside0.mk (vb HO_343000.out hb)
              replace HO352 := Aside0.mk (vb HO352.out hb)
              replace HO369 := Aside0.mk (vb HO369.out hb)
              replace BK341 := Aside0.mk (bb BK341.out hb)
              replace BK342 := Aside0.mk (bb BK342.out hb)
              replace HB := Aside0.mk (bs HB.out hb)
              (try clear hb)
              (try clear hb2)
              (try clear hk)
              (try clear hi)
              refine hK.out _ _ ⟨(blk_cell BK341.out 0).trans rfl, (blk_cell BK342.out 0).trans rfl⟩ (fun hHeld => ?_)
              clear hK K
              refine norm_ (a' := ?_) ?_ ?_
              rotate_left
              · show Act.put _ (some 58) _ = _
                simp only [Act.put, List.setIfInBounds_toArray, List.set_cons_zero, List.set_cons_succ, i64_w, i32_w]
                rfl
              refine pure_ (i := 27) (N := some 59) (v := ?_) (a' := ?_) (fl 28 44 []) rfl rfl (any_of HT_.out (by kernel_rfl)) (fun _ _ _ h => h) (Or.inl ⟨by rfl, ?_⟩) ?_ ?_
              rotate_left
              · intro w'
                go_simp
                with_reducible rfl
              rotate_left
              · simp only [Act.put, List.setIfInBounds_toArray, List.set_cons_zero, List.set_cons_succ, i64_w, i32_w]
                rfl
              refine pure_ (i := 28) (N := some 60) (v := ?_) (a' := ?_) (fl 29 44 []) rfl rfl (any_of HT_.out (by kernel_rfl)) (fun _ _ _ h => h) (Or.inl ⟨by rfl, ?_⟩) ?_ ?_
              rotate_left
              · intro w'
                go_simp
                with_reducible rfl
              rotate_left
              · simp only [Act.put, List.setIfInBounds_toArray, List.set_cons_zero, List.set_cons_succ, i64_w, i32_w]
                rfl
              refine pure_ (i := 29) (N := some 61) (v := ?_) (a' := ?_) (fl 30 44 []) rfl rfl (any_of HT_.out (by kernel_rfl)) (fun _ _ _ h => h) (Or.inl ⟨by rfl, ?_⟩) ?_ ?_
              rotate_left
              · intro w'
                go_simp
                with_reducible rfl
              rotate_left
              · simp only [Act.put, List.setIfInBounds_toArray, List.set_cons_zero, List.set_cons_succ, i64_w, i32_w]
                rfl
              refine pure_ (i := 30) (N := some 62) (v := ?_) (a' := ?_) (fl 31 44 []) rfl rfl (any_of HT_.out (by kernel_rfl)) (fun _ _ _ h => h) (Or.inl ⟨by rfl, ?_⟩) ?_ ?_
              rotate_left
              · intro w'
                go_simp
                with_reducible rfl
              rotate_left
              · simp only [Act.put, List.setIfInBounds_toArray, List.set_cons_zero, List.set_cons_succ, i64_w, i32_w]
                rfl
              refine take_ (i := 31) (N := some 63) (v := ?_) (a' := ?_) (fl 32 44 []) rfl rfl (take_ofW HT_.out HW_.out (by kernel_rfl)) (fun _ _ _ h => h) (Or.inl ⟨by rfl, ?_⟩) hHeld ?_ ?_
              rotate_left
              · rintro w' ⟨s0, s1⟩
                go_simp
                with_reducible rfl
              rotate_left
              · simp only [Act.put, List.setIfInBounds_toArray, List.set_cons_zero, List.set_cons_succ, i64_w, i32_w]
                rfl
              refine take_ (i := 32) (N := some 64) (v := ?_) (a' := ?_) (fl 33 44 []) rfl rfl (take_ofW HT_.out HW_.out (by kernel_rfl)) (fun _ _ _ h => h) (Or.inl ⟨by rfl, ?_⟩) hHeld ?_ ?_
              rotate_left
              · rintro w' ⟨s0, s1⟩
                go_simp
                with_reducible rfl
              rotate_left
              · simp only [Act.put, List.setIfInBounds_toArray, List.set_cons_zero, List.set_cons_succ, i64_w, i32_w]
                rfl
              refine one_ (i := 33) (N := some 65) (fl 34 44 []) rfl rfl (one_of HT_.out (by kernel_rfl)) (by decide) (fun K hK => ?_)
              refine goes_ Try.func21 (by kernel_rfl) rfl #[.agg #[.slice Ao16 t332.length co16], .agg #[.slice Ao19 t338.length co19]] (by rfl) rfl rfl (by (try simp only [List.map_toArray, List.map_cons, List.map_nil]); first | done | rfl | (simp only [List.length_drop, List.length_take]; rfl)) ?_
              with_reducible refine (nat_Nat_Cmp.calls kj6 _ _ t332 _ _ t338 t372 _ ?side1 ?side2 ?side3 ?side4 A98.out).mono ?_
              (case side1 => exact cv HO_342000.out)
              (case side2 => exact (Kd.V_reads' HO_342000.out).2.1)
              (case side3 => exact cv HO_343000.out)
              (case side4 => exact (Kd.V_reads' HO_343000.out).2.1)
              rintro e w135 ⟨rfl, hb⟩
              refine ⟨_, rfl, ?_⟩
              replace HO_342000 := Aside0.mk (vb HO_342000.out hb)
              replace HO_343000 := Aside0.mk (vb HO_343000.out hb)
              replace HO352 := Aside0.mk (vb HO352.out hb)
              replace HO369 := Aside0.mk (vb HO369.out hb)
              replace BK341 := Aside0.mk (bb BK341.out hb)
              replace BK342 := Aside0.mk (bb BK342.out hb)
              replace HB := Aside0.mk (bs HB.out hb)
              (try clear hb)
              (try clear hb2)
              (try clear hk)
              (try clear hi)
              refine hK.out _ _ ⟨(blk_cell BK341.out 0).trans rfl, (blk_cell BK342.out 0).trans rfl⟩ (fun hHeld => ?_)
              clear hK K
              refine norm_ (a' := ?_) ?_ ?_
              rotate_left
              · show Act.put _ (some 65) _ = _
                simp only [Act.put, List.setIfInBounds_toArray, List.set_cons_zero, List.set_cons_succ, i64_w, i32_w]
                rfl
              refine pure_ (i := 34) (N := some 66) (v := ?_) (a' := ?_) (fl 35 44 []) rfl rfl (any_of HT_.out (by kernel_rfl)) (fun _ _ _ h => h) (Or.inl ⟨by rfl, ?_⟩) ?_ ?_
              rotate_left
              · intro w'
                go_simp
                with_reducible rfl
              rotate_left
              · simp only [Act.put, List.setIfInBounds_toArray, List.set_cons_zero, List.set_cons_succ, i64_w, i32_w]
                rfl
              refine pure_ (i := 35) (N := some 67) (v := ?_) (a' := ?_) (fl 36 44 []) rfl rfl (any_of HT_.out (by kernel_rfl)) (fun _ _ _ h => h) (Or.inl ⟨by rfl, ?_⟩) ?_ ?_
              rotate_left
              · intro w'
                go_simp
                with_reducible rfl
              rotate_left
              · simp only [Act.put, List.setIfInBounds_toArray, List.set_cons_zero, List.set_cons_succ, i64_w, i32_w]
                rfl
              refine take_ (i := 36) (N := some 68) (v := ?_) (a' := ?_) (fl 37 44 []) rfl rfl (take_ofW HT_.out HW_.out (by kernel_rfl)) (fun _ _ _ h => h) (Or.inl ⟨by rfl, ?_⟩) hHeld ?_ ?_
              rotate_left
              · rintro w' ⟨s0, s1⟩
                go_simp
                with_reducible rfl
              rotate_left
              · simp only [Act.put, List.setIfInBounds_toArray, List.set_cons_zero, List.set_cons_succ, i64_w, i32_w]
                rfl
              refine take_ (i := 38) (N := some 70) (v := ?_) (a' := ?_) (fl 37 44 [38]) rfl rfl (take_ofW HT_.out HW_.out (by kernel_rfl)) (fun _ _ _ h => h) (Or.inl ⟨by rfl, ?_⟩) hHeld ?_ ?_
              rotate_left
              · rintro w' ⟨s0, s1⟩
                go_simp
                with_reducible rfl
              rotate_left
              · simp only [Act.put, List.setIfInBounds_toArray, List.set_cons_zero, List.set_cons_succ, i64_w, i32_w]
                rfl
              refine one_ (i := 37) (N := some 69) (fl 39 44 []) rfl rfl (one_of HT_.out (by kernel_rfl)) (by decide) (fun K hK => ?_)
              refine goes_ Try.func19 (by kernel_rfl) rfl #[.agg #[.slice Ao16 t332.length co16]] (by rfl) rfl rfl (by (try simp only [List.map_toArray, List.map_cons, List.map_nil]); first | done | rfl | (simp only [List.length_drop, List.length_take]; rfl)) ?_
              with_reducible refine (nat_Nat_Bits.calls kj6 _ _ t332 t373 _ ?side1 ?side2 A117.out).mono ?_
              (case side1 => exact cv HO_342000.out)
              (case side2 => exact (Kd.V_reads' HO_342000.out).2.1)
              rintro e w136 ⟨rfl, hb⟩
              refine ⟨_, rfl, ?_⟩
              replace HO_342000 := Aside0.mk (vb HO_342000.out hb)
              replace HO_343000 := Aside0.mk (vb HO_343000.out hb)
              replace HO352 := Aside0.mk (vb HO352.out hb)
              replace HO369 := Aside0.mk (vb HO369.out hb)
              replace BK341 := Aside0.mk (bb BK341.out hb)
              replace BK342 := Aside0.mk (bb BK342.out hb)
              replace HB := Aside0.mk (bs HB.out hb)
              (try clear hb)
              (try clear hb2)
              (try clear hk)
              (try clear hi)
              refine hK.out _ _ ⟨(blk_cell BK341.out 0).trans rfl, (blk_cell BK342.out 0).trans rfl⟩ (fun hHeld => ?_)
              clear hK K
              refine norm_ (a' := ?_) ?_ ?_
              rotate_left
              · show Act.put _ (some 69) _ = _
                simp only [Act.put, List.setIfInBounds_toArray, List.set_cons_zero, List.set_cons_succ, i64_w, i32_w]
                rfl
              refine one_ (i := 39) (N := some 71) (fl 40 44 []) rfl rfl (one_of HT_.out (by kernel_rfl)) (by decide) (fun K hK => ?_)
              refine goes_ Try.func19 (by kernel_rfl) rfl #[.agg #[.slice Ao19 t338.length co19]] (by rfl) rfl rfl (by (try simp only [List.map_toArray, List.map_cons, List.map_nil]); first | done | rfl | (simp only [List.length_drop, List.length_take]; rfl)) ?_
              with_reducible refine (nat_Nat_Bits.calls kj6 _ _ t338 t374 _ ?side1 ?side2 A118.out).mono ?_
              (case side1 => exact cv HO_343000.out)
              (case side2 => exact (Kd.V_reads' HO_343000.out).2.1)
              rintro e w137 ⟨rfl, hb⟩
              refine ⟨_, rfl, ?_⟩
              replace HO_342000 := Aside0.mk (vb HO_342000.out hb)
              replace HO_343000 := Aside0.mk (vb HO_343000.out hb)
              replace HO352 := Aside0.mk (vb HO352.out hb)
              replace HO369 := Aside0.mk (vb HO369.out hb)
              replace BK341 := Aside0.mk (bb BK341.out hb)
              replace BK342 := Aside0.mk (bb BK342.out hb)
              replace HB := Aside0.mk (bs HB.out hb)
              (try clear hb)
              (try clear hb2)
              (try clear hk)
              (try clear hi)
              refine hK.out _ _ ⟨(blk_cell BK341.out 0).trans rfl, (blk_cell BK342.out 0).trans rfl⟩ (fun hHeld => ?_)
              clear hK K
              refine norm_ (a' := ?_) ?_ ?_
              rotate_left
              · show Act.put _ (some 71) _ = _
                simp only [Act.put, List.setIfInBounds_toArray, List.set_cons_zero, List.set_cons_succ, i64_w, i32_w]
                rfl
              refine pure_ (i := 40) (N := some 72) (v := ?_) (a' := ?_) (fl 41 44 []) rfl rfl (any_of HT_.out (by kernel_rfl)) (fun _ _ _ h => h) (Or.inl ⟨by rfl, ?_⟩) ?_ ?_
              rotate_left
              · intro w'
                go_simp
                with_reducible rfl
              rotate_left
              · simp only [Act.put, List.setIfInBounds_toArray, List.set_cons_zero, List.set_cons_succ, i64_w, i32_w]
                rfl
              refine pure_ (i := 41) (N := some 73) (v := ?_) (a' := ?_) (fl 42 44 []) rfl rfl (any_of HT_.out (by kernel_rfl)) (fun _ _ _ h => h) (Or.inl ⟨by rfl, ?_⟩) ?_ ?_
              rotate_left
              · intro w'
                go_simp
                with_reducible rfl
              rotate_left
              · simp only [Act.put, List.setIfInBounds_toArray, List.set_cons_zero, List.set_cons_succ, i64_w, i32_w]
                rfl
              refine pure_ (i := 42) (N := some 74) (v := ?_) (a' := ?_) (fl 43 44 []) rfl rfl (any_of HT_.out (by kernel_rfl)) (fun _ _ _ h => h) (Or.inl ⟨by rfl, ?_⟩) ?_ ?_
              rotate_left
              · intro w'
                go_simp
                with_reducible rfl
              rotate_left
              · simp only [Act.put, List.setIfInBounds_toArray, List.set_cons_zero, List.set_cons_succ, i64_w, i32_w]
                rfl
              refine pure_ (i := 43) (N := some 4) (v := ?_) (a' := ?_) (fl 44 44 []) rfl rfl (any_of HT_.out (by kernel_rfl)) (fun _ _ _ h => h) (Or.inl ⟨by rfl, ?_⟩) ?_ ?_
              rotate_left
              · intro w'
                go_simp
                with_reducible rfl
              rotate_left
              · simp only [Act.put, List.setIfInBounds_toArray, List.set_cons_zero, List.set_cons_succ, i64_w, i32_w]
                rfl
              refine done_ (done_of HT_.out (by kernel_rfl)) ?_
              try go_wp2
              go_ret
              exact ⟨by first | rfl | (simp [errW_none, errW_some] <;> rfl) | (simp [*, errW_none, errW_some] <;> rfl), by repeat (first | (with_reducible first | exact HB.out | apply below_alloc | apply pw_below_drewN | apply below_drew1 | refine below_set ?_ GE341.out | refine below_set ?_ GE342.out) | exact HB.out)⟩
        · replace c47 := Bool.eq_false_iff.mpr c47
          subst c47
          have H1 : (some false) = some r := by rw [if_neg (show ¬ (false = true) by decide)] at H; exact H
          clear H
          have H := H1
          clear H1
          exact absurd (Option.some.inj H) (by rw [ht_]; decide)

/-- THE ONE PURE STATEMENT of chattellaw01_NatBits: yours. -/
def chattellaw01_NatBits.Pure : Prop := ∀ (l0 : List Int) (l1 : List Int), l0.length ≤ maxLen → l0.length * 8 ≤ 140737488351232 → (∀ x ∈ l0, (Lit.int .u64 x).wf = true) → l1.length ≤ maxLen → l1.length * 8 ≤ 140737488351232 → (∀ x ∈ l1, (Lit.int .u64 x).wf = true) → ∃ k, chattellaw01_NatBits.f k l0 l1 = some true
theorem chattellaw01_NatBits.walk (P : chattellaw01_NatBits.Pure) (a0 : Option Addr) (len0 cap0 : Nat) (z0 : List Int) (a1 : Option Addr) (len1 cap1 : Nat) (z1 : List Int) (w : World) (w0 : (a0 = none ∧ len0 = 0 ∧ cap0 = 0 ∧ z0 = []) ∨ ∃ x, a0 = some x ∧ len0 ≤ cap0 ∧ cap0 ≤ maxLen ∧ z0.length = cap0 ∧ (∀ i, i < z0.length → w.cell? (x.add i) = some (.int .u64 (z0.getD i 0))) ∧ ∀ n ∈ z0, (Lit.int .u64 n).wf = true) (y0 : len0 * 8 ≤ 140737488351232) (w1 : (a1 = none ∧ len1 = 0 ∧ cap1 = 0 ∧ z1 = []) ∨ ∃ x, a1 = some x ∧ len1 ≤ cap1 ∧ cap1 ≤ maxLen ∧ z1.length = cap1 ∧ (∀ i, i < z1.length → w.cell? (x.add i) = some (.int .u64 (z1.getD i 0))) ∧ ∀ n ∈ z1, (Lit.int .u64 n).wf = true) (y1 : len1 * 8 ≤ 140737488351232) :
    Calls Try.prog 4 #[.slice a0 len0 cap0, .slice a1 len1 cap1] w fun e w' => e = .returned (.bool true) ∧ Below w.heap.size w w' := by
  obtain ⟨l0, rfl, hr0, hm0, hw0, hc0⟩ := ReadsInt.ofRowC w0
  obtain ⟨l1, rfl, hr1, hm1, hw1, hc1⟩ := ReadsInt.ofRowC w1
  obtain ⟨k, h⟩ := P l0 l1 hm0 y0 hw0 hm1 y1 hw1
  refine (chattellaw01_NatBits.calls k _ _ l0 _ _ l1 true w (Kd.C_of_reads (d := (0 : Int)) (h1 := fun _ => rfl) hr0) hc0 (Kd.C_of_reads (d := (0 : Int)) (h1 := fun _ => rfl) hr1) hc1 h rfl).mono ?_
  rintro e w' ⟨rfl, hd⟩
  exact ⟨rfl, hd⟩

end Go.Proofs.Ytebjbmgfbejapaa.F
