-- Written by this session's printer (wip/tools), out of the translation's own print. Lean checks it.
import Derived.Test.YtfikfmediheioaaF0
import Derived.Test.YtfikfmediheioaaF19
namespace Go.Proofs.Ytfikfmediheioaa.F
open Go.RowKit Go.Proofs.YtfikfmediheioaaW.PrintWords Go.Proofs.YtfikfmediheioaaW.PrintLast Go.Proofs.YtfikfmediheioaaW.PrintMore Go.Proofs.YtfikfmediheioaaX
attribute [local go_sem] max2_int cell_some
attribute [local go_sem] max2_int min2_int max_two min_two max_three min_three max_four min_four   -- for this text's walks alone
set_option linter.unusedVariables false
set_option linter.unusedSimpArgs false

/-! ### date_Weekday: function 23 -/
def date_Weekday.f (k : Nat) (a0_0 : Int) (a0_1 : Int) (a0_2 : Int) : Option (Int × Int) := (date_Number.f k a0_0 a0_1 a0_2).bind fun bt274 => (if bt274.2 = 0 then (some (Int.tmod (wrap64 (bt274.1 - 1)) 7, 0)) else (some (0, bt274.2)))
theorem date_Weekday.mono : ∀ a0 a1 a2 k, LeO (date_Weekday.f k a0 a1 a2) (date_Weekday.f (k + 1) a0 a1 a2) := by
  intro a0 a1 a2 k
  unfold date_Weekday.f
  repeat' first
      | (with_reducible exact date_Number.mono _ _ _ _)
      | (with_reducible exact LeO.refl _)
      | (with_reducible exact LeO.none _)
      | (with_reducible refine LeO.ite ?_ ?_)
      | (with_reducible refine LeO.bind ?_ (fun _ => ?_))
      | exact date_Number.mono _ _ _ _
      | exact LeO.none _
      | refine LeO.ite ?_ ?_
      | refine LeO.bind ?_ (fun _ => ?_)
set_option maxHeartbeats 8000000 in
set_option maxRecDepth 100000 in
theorem date_Weekday.calls (k : Nat) (a0_0 : Int) (a0_1 : Int) (a0_2 : Int) (r1 : Int) (r2 : Int) (w : World) (h : date_Weekday.f k a0_0 a0_1 a0_2 = some (r1, r2)) :
    Calls Try.prog 23 #[.agg #[.int .i64 a0_0, .int .i64 a0_1, .int .i64 a0_2]] w fun e w' => e = .returned (.tuple #[.int .i64 r1, .int .i64 r2]) ∧ Below w.heap.size w w' := by
  have hu23 := Try.underlying23
  have HB := Aside0.mk (Below.refl w.heap.size w)
  have H : ((date_Number.f k a0_0 a0_1 a0_2).bind fun bt274 => (if bt274.2 = 0 then (some (Int.tmod (wrap64 (bt274.1 - 1)) 7, 0)) else (some (0, bt274.2)))) = some (r1, r2) := h
  clear h
  replace H := Option.bind_eq_some_iff.mp H
  obtain ⟨⟨t274, t275⟩, A20, H⟩ := H
  replace H : (if t275 = 0 then (some (Int.tmod (wrap64 (t274 - 1)) 7, 0)) else (some (0, t275))) = some (r1, r2) := H
  have A2 := Aside0.mk A20
  clear A20
  by_cases c3 : t275 = 0
  · rw [if_pos c3] at H
    have c3b0 : (t275 == 0) = true := beq_iff_eq.mpr c3
    have c3b1 : (t275 != 0) = false := bne_eq_false_iff_eq.mpr c3
    clear c3
    simp only [Option.some.injEq, Prod.mk.injEq] at H
    obtain ⟨rfl, rfl⟩ := H
    go_enter Try.func23, Try.ntmps23
    go_wp2_with (first | ((with_reducible refine gate_dst (N := 1) rfl ?_); refine box_event ?hg (N := 1) ?hd (cs := #[.int .i64 a0_0, .int .i64 a0_1, .int .i64 a0_2]) (t := 23) ?hr ?_; (case hd => rfl); (case hg => rfl); (case hr => first | (go_simp; done) | (go_simp; rfl)); intro gb273 hg w4 hbox hb; have n0_ := Aside0.mk (below_step (by repeat (first | (with_reducible first | exact HB.out | apply below_alloc | apply pw_below_drewN | apply below_drew1) | exact HB.out)) hb); have n1_ := Aside0.mk (hbox); have n2_ := Aside0.mk ((by rw [hg]; exact (below_size (by repeat (first | (with_reducible first | exact HB.out | apply below_alloc | apply pw_below_drewN | apply below_drew1) | exact HB.out))) : w.heap.size ≤ gb273)); have n3_ := Aside0.mk ((by rw [hg]; exact (below_size (by repeat (first | (with_reducible first | exact HB.out | apply below_alloc | apply pw_below_drewN | apply below_drew1) | exact HB.out))) : w.heap.size ≤ gb273)); clear HB; have HB := n0_; have BK273 := n1_; have GW273 := n2_; have GE273 := n3_; clear n0_ n1_ n2_ n3_; clear hb hbox hg; have hcz5_0 : w4.cell? ⟨gb273, 0, none⟩ = some (.int .i64 a0_0) := (blk_cell BK273.out 0).trans rfl; have hcz5_1 : w4.cell? ⟨gb273, 1, none⟩ = some (.int .i64 a0_1) := (blk_cell BK273.out 1).trans rfl; have hcz5_2 : w4.cell? ⟨gb273, 2, none⟩ = some (.int .i64 a0_2) := (blk_cell BK273.out 2).trans rfl; have hfz5_0 := blk_frozen BK273.out 0; have hfz5_1 := blk_frozen BK273.out 1; have hfz5_2 := blk_frozen BK273.out 2) | ((with_reducible refine gate_callee (f := 22) rfl ?_); refine goesL_ (some 8) rfl rfl Try.func22 (by kernel_rfl) rfl #[.agg #[.int .i64 a0_0, .int .i64 a0_1, .int .i64 a0_2]] rfl (by (try simp only [List.map_toArray, List.map_cons, List.map_nil]); first | done | rfl | (simp only [List.length_drop, List.length_take]; rfl)) ?_; (with_reducible refine (date_Number.calls k a0_0 a0_1 a0_2 t274 t275 _ A2.out).mono ?_); rintro e w6 ⟨rfl, hb⟩; refine ⟨_, rfl, ?_⟩; replace BK273 := Aside0.mk (bb BK273.out hb); replace HB := Aside0.mk (bs HB.out hb); (try clear hb); (try clear hb2); (try clear hk); (try clear hi)))
    go_ret2
    exact ⟨by first | rfl | (simp [errW_none, errW_some] <;> rfl) | (simp [*, errW_none, errW_some] <;> rfl), by repeat (first | (with_reducible first | exact HB.out | apply below_alloc | apply pw_below_drewN | apply below_drew1 | refine below_set ?_ GE273.out) | exact HB.out)⟩
  · rw [if_neg c3] at H
    have c3b0 : (t275 == 0) = false := beq_eq_false_iff_ne.mpr c3
    have c3b1 : (t275 != 0) = true := bne_iff_ne.mpr c3
    simp only [Option.some.injEq, Prod.mk.injEq] at H
    obtain ⟨rfl, rfl⟩ := H
    go_enter Try.func23, Try.ntmps23
    go_wp2_with (first | ((with_reducible refine gate_dst (N := 1) rfl ?_); refine box_event ?hg (N := 1) ?hd (cs := #[.int .i64 a0_0, .int .i64 a0_1, .int .i64 a0_2]) (t := 23) ?hr ?_; (case hd => rfl); (case hg => rfl); (case hr => first | (go_simp; done) | (go_simp; rfl)); intro gb273 hg w7 hbox hb; have n0_ := Aside0.mk (below_step (by repeat (first | (with_reducible first | exact HB.out | apply below_alloc | apply pw_below_drewN | apply below_drew1) | exact HB.out)) hb); have n1_ := Aside0.mk (hbox); have n2_ := Aside0.mk ((by rw [hg]; exact (below_size (by repeat (first | (with_reducible first | exact HB.out | apply below_alloc | apply pw_below_drewN | apply below_drew1) | exact HB.out))) : w.heap.size ≤ gb273)); have n3_ := Aside0.mk ((by rw [hg]; exact (below_size (by repeat (first | (with_reducible first | exact HB.out | apply below_alloc | apply pw_below_drewN | apply below_drew1) | exact HB.out))) : w.heap.size ≤ gb273)); clear HB; have HB := n0_; have BK273 := n1_; have GW273 := n2_; have GE273 := n3_; clear n0_ n1_ n2_ n3_; clear hb hbox hg; have hcz8_0 : w7.cell? ⟨gb273, 0, none⟩ = some (.int .i64 a0_0) := (blk_cell BK273.out 0).trans rfl; have hcz8_1 : w7.cell? ⟨gb273, 1, none⟩ = some (.int .i64 a0_1) := (blk_cell BK273.out 1).trans rfl; have hcz8_2 : w7.cell? ⟨gb273, 2, none⟩ = some (.int .i64 a0_2) := (blk_cell BK273.out 2).trans rfl; have hfz8_0 := blk_frozen BK273.out 0; have hfz8_1 := blk_frozen BK273.out 1; have hfz8_2 := blk_frozen BK273.out 2) | ((with_reducible refine gate_callee (f := 22) rfl ?_); refine goesL_ (some 8) rfl rfl Try.func22 (by kernel_rfl) rfl #[.agg #[.int .i64 a0_0, .int .i64 a0_1, .int .i64 a0_2]] rfl (by (try simp only [List.map_toArray, List.map_cons, List.map_nil]); first | done | rfl | (simp only [List.length_drop, List.length_take]; rfl)) ?_; (with_reducible refine (date_Number.calls k a0_0 a0_1 a0_2 t274 t275 _ A2.out).mono ?_); rintro e w9 ⟨rfl, hb⟩; refine ⟨_, rfl, ?_⟩; replace BK273 := Aside0.mk (bb BK273.out hb); replace HB := Aside0.mk (bs HB.out hb); (try clear hb); (try clear hb2); (try clear hk); (try clear hi)))
    go_ret2
    exact ⟨by first | rfl | (simp [errW_none, errW_some] <;> rfl) | (simp [*, errW_none, errW_some] <;> rfl), by repeat (first | (with_reducible first | exact HB.out | apply below_alloc | apply pw_below_drewN | apply below_drew1 | refine below_set ?_ GE273.out) | exact HB.out)⟩

end Go.Proofs.Ytfikfmediheioaa.F
