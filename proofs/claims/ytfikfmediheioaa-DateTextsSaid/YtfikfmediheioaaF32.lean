-- Written by this session's printer (wip/tools), out of the translation's own print. Lean checks it.
import Derived.Test.YtfikfmediheioaaF0
import Derived.Test.YtfikfmediheioaaF31
namespace Go.Proofs.Ytfikfmediheioaa.F
open Go.RowKit Go.Proofs.YtfikfmediheioaaW.PrintWords Go.Proofs.YtfikfmediheioaaW.PrintLast Go.Proofs.YtfikfmediheioaaW.PrintMore Go.Proofs.YtfikfmediheioaaX
attribute [local go_sem] max2_int cell_some
attribute [local go_sem] max2_int min2_int max_two min_two max_three min_three max_four min_four   -- for this text's walks alone
set_option linter.unusedVariables false
set_option linter.unusedSimpArgs false

/-! ### chattelref09_Print: function 31 -/
def chattelref09_Print.f (k : Nat) (a0_0 : Int) (a0_1 : Int) (a0_2 : Int) : Option (ByteArray) := (chattelref09_digits.f k a0_0 4).bind fun t292 => ((chattelref09_digits.f k a0_1 2).bind fun t293 => ((chattelref09_digits.f k a0_2 2).bind fun t294 => (if t292.size + 1 ≤ 9223372036854775807 then (if (t292 ++ (⟨#[45]⟩ : ByteArray)).size + t293.size ≤ 9223372036854775807 then (if ((t292 ++ (⟨#[45]⟩ : ByteArray)) ++ t293).size + 1 ≤ 9223372036854775807 then (if (((t292 ++ (⟨#[45]⟩ : ByteArray)) ++ t293) ++ (⟨#[45]⟩ : ByteArray)).size + t294.size ≤ 9223372036854775807 then (some ((((t292 ++ (⟨#[45]⟩ : ByteArray)) ++ t293) ++ (⟨#[45]⟩ : ByteArray)) ++ t294)) else (none)) else (none)) else (none)) else (none))))
theorem chattelref09_Print.mono : ∀ a0 a1 a2 k, LeO (chattelref09_Print.f k a0 a1 a2) (chattelref09_Print.f (k + 1) a0 a1 a2) := by
  intro a0 a1 a2 k
  unfold chattelref09_Print.f
  repeat' first
      | (with_reducible exact chattelref09_digits.mono _ _ _)
      | (with_reducible exact LeO.refl _)
      | (with_reducible exact LeO.none _)
      | (with_reducible refine LeO.ite ?_ ?_)
      | (with_reducible refine LeO.bind ?_ (fun _ => ?_))
      | exact chattelref09_digits.mono _ _ _
      | exact LeO.none _
      | refine LeO.ite ?_ ?_
      | refine LeO.bind ?_ (fun _ => ?_)
set_option maxHeartbeats 8000000 in
set_option maxRecDepth 100000 in
theorem chattelref09_Print.calls (k : Nat) (a0_0 : Int) (a0_1 : Int) (a0_2 : Int) (r : ByteArray) (w : World) (h : chattelref09_Print.f k a0_0 a0_1 a0_2 = some r) :
    Calls Try.prog 31 #[.agg #[.int .i64 a0_0, .int .i64 a0_1, .int .i64 a0_2]] w fun e w' => e = .returned (.string r) ∧ Below w.heap.size w w' := by
  have hu23 := Try.underlying23
  have HB := Aside0.mk (Below.refl w.heap.size w)
  have H : ((chattelref09_digits.f k a0_0 4).bind fun t292 => ((chattelref09_digits.f k a0_1 2).bind fun t293 => ((chattelref09_digits.f k a0_2 2).bind fun t294 => (if t292.size + 1 ≤ 9223372036854775807 then (if (t292 ++ (⟨#[45]⟩ : ByteArray)).size + t293.size ≤ 9223372036854775807 then (if ((t292 ++ (⟨#[45]⟩ : ByteArray)) ++ t293).size + 1 ≤ 9223372036854775807 then (if (((t292 ++ (⟨#[45]⟩ : ByteArray)) ++ t293) ++ (⟨#[45]⟩ : ByteArray)).size + t294.size ≤ 9223372036854775807 then (some ((((t292 ++ (⟨#[45]⟩ : ByteArray)) ++ t293) ++ (⟨#[45]⟩ : ByteArray)) ++ t294)) else (none)) else (none)) else (none)) else (none))))) = some r := h
  clear h
  replace H := Option.bind_eq_some_iff.mp H
  obtain ⟨t292, A20, H⟩ := H
  replace H : ((chattelref09_digits.f k a0_1 2).bind fun t293 => ((chattelref09_digits.f k a0_2 2).bind fun t294 => (if t292.size + 1 ≤ 9223372036854775807 then (if (t292 ++ (⟨#[45]⟩ : ByteArray)).size + t293.size ≤ 9223372036854775807 then (if ((t292 ++ (⟨#[45]⟩ : ByteArray)) ++ t293).size + 1 ≤ 9223372036854775807 then (if (((t292 ++ (⟨#[45]⟩ : ByteArray)) ++ t293) ++ (⟨#[45]⟩ : ByteArray)).size + t294.size ≤ 9223372036854775807 then (some ((((t292 ++ (⟨#[45]⟩ : ByteArray)) ++ t293) ++ (⟨#[45]⟩ : ByteArray)) ++ t294)) else (none)) else (none)) else (none)) else (none)))) = some r := H
  have A2 := Aside0.mk A20
  clear A20
  replace H := Option.bind_eq_some_iff.mp H
  obtain ⟨t293, A30, H⟩ := H
  replace H : ((chattelref09_digits.f k a0_2 2).bind fun t294 => (if t292.size + 1 ≤ 9223372036854775807 then (if (t292 ++ (⟨#[45]⟩ : ByteArray)).size + t293.size ≤ 9223372036854775807 then (if ((t292 ++ (⟨#[45]⟩ : ByteArray)) ++ t293).size + 1 ≤ 9223372036854775807 then (if (((t292 ++ (⟨#[45]⟩ : ByteArray)) ++ t293) ++ (⟨#[45]⟩ : ByteArray)).size + t294.size ≤ 9223372036854775807 then (some ((((t292 ++ (⟨#[45]⟩ : ByteArray)) ++ t293) ++ (⟨#[45]⟩ : ByteArray)) ++ t294)) else (none)) else (none)) else (none)) else (none))) = some r := H
  have A3 := Aside0.mk A30
  clear A30
  replace H := Option.bind_eq_some_iff.mp H
  obtain ⟨t294, A40, H⟩ := H
  replace H : (if t292.size + 1 ≤ 9223372036854775807 then (if (t292 ++ (⟨#[45]⟩ : ByteArray)).size + t293.size ≤ 9223372036854775807 then (if ((t292 ++ (⟨#[45]⟩ : ByteArray)) ++ t293).size + 1 ≤ 9223372036854775807 then (if (((t292 ++ (⟨#[45]⟩ : ByteArray)) ++ t293) ++ (⟨#[45]⟩ : ByteArray)).size + t294.size ≤ 9223372036854775807 then (some ((((t292 ++ (⟨#[45]⟩ : ByteArray)) ++ t293) ++ (⟨#[45]⟩ : ByteArray)) ++ t294)) else (none)) else (none)) else (none)) else (none)) = some r := H
  have A4 := Aside0.mk A40
  clear A40
  by_cases c5 : t292.size + 1 ≤ 9223372036854775807
  rotate_left
  · rw [if_neg c5] at H
    exact absurd H (by simp)

  rw [if_pos c5] at H
  have c5b0 := eq_true c5
  have c5b1 : decide (t292.size + 1 ≤ 9223372036854775807) = true := decide_eq_true c5
  try have c5b2 : (9223372036854775807 < t292.size + 1) = False := eq_false (Nat.not_lt.2 c5)
  by_cases c6 : (t292 ++ (⟨#[45]⟩ : ByteArray)).size + t293.size ≤ 9223372036854775807
  rotate_left
  · rw [if_neg c6] at H
    exact absurd H (by simp)
  rw [if_pos c6] at H
  have c6b0 := eq_true c6
  have c6b1 : decide ((t292 ++ (⟨#[45]⟩ : ByteArray)).size + t293.size ≤ 9223372036854775807) = true := decide_eq_true c6
  try have c6b2 : (9223372036854775807 < (t292 ++ (⟨#[45]⟩ : ByteArray)).size + t293.size) = False := eq_false (Nat.not_lt.2 c6)
  try (have c6b3 := c6b2; simp only [ByteArray.size_append, show (⟨#[45]⟩ : ByteArray).size = 1 from rfl] at c6b3)
  by_cases c7 : ((t292 ++ (⟨#[45]⟩ : ByteArray)) ++ t293).size + 1 ≤ 9223372036854775807
  rotate_left
  · rw [if_neg c7] at H
    exact absurd H (by simp)
  rw [if_pos c7] at H
  have c7b0 := eq_true c7
  have c7b1 : decide (((t292 ++ (⟨#[45]⟩ : ByteArray)) ++ t293).size + 1 ≤ 9223372036854775807) = true := decide_eq_true c7
  try have c7b2 : (9223372036854775807 < ((t292 ++ (⟨#[45]⟩ : ByteArray)) ++ t293).size + 1) = False := eq_false (Nat.not_lt.2 c7)
  try (have c7b3 := c7b2; simp only [ByteArray.size_append, show (⟨#[45]⟩ : ByteArray).size = 1 from rfl] at c7b3)
  by_cases c8 : (((t292 ++ (⟨#[45]⟩ : ByteArray)) ++ t293) ++ (⟨#[45]⟩ : ByteArray)).size + t294.size ≤ 9223372036854775807
  rotate_left
  · rw [if_neg c8] at H
    exact absurd H (by simp)
  rw [if_pos c8] at H
  have c8b0 := eq_true c8
  have c8b1 : decide ((((t292 ++ (⟨#[45]⟩ : ByteArray)) ++ t293) ++ (⟨#[45]⟩ : ByteArray)).size + t294.size ≤ 9223372036854775807) = true := decide_eq_true c8
  try have c8b2 : (9223372036854775807 < (((t292 ++ (⟨#[45]⟩ : ByteArray)) ++ t293) ++ (⟨#[45]⟩ : ByteArray)).size + t294.size) = False := eq_false (Nat.not_lt.2 c8)
  try (have c8b3 := c8b2; simp only [ByteArray.size_append, show (⟨#[45]⟩ : ByteArray).size = 1 from rfl] at c8b3)
  obtain rfl := Option.some.inj H
  go_enter Try.func31, Try.ntmps31
  go_wp2_with (first | ((with_reducible refine gate_dst (N := 1) rfl ?_); refine box_event ?hg (N := 1) ?hd (cs := #[.int .i64 a0_0, .int .i64 a0_1, .int .i64 a0_2]) (t := 23) ?hr ?_; (case hd => rfl); (case hg => rfl); (case hr => first | (go_simp; done) | (go_simp; rfl)); intro gb291 hg w9 hbox hb; have n0_ := Aside0.mk (below_step (by repeat (first | (with_reducible first | exact HB.out | apply below_alloc | apply pw_below_drewN | apply below_drew1) | exact HB.out)) hb); have n1_ := Aside0.mk (hbox); have n2_ := Aside0.mk ((by rw [hg]; exact (below_size (by repeat (first | (with_reducible first | exact HB.out | apply below_alloc | apply pw_below_drewN | apply below_drew1) | exact HB.out))) : w.heap.size ≤ gb291)); have n3_ := Aside0.mk ((by rw [hg]; exact (below_size (by repeat (first | (with_reducible first | exact HB.out | apply below_alloc | apply pw_below_drewN | apply below_drew1) | exact HB.out))) : w.heap.size ≤ gb291)); clear HB; have HB := n0_; have BK291 := n1_; have GW291 := n2_; have GE291 := n3_; clear n0_ n1_ n2_ n3_; clear hb hbox hg; have hcz10_0 : w9.cell? ⟨gb291, 0, none⟩ = some (.int .i64 a0_0) := (blk_cell BK291.out 0).trans rfl; have hcz10_1 : w9.cell? ⟨gb291, 1, none⟩ = some (.int .i64 a0_1) := (blk_cell BK291.out 1).trans rfl; have hcz10_2 : w9.cell? ⟨gb291, 2, none⟩ = some (.int .i64 a0_2) := (blk_cell BK291.out 2).trans rfl; have hfz10_0 := blk_frozen BK291.out 0; have hfz10_1 := blk_frozen BK291.out 1; have hfz10_2 := blk_frozen BK291.out 2) | ((with_reducible refine gate_callee (f := 45) rfl ?_); refine goesL_ (some 8) rfl rfl Try.func45 (by kernel_rfl) rfl #[.int .i64 a0_0, .int .i64 4] rfl (by (try simp only [List.map_toArray, List.map_cons, List.map_nil]); first | done | rfl | (simp only [List.length_drop, List.length_take]; rfl)) ?_; (with_reducible refine (chattelref09_digits.calls k a0_0 4 t292 _ A2.out).mono ?_); rintro e w11 ⟨rfl, hb⟩; refine ⟨_, rfl, ?_⟩; replace BK291 := Aside0.mk (bb BK291.out hb); replace HB := Aside0.mk (bs HB.out hb); (try clear hb); (try clear hb2); (try clear hk); (try clear hi); have hcz12_0 : w11.cell? ⟨gb291, 0, none⟩ = some (.int .i64 a0_0) := (blk_cell BK291.out 0).trans rfl; have hcz12_1 : w11.cell? ⟨gb291, 1, none⟩ = some (.int .i64 a0_1) := (blk_cell BK291.out 1).trans rfl; have hcz12_2 : w11.cell? ⟨gb291, 2, none⟩ = some (.int .i64 a0_2) := (blk_cell BK291.out 2).trans rfl; have hfz12_0 := blk_frozen BK291.out 0; have hfz12_1 := blk_frozen BK291.out 1; have hfz12_2 := blk_frozen BK291.out 2) | ((with_reducible refine gate_callee (f := 45) rfl ?_); refine goesL_ (some 11) rfl rfl Try.func45 (by kernel_rfl) rfl #[.int .i64 a0_1, .int .i64 2] rfl (by (try simp only [List.map_toArray, List.map_cons, List.map_nil]); first | done | rfl | (simp only [List.length_drop, List.length_take]; rfl)) ?_; (with_reducible refine (chattelref09_digits.calls k a0_1 2 t293 _ A3.out).mono ?_); rintro e w13 ⟨rfl, hb⟩; refine ⟨_, rfl, ?_⟩; replace BK291 := Aside0.mk (bb BK291.out hb); replace HB := Aside0.mk (bs HB.out hb); (try clear hb); (try clear hb2); (try clear hk); (try clear hi); have hcz14_0 : w13.cell? ⟨gb291, 0, none⟩ = some (.int .i64 a0_0) := (blk_cell BK291.out 0).trans rfl; have hcz14_1 : w13.cell? ⟨gb291, 1, none⟩ = some (.int .i64 a0_1) := (blk_cell BK291.out 1).trans rfl; have hcz14_2 : w13.cell? ⟨gb291, 2, none⟩ = some (.int .i64 a0_2) := (blk_cell BK291.out 2).trans rfl; have hfz14_0 := blk_frozen BK291.out 0; have hfz14_1 := blk_frozen BK291.out 1; have hfz14_2 := blk_frozen BK291.out 2) | ((with_reducible refine gate_callee (f := 45) rfl ?_); refine goesL_ (some 14) rfl rfl Try.func45 (by kernel_rfl) rfl #[.int .i64 a0_2, .int .i64 2] rfl (by (try simp only [List.map_toArray, List.map_cons, List.map_nil]); first | done | rfl | (simp only [List.length_drop, List.length_take]; rfl)) ?_; (with_reducible refine (chattelref09_digits.calls k a0_2 2 t294 _ A4.out).mono ?_); rintro e w15 ⟨rfl, hb⟩; refine ⟨_, rfl, ?_⟩; replace BK291 := Aside0.mk (bb BK291.out hb); replace HB := Aside0.mk (bs HB.out hb); (try clear hb); (try clear hb2); (try clear hk); (try clear hi)))
  go_ret
  exact ⟨by first | rfl | (simp [errW_none, errW_some] <;> rfl) | (simp [*, errW_none, errW_some] <;> rfl), by repeat (first | (with_reducible first | exact HB.out | apply below_alloc | apply pw_below_drewN | apply below_drew1 | refine below_set ?_ GE291.out) | exact HB.out)⟩
end Go.Proofs.Ytfikfmediheioaa.F
