-- Written by this session's printer (wip/tools), out of the translation's own print. Lean checks it.
import Derived.Laws.CopyOwn
import Derived.Test.YtebjbmgfbejapaaF0
import Derived.Test.YtebjbmgfbejapaaF37
namespace Go.Proofs.Ytebjbmgfbejapaa.F
open Go.RowKit Go.Proofs.YtebjbmgfbejapaaW.PrintWords Go.Proofs.YtebjbmgfbejapaaW.PrintLast Go.Proofs.YtebjbmgfbejapaaW.PrintMore Go.Proofs.YtebjbmgfbejapaaX
attribute [local go_sem] max2_int cell_some xrun_add64 xrun_sub64
attribute [local go_sem] max2_int min2_int max_two min_two max_three min_three max_four min_four   -- for this text's walks alone
set_option linter.unusedVariables false
set_option linter.unusedSimpArgs false

/-! ### slices_Repeat_uint64_uint64: function 31 -/
theorem own_cells {k : IntKind} {e : Nat} {w : World} {base : Nat} {ok : Nat → Prop} {v : Value} {L : List Int} (h : Kd.R (Kd.int k) e w base ok v L) (hp : 0 < L.length) :
    ∃ g cap, ∃ cur : List Value, v = .slice (some ⟨g, 0, none⟩) L.length cap ∧ base ≤ g ∧ w.heap[g]? = some (.cells cur.toArray e (0, 0)) ∧ L.length ≤ cap ∧ cap ≤ maxLen ∧ cur.length = cap ∧ cur.take L.length = nums k L := by
  have ho := Kd.own_of_R h
  obtain ⟨hl, h3 | ⟨g', cap0, cur, hv, hb, hh, hnc, hcm, hcs, ht⟩⟩ := ho
  · have := Kd.R_form h hp
    obtain ⟨g, cap, hv, _⟩ := this
    rw [hv] at h3
    injection h3.1 with h4
    cases h4
  · refine ⟨g', cap0, cur.toList, hv, hb, by simpa using hh, hnc, hcm, by simpa using hcs, ?_⟩
    rw [Nat.mul_one] at ht
    exact ht
theorem cells_own {k : IntKind} {e : Nat} {w : World} {base : Nat} {ok : Nat → Prop} {g cap : Nat} {cur : List Value} {L : List Int} (hb : base ≤ g) (hg : w.heap[g]? = some (.cells cur.toArray e (0, 0))) (h1 : L.length ≤ cap) (h2 : cap ≤ maxLen) (h3 : cur.length = cap) (h4 : cur.take L.length = nums k L) (hok : ok g) :
    Kd.R (Kd.int k) e w base ok (.slice (some ⟨g, 0, none⟩) L.length cap) L := by
  refine Kd.R_of_own ⟨by simp [encs], .inr ⟨g, cap, cur.toArray, rfl, hb, hg, h1, h2, by simpa using h3, ?_⟩⟩ (fun b hb' => ?_)
  · rw [Nat.mul_one]
    exact h4
  · have : b = g := by simpa [Value.ownBlock] using hb'.symm
    subst this
    exact hok
theorem take_splice {α : Type} (x : α) (C : List α) (m j : Nat) (h : m + j ≤ C.length) (hm : C.take m = List.replicate m x) : (splice C m (List.replicate j x)).take (m + j) = List.replicate (m + j) x := by
  unfold splice
  rw [hm, ← List.append_assoc, List.take_append_of_le_length (by simp), List.take_of_length_le (by simp), List.replicate_append_replicate]
def slices_Repeat_uint64_uint64.f (l0 : List Int) (a1 : Int) : Option (List Int) :=
  if l0.length = 1 ∧ 0 ≤ a1 ∧ a1 ≤ 4096 ∧ bits_Mul.f 1 a1 = some (0, a1) then some (List.replicate a1.toNat (rd l0 0)) else none
set_option maxHeartbeats 8000000 in
set_option maxRecDepth 100000 in
theorem slices_Repeat_uint64_uint64.calls (A0 : Option Addr) (c0 : Nat) (l0 : List Int) (a1 : Int) (r : List Int) (w : World) (hr0 : Kd.C (Kd.int .u64) w A0 l0.length l0) (hc0 : l0.length ≤ c0) (h : slices_Repeat_uint64_uint64.f l0 a1 = some r) :
    Calls Try.prog 31 #[.slice A0 l0.length c0, .int .i64 a1] w fun e w' => ∃ v0_ : Value, e = .returned (v0_) ∧ Kd.R (Kd.int .u64) 27 w' w.heap.size (fun _ => True) v0_ r ∧ Below w.heap.size w w' := by
  unfold slices_Repeat_uint64_uint64.f at h
  by_cases hc : l0.length = 1 ∧ 0 ≤ a1 ∧ a1 ≤ 4096 ∧ bits_Mul.f 1 a1 = some (0, a1)
  rotate_left
  · rw [if_neg hc] at h
    cases h
  rw [if_pos hc] at h
  obtain ⟨h1, h2, h3, h4⟩ := hc
  obtain rfl := Option.some.inj h
  clear h
  obtain ⟨x, rfl⟩ : ∃ x, l0 = [x] := List.length_eq_one_iff.mp h1
  have HR0 := Aside0.mk hr0
  have HB := Aside0.mk (Below.refl w.heap.size w)
  have A3 := Aside0.mk h4
  clear h4 hr0 h1
  obtain ⟨n, rfl⟩ : ∃ n : Nat, a1 = (n : Int) := ⟨a1.toNat, by omega⟩
  have hn : n ≤ 4096 := by omega
  have e1 : decide ((n : Int) < 0) = false := decide_eq_false (by omega)
  have e2 : IntKind.u64.wrap (n : Int) = n := by simp [IntKind.wrap, IntKind.bits, IntKind.signed]; omega
  have e3 : IntKind.i64.wrap (n : Int) = n := by rw [i64_w]; unfold wrap64; omega
  have e4 : decide ((9223372036854775807 : Int) < (n : Int)) = false := decide_eq_false (by omega)
  have e5 : decide ((n : Int) ≥ 0) = true := decide_eq_true (by omega)
  have hs27 : (Try.prog.info? 27).map (·.size) = some 1 := by
    obtain ⟨i0, hi, _, hsz, _⟩ := info_parts info27
    rw [hi]
    simp [hsz]
  have hsrc : ∀ w1 : World, Below w.heap.size w w1 → ∃ ad, A0 = some ad ∧ ∀ (j : Nat) v, [Value.int .u64 x][j]? = some v → w1.cell? (ad.add j) = some v := by
    intro w1 hb
    obtain ⟨ad, e, hx⟩ := Kd.at_int HR0.out 0 (by omega) (by simp)
    refine ⟨ad, e, fun j v hj => ?_⟩
    match j with
    | 0 =>
      have := (hb.cell (World.block_lt_of_cell? w _ hx)).trans hx
      simp at hj
      subst hj
      simpa [rd] using this
    | j + 1 => simp at hj
  rcases Nat.eq_zero_or_pos n with hz | hpos
  · subst hz
    have A30 : Aside0 (bits_Mul.f 1 0 = some (0, 0)) := A3
    clear A3
    show Calls Try.prog 31 #[.slice A0 1 c0, .int .i64 0] w _
    go_enter Try.func31, Try.ntmps31
    go_wp2_with (first | ((with_reducible refine gate_callee (f := 54) rfl ?_); refine goesL_ (some 18) rfl rfl Try.func54 (by kernel_rfl) rfl #[.int .u64 1, .int .u64 0] rfl (by (try simp only [List.map_toArray, List.map_cons, List.map_nil]); first | done | rfl) ?_; (with_reducible refine (bits_Mul.calls 1 0 0 0 _ A30.out).mono ?_); rintro e w' ⟨rfl, ⟨nd, rfl⟩⟩; refine ⟨_, rfl, ?_⟩) | ((with_reducible refine gate_dst (N := 30) rfl ?_); refine Kd.R_make (Kd.int .u64) _ 27 rfl (N := 30) rfl 22 _ _ rfl (0 : Int) rfl rfl Try.underlying22 (.int .u64 0) 8 info27 rfl (by decide) (by omega) 0 (ok := fun _ => True) (okp := fun _ => True) rfl (fun _ hk => hk) trivial (by omega) (by omega) (Below.refl _ _) (Nat.le_refl _) ?_; intro v598 w6 ho7 hb hg_ hnew_; clear hg_ hnew_; have HO := Aside0.mk (Kd.R_lower ho7 (below_size (by repeat (first | (with_reducible first | exact HB.out | apply below_alloc | apply pw_below_drewN | apply below_drew1) | exact HB.out)))); replace HB := Aside0.mk (below_step (by repeat (first | (with_reducible first | exact HB.out | apply below_alloc | apply pw_below_drewN | apply below_drew1) | exact HB.out)) hb); clear hb ho7; obtain ⟨A1, c1, hv_⟩ := Kd.R_slice HO.out; simp only [Int.toNat_zero, List.replicate_zero, List.length_nil] at hv_; subst hv_) | ((with_reducible refine gate_dst (N := 33) rfl ?_); refine wpList_copy_nothing rfl (.tmp 31) (.tmp 32) 22 22 rfl 27 Try.underlying22 hs27 A1 A0 0 c1 1 c0 rfl rfl (by rfl) ?_))
    have hd : decide ((0 : Int) < (0 : Int)) = false := by decide
    go_loopg [8] 0 (fun kq v8 w' => v8 = .int .i64 0 ∧ Aside0 (Kd.R (Kd.int .u64) 27 w' w.heap.size (fun _ => True) (.slice A1 0 c1) []) ∧ Aside0 (Below w.heap.size w w'))
    case atStart => exact ⟨rfl, HO, HB⟩
    case round =>
      obtain ⟨rfl, HO, HB⟩ := hrel
      go_wp2
      go_ret
      exact ⟨_, rfl, by simpa using HO.out, HB.out⟩
  · go_enter Try.func31, Try.ntmps31
    go_wp2_with (first | ((with_reducible refine gate_callee (f := 54) rfl ?_); refine goesL_ (some 18) rfl rfl Try.func54 (by kernel_rfl) rfl #[.int .u64 1, .int .u64 n] rfl (by (try simp only [List.map_toArray, List.map_cons, List.map_nil]); first | done | rfl | (simp only [List.length_drop, List.length_take]; rfl)) ?_; (with_reducible refine (bits_Mul.calls 1 n 0 n _ A3.out).mono ?_); rintro e w' ⟨rfl, ⟨nd, rfl⟩⟩; refine ⟨_, rfl, ?_⟩) | ((with_reducible refine gate_dst (N := 30) rfl ?_); refine Kd.R_make (Kd.int .u64) _ 27 rfl (N := 30) rfl 22 _ _ rfl (n : Int) rfl rfl Try.underlying22 (.int .u64 0) 8 info27 rfl (by decide) (by omega) 0 (ok := fun _ => True) (okp := fun _ => True) rfl (fun _ hk => hk) trivial (by omega) (by omega) (Below.refl _ _) (Nat.le_refl _) ?_; intro v598 w6 ho7 hb hg_ hnew_; clear hg_ hnew_; simp only [Int.toNat_natCast] at ho7; have HO := Aside0.mk (Kd.R_lower ho7 (below_size (by repeat (first | (with_reducible first | exact HB.out | apply below_alloc | apply pw_below_drewN | apply below_drew1) | exact HB.out)))); replace HB := Aside0.mk (below_step (by repeat (first | (with_reducible first | exact HB.out | apply below_alloc | apply pw_below_drewN | apply below_drew1) | exact HB.out)) hb); clear hb ho7; obtain ⟨g, cap, cur, hv_, hbg, hgc, hc1, hc2, hc3, hc4⟩ := own_cells HO.out (by simp; omega); have hnl : (List.replicate n (0:Int)).length = n := List.length_replicate; rw [hnl] at hv_ hc1; subst hv_; clear HO hc4; have HG := Aside0.mk hgc; clear hgc) | ((with_reducible refine gate_dst (N := 33) rfl ?_); refine wpList_copy_splice rfl (.tmp 31) (.tmp 32) 22 22 rfl 27 Try.underlying22 hs27 (some ⟨g, 0, none⟩) A0 n cap 1 c0 rfl rfl g 0 cur 27 HG.out [.int .u64 x] (by show 1 = min 1 n; omega) (fun _ => ⟨rfl, hsrc _ (by repeat (first | (with_reducible first | exact HB.out | apply below_alloc | apply pw_below_drewN | apply below_drew1) | exact HB.out))⟩) (by simp; omega) (by intro v hv; rw [List.mem_singleton.mp hv]; rfl) w.heap.size w (by repeat (first | (with_reducible first | exact HB.out | apply below_alloc | apply pw_below_drewN | apply below_drew1) | exact HB.out)) hbg ?_; intro w8 hg8 hb8; replace HB := Aside0.mk hb8; replace HG := Aside0.mk hg8.out; clear hg8 hb8))
    have H0 : (splice cur 0 [Value.int .u64 x]).take (0 + 1) = List.replicate (0 + 1) (.int .u64 x) := take_splice (Value.int .u64 x) cur 0 1 (by omega) (by simp)
    have L0 : (splice cur 0 [Value.int .u64 x]).length = cap := by rw [length_splice _ _ _ (by simp; omega)]; exact hc3
    obtain ⟨C0, hC0⟩ : ∃ C0, C0 = splice cur 0 [Value.int .u64 x] := ⟨_, rfl⟩
    rw [← hC0] at HG H0 L0
    go_loopg [8] (n - 1) (fun kq v8 w' => ∃ (m : Nat) (C : List Value), v8 = .int .i64 (m : Int) ∧ Aside0 (1 ≤ m ∧ m ≤ n ∧ kq = n - m) ∧ Aside0 (C.length = cap ∧ C.take m = List.replicate m (.int .u64 x)) ∧ Aside0 (w'.heap[g]? = some (.cells C.toArray 27 (0, 0))) ∧ Aside0 (Below w.heap.size w w'))
    case atStart => exact ⟨1, C0, rfl, ⟨by omega, by omega, rfl⟩, ⟨L0, H0⟩, HG, HB⟩
    case round =>
      obtain ⟨m, C, rfl, HA, HC, HG1, HB⟩ := hrel
      obtain ⟨hm1, hm2, hk⟩ := HA.out
      obtain ⟨hC1, hC2⟩ := HC.out
      by_cases hm : m < n
      · obtain ⟨j, hj⟩ : ∃ j, Aside0 (j = min m (n - m)) := ⟨_, ⟨rfl⟩⟩
        have hj1 : m + j ≤ n ∧ 1 ≤ j ∧ j ≤ m := by have := hj.out; omega
        have hd : decide ((m : Int) < (n : Int)) = true := decide_eq_true (by omega)
        have e6 : IntKind.i64.wrap ((m : Int) + (j : Int)) = ((m + j : Nat) : Int) := by rw [i64_w]; unfold wrap64; omega
        have hrd : ∀ (i : Nat) v, (List.replicate j (Value.int .u64 x))[i]? = some v → wr.cell? (Addr.add ⟨g, 0, none⟩ i) = some v := by
          intro i v hv
          obtain ⟨hi, rfl⟩ := List.getElem?_eq_some_iff.mp hv
          rw [List.length_replicate] at hi
          rw [xw_add, List.getElem_replicate]
          have h5 : C[i]? = some (Value.int .u64 x) := by
            rw [← List.getElem?_take_of_lt (show i < m by omega), hC2, List.getElem?_replicate, if_pos (by omega)]
          have h6 : C.toArray[0 + i]? = some (Value.int .u64 x) := by rw [Nat.zero_add]; simpa using h5
          simp only [World.cell?, HG1.out, h6]
          rfl
        have hcA : ∀ W : World, (Instr.slice 22 (.slice (some ⟨g, 0, none⟩) n cap) (some (.int .i64 (m : Int))) none none).run Try.prog W = .ok (.slice (some ⟨g, m, none⟩) (n - m) (cap - m)) W := by
          intro W
          obtain ⟨i0, hi, _, hsz, _⟩ := info_parts info27
          have := cut_from (P := Try.prog) 22 27 .i64 Try.underlying22 hi 1 hsz (some ⟨g, 0, none⟩) n cap (m : Int) (by omega) (by omega) W
          rw [this]
          have hne : ¬ cap = m := by omega
          simp [hne, add_plain]
        have hcB : ∀ W : World, (Instr.slice 22 (.slice (some ⟨g, 0, none⟩) n cap) none (some (.int .i64 (m : Int))) none).run Try.prog W = .ok (.slice (some ⟨g, 0, none⟩) m cap) W := by
          intro W
          obtain ⟨i0, hi, _, hsz, _⟩ := info_parts info27
          exact cut_to (P := Try.prog) 22 27 .i64 Try.underlying22 hi (some ⟨g, 0, none⟩) n cap (m : Int) (by omega) (by omega) (by omega) W
        go_wp2
        go_region_law (refine step_copy_splice rfl (.tmp 41) (.tmp 44) 22 22 rfl 27 Try.underlying22 hs27 (some ⟨g, m, none⟩) (some ⟨g, 0, none⟩) (n - m) (cap - m) m cap rfl rfl g m C 27 (by first | exact HG1.out | (simp only [World.drewN, World.drew]; exact HG1.out)) (List.replicate j (.int .u64 x)) (by rw [List.length_replicate]; exact hj.out) (fun _ => ⟨rfl, ⟨g, 0, none⟩, rfl, hrd⟩) (by rw [List.length_replicate]; omega) (by intro v hv; rw [(List.mem_replicate.mp hv).2]; rfl) w.heap.size w (by repeat (first | (with_reducible first | exact HB.out | apply below_alloc | apply pw_below_drewN | apply below_drew1) | exact HB.out)) hbg ?_; intro w9 hg9 hb9; (try simp only [List.length_replicate]); replace HB := Aside0.mk hb9; have HG2 := Aside0.mk hg9.out; clear hg9 hb9)
        go_wp2
        go_roundg (n - (m + j))
        case measure => omega
        case rel => exact ⟨m + j, splice C m (List.replicate j (.int .u64 x)), by first | rfl | simp, ⟨by omega, by omega, rfl⟩, ⟨by rw [length_splice _ _ _ (by rw [List.length_replicate]; omega)]; exact hC1, take_splice _ _ _ _ (by omega) hC2⟩, HG2, HB⟩
      · obtain rfl : m = n := by omega
        have hd : decide ((m : Int) < (m : Int)) = false := decide_eq_false (by omega)
        have hR := cells_own (k := .u64) (base := w.heap.size) (ok := fun _ => True) (L := List.replicate m x) hbg HG1.out (by simpa using hc1) hc2 hC1 (by rw [List.length_replicate, hC2]; simp [nums]) trivial
        rw [List.length_replicate] at hR
        have HR := Aside0.mk hR
        clear hR
        go_wp2
        go_ret
        exact ⟨_, rfl, by simpa [rd] using HR.out, HB.out⟩

end Go.Proofs.Ytebjbmgfbejapaa.F
