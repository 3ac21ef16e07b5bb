-- Written by this session's printer (wip/tools), out of the translation's own print. Lean checks it.
import Derived.Test.YtfikfmediheioaaZ
import Derived.Test.YtfikfmediheioaaF0
import Derived.Test.YtfikfmediheioaaF8
import Derived.Test.YtfikfmediheioaaF28
namespace Go.Proofs.Ytfikfmediheioaa.F
open Go.RowKit Go.Proofs.YtfikfmediheioaaW.PrintWords Go.Proofs.YtfikfmediheioaaW.PrintLast Go.Proofs.YtfikfmediheioaaW.PrintMore Go.Proofs.YtfikfmediheioaaX
attribute [local go_sem] max2_int cell_some
attribute [local go_sem] max2_int min2_int max_two min_two max_three min_three max_four min_four   -- for this text's walks alone
set_option linter.unusedVariables false
set_option linter.unusedSimpArgs false

/-! ### date_Print: function 24 -/
def date_Print.f (k : Nat) (a0_0 : Int) (a0_1 : Int) (a0_2 : Int) : Option (ByteArray × Int) := (date_Check.f k a0_0 a0_1 a0_2).bind fun t278 => (if t278 = 0 then ((some (([48, 48, 48, 48, 45, 48, 48, 45, 48, 48] : List Int) : List Int)).bind fun y279 => (if 0 < 4 then (if 4 ≤ (y279.length : Int) then ((date_putW.f k y279 0 4 a0_0).bind fun t282 => (if 5 < 7 then (if 7 ≤ (y279.length : Int) then ((date_putW.f k t282 5 7 a0_1).bind fun t283 => (if 8 < (y279.length : Int) then ((date_putW.f k t283 8 (y279.length : Int) a0_2).bind fun t284 => (some (strOfNums t284, 0))) else (none))) else (none)) else (none))) else (none)) else (none))) else (some ((⟨#[]⟩ : ByteArray), t278)))
theorem date_Print.mono : ∀ a0 a1 a2 k, LeO (date_Print.f k a0 a1 a2) (date_Print.f (k + 1) a0 a1 a2) := by
  intro a0 a1 a2 k
  unfold date_Print.f
  repeat' first
      | (with_reducible exact date_Check.mono _ _ _ _)
      | (with_reducible exact date_putW.mono _ _ _ _ _)
      | (with_reducible exact LeO.refl _)
      | (with_reducible exact LeO.none _)
      | (with_reducible refine LeO.ite ?_ ?_)
      | (with_reducible refine LeO.bind ?_ (fun _ => ?_))
      | exact date_Check.mono _ _ _ _
      | exact date_putW.mono _ _ _ _ _
      | exact LeO.none _
      | refine LeO.ite ?_ ?_
      | refine LeO.bind ?_ (fun _ => ?_)
set_option maxHeartbeats 8000000 in
set_option maxRecDepth 100000 in
theorem date_put.callsZ (k : Nat) (D_ : ZD) (P0_ : Nat → Prop) (u9000_ : Value) (l0 : List Int) (a1 : Int) (r : List Int) (w0 w : World) (hB : Below w0.heap.size w0 w) (ho0 : ZW .u8 D_ 5 w w0.heap.size P0_ u9000_ l0) (h : date_put.f k l0 a1 = some r) :
    Calls Try.prog 43 #[u9000_, .int .i64 a1] w fun e w' => e = .returned (.tuple #[]) ∧ ZW .u8 D_ 5 w' w0.heap.size (fun k_ => (P0_ k_ ∨ w.heap.size ≤ k_)) u9000_ r ∧ Below w0.heap.size w0 w' ∧ Kept w w' (fun k_ => P0_ k_) := by
  have HO0 := Aside0.mk (show ZW .u8 D_ 5 w w0.heap.size (fun k_ => (P0_ k_ ∨ w.heap.size ≤ k_)) u9000_ l0 from ZW_mono ho0 (fun k_ hk => (.inl hk)))
  have HK := Aside0.mk (Kept.refl w (fun k_ => P0_ k_))
  have HW0 := Aside0.mk hB.size
  have HB := Aside0.mk hB
  clear hB
  have H : (date_put.l0 k l0 a1 (wrap64 ((l0.length : Int) - 1))) = some r := h
  clear h
  have H' := Aside0.mk H
  clear H
  obtain ⟨Ao3, co3, eo3⟩ := ZW_slice HO0.out
  subst eo3
  go_enter Try.func43, Try.ntmps43
  go_wp2
  go_loopg [1, 4] k (fun kq v1 v4 w' => ∃ (x0_1 : List Int) (x1_1 : Int) (x4_1 : Int), v1 = .int .i64 x1_1 ∧ v4 = .int .i64 x4_1 ∧ Aside0 (date_put.l0 kq x0_1 x1_1 x4_1 = some r) ∧ Aside0 (kq ≤ k) ∧ Aside0 (ZW .u8 D_ 5 w' w0.heap.size (fun k_ => (P0_ k_ ∨ w.heap.size ≤ k_)) (.slice Ao3 l0.length co3) x0_1) ∧ Aside0 (Kept w w' (fun k_ => P0_ k_)) ∧ Aside0 (Below w0.heap.size w0 w'))
  case atStart => exact ⟨(l0), (a1), (wrap64 ((l0.length : Int) - 1)), (by first | rfl | (simp; done) | (simp [*]; done)), (by first | rfl | (simp; done) | (simp [*]; done)), H', ⟨Nat.le_refl _⟩, ⟨by (with_reducible repeat (first | apply ZW_alloc | apply ZW_drewN | apply ZW_drew)); exact HO0.out⟩, ⟨by repeat (first | (with_reducible first | exact HK.out | apply Kept.alloc | apply Kept.drewN | apply Kept.drew) | exact HK.out)⟩, ⟨by repeat (first | (with_reducible first | exact HB.out | apply below_alloc | apply pw_below_drewN | apply below_drew1) | exact HB.out)⟩⟩
  case round =>
    clear H'
    try clear p2
    obtain ⟨x0_1, x1_1, x4_1, rfl, rfl, HA, HK1, HO_0, HK, HB⟩ := hrel
    have hl0_1 := (ZW_reads' HO_0.out).1
    rw [hl0_1] at HO_0
    (try simp only [hl0_1])
    cases gk with
    | zero => exact absurd HA.out (by simp [date_put.l0])
    | succ k1 =>
      have H := HA.out
      clear HA
      simp only [date_put.l0] at H
      by_cases c4 : x4_1 ≥ 0
      · rw [if_pos c4] at H
        have c4b0 : decide (0 ≤ x4_1) = true := decide_eq_true c4
        clear c4
        by_cases c5 : 0 ≤ x4_1
        rotate_left
        · rw [if_neg c5] at H
          exact absurd H (by simp)
        rw [if_pos c5] at H
        have c5b0 : decide (0 ≤ x4_1) = true := decide_eq_true c5
        clear c5
        by_cases c6 : x4_1 < (x0_1.length : Int)
        rotate_left
        · rw [if_neg c6] at H
          exact absurd H (by simp)
        rw [if_pos c6] at H
        have c6b0 : decide (x4_1 < (x0_1.length : Int)) = true := decide_eq_true c6
        have c6b0x := c6b0
        (try simp only [hl0_1] at c6b0x)
        clear c6
        obtain ⟨y276, hy276⟩ : ∃ y_ : List Int, y_ = (x0_1.set (x4_1 : Int).toNat ((wrap64 (48 + (Int.tmod x1_1 10))) % 256)) := ⟨_, rfl⟩
        replace H : (date_put.l0 k1 y276 (wrap64 (Int.tdiv x1_1 10)) (wrap64 (x4_1 - 1))) = some r := by first | (rw [hy276]; with_reducible exact H) | (have H2_ := (Option.bind_some _ _).symm.trans H; rw [hy276]; with_reducible exact H2_) | (have H2_ := (Option.bind_some _ _).symm.trans H; with_reducible exact H2_) | with_reducible exact H | (rw [hy276]; exact H) | exact H
        have Ny276 := Aside0.mk hy276
        clear hy276
        have H' := Aside0.mk H
        clear H
        have p7 : 0 ≤ (x4_1 : Int) := of_decide_eq_true (by first | (with_reducible assumption) | assumption)
        have q7 : (x4_1 : Int) < ((x0_1.length : Int) : Int) := of_decide_eq_true (by first | (with_reducible assumption) | assumption)
        obtain ⟨go7, co7, eo7, gb7, gl7, cl7, HG7⟩ := ZW_form HO_0.out (by omega)
        (first | cases eo7 | (injection eo7 with ea_ en_ ec_; (first | subst ea_ | (injection ea_ with ea_; subst ea_)); subst ec_; clear en_))
        have GB7 := Aside0.mk gb7
        have GG7 := Aside0.mk HG7
        clear gb7 gl7 HG7
        have HMgo7 := Aside0.mk (show (P0_ go7 ∨ w.heap.size ≤ go7) from (HO_0.out.1 _ rfl))
        obtain ⟨hx7_0, hf7_0⟩ := ZW_celln 0 HO_0.out (x4_1 : Int) p7 q7
        replace p7 := eq_true p7
        replace q7 := eq_true q7
        have HP8 := ZW_putg HO_0.out (x4_1 : Int) ((wrap64 (48 + (Int.tmod x1_1 10))) % 256) (of_decide_eq_true (by first | (with_reducible assumption) | assumption)) (of_decide_eq_true (by first | (with_reducible assumption) | assumption))
        go_wp2_with (first | ((with_reducible refine gate_store (t := 5) (p := 18) rfl ?_); refine store_event (t := 5) (p := 18) (v := ?vo_w9) (w1 := (wr.setCell ⟨go7, D_.pre.length + (x4_1 : Int).toNat, none⟩ (.int .u8 ((wrap64 (48 + (Int.tmod x1_1 10))) % 256)))) ?hg ?ho ?hn ?hr ?_; (case ho => rfl); (case hg => rfl); (case hn => rfl); (case hr => first | (go_simp; done) | (go_simp; rfl)); intro w9 hw; have hg : wr.grownBy w9 (some go7) := (by rw [hw]; exact HP8.2); have hp_ : ZW .u8 D_ 5 w9 w0.heap.size (fun k_ => (P0_ k_ ∨ w.heap.size ≤ k_)) (.slice (some ⟨go7, D_.pre.length, none⟩) x0_1.length co3) y276 := (by rw [hw, Ny276.out]; exact HP8.1); clear HP8; have n0_ := Aside0.mk (hp_); have n1_ := Aside0.mk ((by rw [hw]; exact below_set (HB.out) GB7.out : Below w0.heap.size w0 w9)); have n2_ := Aside0.mk (Kept.of_grown (S := (fun k_ => P0_ k_)) hg (by repeat (first | (with_reducible first | exact HK.out | apply Kept.alloc | apply Kept.drewN | apply Kept.drew) | exact HK.out)) (fun k_ e_ => (HO_0.out.1 k_ e_))); clear HO_0; clear HB; clear HK; have HO_0 := n0_; have HB := n1_; have HK := n2_; clear n0_ n1_ n2_; clear hg hw hp_))
        (try simp only [← hl0_1])
        go_roundg k1
        case measure => have := HK1.out; omega
        case rel => exact ⟨(y276), (wrap64 (Int.tdiv x1_1 10)), (wrap64 (x4_1 - 1)), (by first | rfl | (simp; done) | (simp [*]; done)), (by first | rfl | (simp; done) | (simp [*]; done)), H', ⟨by have := HK1.out; omega⟩, ⟨by (try simp only [hl0_1]); (with_reducible repeat (first | apply ZW_alloc | apply ZW_drewN | apply ZW_drew)); exact HO_0.out⟩, ⟨by repeat (first | (with_reducible first | exact HK.out | apply Kept.alloc | apply Kept.drewN | apply Kept.drew) | exact HK.out)⟩, ⟨by repeat (first | (with_reducible first | exact HB.out | apply below_alloc | apply pw_below_drewN | apply below_drew1) | exact HB.out)⟩⟩
      · rw [if_neg c4] at H
        have c4b0 : decide (0 ≤ x4_1) = false := decide_eq_false c4
        clear c4
        obtain rfl := Option.some.inj H
        go_wp2
        first | go_end0 | ((try simp only [Exit.inBlock, Exit.then]); refine bodyPost_ret (results_none rfl _ _ _) rfl ?_)
        exact ⟨by first | rfl | (simp [errW_none, errW_some] <;> rfl) | (simp [*, errW_none, errW_some] <;> rfl), (by first | exact (by (with_reducible repeat (first | apply ZW_alloc | apply ZW_drewN | apply ZW_drew)); exact HO_0.out) | (simp only [hl0_1]; exact (by (with_reducible repeat (first | apply ZW_alloc | apply ZW_drewN | apply ZW_drew)); exact HO_0.out))), by repeat (first | (with_reducible first | exact HB.out | apply below_alloc | apply pw_below_drewN | apply below_drew1) | exact HB.out), by repeat (first | (with_reducible first | exact HK.out | apply Kept.alloc | apply Kept.drewN | apply Kept.drew) | exact HK.out)⟩
/-! date_put over a window of a row -/
theorem date_putZ.calls (k : Nat) (P0_ : Nat → Prop) (g n c size : Nat) (fz : Nat × Nat) (l0 : List Int) (lo_ hi_ : Int) (a1 : Int) (r : List Int) (w0 w : World) (hB : Below w0.heap.size w0 w) (ho0 : ZW .u8 ⟨[], [], size, fz⟩ 5 w w0.heap.size P0_ (.slice (some ⟨g, 0, none⟩) n c) l0) (h : date_putW.f k l0 lo_ hi_ a1 = some r) :
    Calls Try.prog 43 #[xwin (.slice (some ⟨g, 0, none⟩) n c) lo_ hi_, .int .i64 a1] w fun e w' => e = .returned (.tuple #[]) ∧ ZW .u8 ⟨[], [], size, fz⟩ 5 w' w0.heap.size (fun k_ => (P0_ k_ ∨ w.heap.size ≤ k_)) (.slice (some ⟨g, 0, none⟩) n c) r ∧ Below w0.heap.size w0 w' ∧ Kept w w' (fun k_ => P0_ k_) := by
  unfold date_putW.f at h
  by_cases c_ : 0 ≤ lo_ ∧ lo_ < hi_ ∧ hi_ ≤ (l0.length : Int)
  · rw [if_pos c_] at h
    obtain ⟨c1_, c2_, c3_⟩ := c_
    obtain ⟨r_, h1_, h2_⟩ := Option.map_eq_some_iff.mp h
    clear h
    subst h2_
    obtain ⟨hn_, hc_, hs_⟩ := ZW_parts ho0
    subst hn_
    have hx_ := ZW_sub ho0 lo_.toNat hi_.toNat (by omega) (by omega)
    rw [xwin_slice]
    refine (date_put.callsZ k ⟨l0.take lo_.toNat, l0.drop hi_.toNat, size, fz⟩ P0_ (.slice (some ⟨g, lo_.toNat, none⟩) (hi_.toNat - lo_.toNat) (c - lo_.toNat)) ((l0.take hi_.toNat).drop lo_.toNat) a1 r_ w0 w hB hx_ h1_).mono ?_
    rintro e w' ⟨he_, hw_, hq_⟩
    refine ⟨he_, ?_, hq_⟩
    have hl_ : hi_.toNat - lo_.toNat = (r_).length := by
      obtain ⟨A_, c_, e_⟩ := ZW_slice hw_
      injection e_
    have hlen_ : (l0.take lo_.toNat ++ r_ ++ l0.drop hi_.toNat).length = l0.length := by
      simp only [List.length_append, List.length_take, List.length_drop]
      omega
    have hr_ := ZW_back (lo := lo_.toNat) (cap := c) hw_ (by rw [hlen_]; exact hc_) hs_
    rw [hlen_] at hr_
    exact hr_
  · rw [if_neg c_] at h
    cases h
set_option maxHeartbeats 8000000 in
set_option maxRecDepth 100000 in
theorem date_Print.calls (k : Nat) (a0_0 : Int) (a0_1 : Int) (a0_2 : Int) (r1 : ByteArray) (r2 : Int) (w : World) (h : date_Print.f k a0_0 a0_1 a0_2 = some (r1, r2)) :
    Calls Try.prog 24 #[.agg #[.int .i64 a0_0, .int .i64 a0_1, .int .i64 a0_2]] w fun e w' => e = .returned (.tuple #[.string r1, .int .i64 r2]) ∧ Below w.heap.size w w' := by
  have hu23 := Try.underlying23
  have HB := Aside0.mk (Below.refl w.heap.size w)
  have H : ((date_Check.f k a0_0 a0_1 a0_2).bind fun t278 => (if t278 = 0 then ((some (([48, 48, 48, 48, 45, 48, 48, 45, 48, 48] : List Int) : List Int)).bind fun y279 => (if 0 < 4 then (if 4 ≤ (y279.length : Int) then ((date_putW.f k y279 0 4 a0_0).bind fun t282 => (if 5 < 7 then (if 7 ≤ (y279.length : Int) then ((date_putW.f k t282 5 7 a0_1).bind fun t283 => (if 8 < (y279.length : Int) then ((date_putW.f k t283 8 (y279.length : Int) a0_2).bind fun t284 => (some (strOfNums t284, 0))) else (none))) else (none)) else (none))) else (none)) else (none))) else (some ((⟨#[]⟩ : ByteArray), t278)))) = some (r1, r2) := h
  clear h
  replace H := Option.bind_eq_some_iff.mp H
  obtain ⟨t278, A20, H⟩ := H
  replace H : (if t278 = 0 then ((some (([48, 48, 48, 48, 45, 48, 48, 45, 48, 48] : List Int) : List Int)).bind fun y279 => (if 0 < 4 then (if 4 ≤ (y279.length : Int) then ((date_putW.f k y279 0 4 a0_0).bind fun t282 => (if 5 < 7 then (if 7 ≤ (y279.length : Int) then ((date_putW.f k t282 5 7 a0_1).bind fun t283 => (if 8 < (y279.length : Int) then ((date_putW.f k t283 8 (y279.length : Int) a0_2).bind fun t284 => (some (strOfNums t284, 0))) else (none))) else (none)) else (none))) else (none)) else (none))) else (some ((⟨#[]⟩ : ByteArray), t278))) = some (r1, r2) := H
  have A2 := Aside0.mk A20
  clear A20
  by_cases c3 : t278 = 0
  · rw [if_pos c3] at H
    have c3b0 : (t278 == 0) = true := beq_iff_eq.mpr c3
    have c3b1 : (t278 != 0) = false := bne_eq_false_iff_eq.mpr c3
    clear c3
    obtain ⟨y279, hy279⟩ : ∃ y_ : List Int, y_ = (([48, 48, 48, 48, 45, 48, 48, 45, 48, 48] : List Int)) := ⟨_, rfl⟩
    replace H : (if 0 < 4 then (if 4 ≤ (y279.length : Int) then ((date_putW.f k y279 0 4 a0_0).bind fun t282 => (if 5 < 7 then (if 7 ≤ (y279.length : Int) then ((date_putW.f k t282 5 7 a0_1).bind fun t283 => (if 8 < (y279.length : Int) then ((date_putW.f k t283 8 (y279.length : Int) a0_2).bind fun t284 => (some (strOfNums t284, 0))) else (none))) else (none)) else (none))) else (none)) else (none)) = some (r1, r2) := by first | (rw [hy279]; with_reducible exact H) | (have H2_ := (Option.bind_some _ _).symm.trans H; rw [hy279]; with_reducible exact H2_) | (have H2_ := (Option.bind_some _ _).symm.trans H; with_reducible exact H2_) | with_reducible exact H | (rw [hy279]; exact H) | exact H
    have Ny279 := Aside0.mk hy279
    clear hy279
    by_cases c4 : 0 < 4
    rotate_left
    · rw [if_neg c4] at H
      exact absurd H (by simp)
    rw [if_pos c4] at H
    have c4b0 := eq_true c4
    have c4b1 : decide (0 < 4) = true := decide_eq_true c4
    clear c4
    by_cases c5 : 4 ≤ (y279.length : Int)
    rotate_left
    · rw [if_neg c5] at H
      exact absurd H (by simp)
    rw [if_pos c5] at H
    have c5b0 := eq_true c5
    have c5b1 : decide (4 ≤ (y279.length : Int)) = true := decide_eq_true c5
    clear c5
    replace H := Option.bind_eq_some_iff.mp H
    obtain ⟨t282, A60, H⟩ := H
    replace H : (if 5 < 7 then (if 7 ≤ (y279.length : Int) then ((date_putW.f k t282 5 7 a0_1).bind fun t283 => (if 8 < (y279.length : Int) then ((date_putW.f k t283 8 (y279.length : Int) a0_2).bind fun t284 => (some (strOfNums t284, 0))) else (none))) else (none)) else (none)) = some (r1, r2) := H
    have A6 := Aside0.mk A60
    clear A60
    by_cases c7 : 5 < 7
    rotate_left
    · rw [if_neg c7] at H
      exact absurd H (by simp)
    rw [if_pos c7] at H
    have c7b0 := eq_true c7
    have c7b1 : decide (5 < 7) = true := decide_eq_true c7
    clear c7
    by_cases c8 : 7 ≤ (y279.length : Int)
    rotate_left
    · rw [if_neg c8] at H
      exact absurd H (by simp)
    rw [if_pos c8] at H
    have c8b0 := eq_true c8
    have c8b1 : decide (7 ≤ (y279.length : Int)) = true := decide_eq_true c8
    clear c8
    replace H := Option.bind_eq_some_iff.mp H
    obtain ⟨t283, A90, H⟩ := H
    replace H : (if 8 < (y279.length : Int) then ((date_putW.f k t283 8 (y279.length : Int) a0_2).bind fun t284 => (some (strOfNums t284, 0))) else (none)) = some (r1, r2) := H
    have A9 := Aside0.mk A90
    clear A90
    by_cases c10 : 8 < (y279.length : Int)
    rotate_left
    · rw [if_neg c10] at H
      exact absurd H (by simp)
    rw [if_pos c10] at H
    have c10b0 := eq_true c10
    have c10b1 : decide (8 < (y279.length : Int)) = true := decide_eq_true c10
    clear c10
    replace H := Option.bind_eq_some_iff.mp H
    obtain ⟨t284, A110, H⟩ := H
    replace H : (some (strOfNums t284, 0)) = some (r1, r2) := H
    have A11 := Aside0.mk A110
    clear A110
    simp only [Option.some.injEq, Prod.mk.injEq] at H
    obtain ⟨rfl, rfl⟩ := H
    go_enter Try.func24, Try.ntmps24
    try go_wp2_with (first | ((with_reducible refine gate_dst (N := 1) rfl ?_); refine box_event ?hg (N := 1) ?hd (cs := #[.int .i64 a0_0, .int .i64 a0_1, .int .i64 a0_2]) (t := 23) ?hr ?_; (case hd => rfl); (case hg => rfl); (case hr => first | (go_simp; done) | (go_simp; rfl)); intro gb277 hg w12 hbox hb; have n0_ := Aside0.mk (below_step (by repeat (first | (with_reducible first | exact HB.out | apply below_alloc | apply pw_below_drewN | apply below_drew1) | exact HB.out)) hb); have n1_ := Aside0.mk (hbox); have n2_ := Aside0.mk ((by rw [hg]; exact (below_size (by repeat (first | (with_reducible first | exact HB.out | apply below_alloc | apply pw_below_drewN | apply below_drew1) | exact HB.out))) : w.heap.size ≤ gb277)); have n3_ := Aside0.mk ((by rw [hg]; exact (below_size (by repeat (first | (with_reducible first | exact HB.out | apply below_alloc | apply pw_below_drewN | apply below_drew1) | exact HB.out))) : w.heap.size ≤ gb277)); clear HB; have HB := n0_; have BK277 := n1_; have GW277 := n2_; have GE277 := n3_; clear n0_ n1_ n2_ n3_; clear hb hbox hg; have hcz13_0 : w12.cell? ⟨gb277, 0, none⟩ = some (.int .i64 a0_0) := (blk_cell BK277.out 0).trans rfl; have hcz13_1 : w12.cell? ⟨gb277, 1, none⟩ = some (.int .i64 a0_1) := (blk_cell BK277.out 1).trans rfl; have hcz13_2 : w12.cell? ⟨gb277, 2, none⟩ = some (.int .i64 a0_2) := (blk_cell BK277.out 2).trans rfl; have hfz13_0 := blk_frozen BK277.out 0; have hfz13_1 := blk_frozen BK277.out 1; have hfz13_2 := blk_frozen BK277.out 2) | ((with_reducible refine gate_callee (f := 29) rfl ?_); refine goesL_ (some 7) rfl rfl Try.func29 (by kernel_rfl) rfl #[.agg #[.int .i64 a0_0, .int .i64 a0_1, .int .i64 a0_2]] rfl (by (try simp only [List.map_toArray, List.map_cons, List.map_nil]); first | done | rfl | (simp only [List.length_drop, List.length_take]; rfl)) ?_; (with_reducible refine (date_Check.calls k a0_0 a0_1 a0_2 t278 _ A2.out).mono ?_); rintro e w14 ⟨rfl, hb⟩; refine ⟨_, rfl, ?_⟩; replace BK277 := Aside0.mk (bb BK277.out hb); replace HB := Aside0.mk (bs HB.out hb); (try clear hb); (try clear hb2); (try clear hk); (try clear hi)) | ((with_reducible refine gate_dst (N := 11) rfl ?_); refine Kd.R_lit (Kd.int .u8) _ 5 ?hg (N := 11) ?hd (xs := ([48, 48, 48, 48, 45, 48, 48, 45, 48, 48] : List Int)) (inner := [.int .u8 48, .int .u8 48, .int .u8 48, .int .u8 48, .int .u8 45, .int .u8 48, .int .u8 48, .int .u8 45, .int .u8 48, .int .u8 48]) (ok := fun _ => True) (okp := fun _ => True) ?hr ?hp (fun _ hk => hk) trivial (Below.refl _ _) (Nat.le_refl _) (by simp) ?_; (case hd => rfl); (case hg => rfl); (case hr => first | (go_simp; done) | (go_simp; rfl)); (case hp => exact (Reps.one (show Kd.M (Kd.int .u8) _ _ _ 48 [.int .u8 48] from rfl) (Reps.one (show Kd.M (Kd.int .u8) _ _ _ 48 [.int .u8 48] from rfl) (Reps.one (show Kd.M (Kd.int .u8) _ _ _ 48 [.int .u8 48] from rfl) (Reps.one (show Kd.M (Kd.int .u8) _ _ _ 48 [.int .u8 48] from rfl) (Reps.one (show Kd.M (Kd.int .u8) _ _ _ 45 [.int .u8 45] from rfl) (Reps.one (show Kd.M (Kd.int .u8) _ _ _ 48 [.int .u8 48] from rfl) (Reps.one (show Kd.M (Kd.int .u8) _ _ _ 48 [.int .u8 48] from rfl) (Reps.one (show Kd.M (Kd.int .u8) _ _ _ 45 [.int .u8 45] from rfl) (Reps.one (show Kd.M (Kd.int .u8) _ _ _ 48 [.int .u8 48] from rfl) (Reps.one (show Kd.M (Kd.int .u8) _ _ _ 48 [.int .u8 48] from rfl) (Reps.none _ _)))))))))))); intro v280 w15 ho16 hb hg_ hnew_; clear hg_ hnew_; (first | rw [← Ny279.out] at ho16 | (simp only [Int.reduceToNat] at ho16; rw [← Ny279.out] at ho16)); have HO281 := Aside0.mk (Kd.R_lower ho16 (bz HB.out)); replace BK277 := Aside0.mk (bb BK277.out hb); replace HB := Aside0.mk (bs HB.out hb); clear hb ho16))
    obtain ⟨gz, cz, hvz, hgz, _, hmz⟩ := ZW_mark (P := Try.prog) Try.underlying67 Try.underlying5 HO281.out (by rw [Ny279.out]; decide)
    obtain ⟨wz, hcz, hzw, hgrow⟩ := hmz w15 (fun _ _ => rfl)
    rw [hcz]
    clear hmz hcz
    subst hvz
    replace BK277 := Aside0.mk (blk_grown BK277.out hgrow (Kd.R_ne HO281.out BK277.out (by decide)))
    replace HB := Aside0.mk (pw_below_grown HB.out (some gz) (below_size HB.out) hgrow (fun k_ e_ => by injection e_ with e_; subst e_; exact hgz))
    clear HO281; have HO281 := Aside0.mk hzw
    clear hzw hgrow hgz
    try go_wp2
    replace HO281 := Aside0.mk (ZW_drew HO281.out)
    replace BK277 := Aside0.mk (blk_drew BK277.out)
    replace HB := Aside0.mk (below_drew1 HB.out)
    obtain ⟨i019, hi019, _, hsz19, _⟩ := info_parts info5
    have w019 : (0 : Int) ≤ (0 : Int) := (by omega)
    have w119 : (0 : Int) < (4 : Int) := of_decide_eq_true (by first | (with_reducible assumption) | assumption)
    have w219 : (4 : Int) ≤ ((y279.length : Int) : Int) := of_decide_eq_true (by first | (with_reducible assumption) | assumption)
    have hwin19 := zwin_to (P := Try.prog) 67 5 .i64 Try.underlying67 hi019 hsz19 HO281.out (0 : Int) (4 : Int) rfl w119 (by omega)
    clear hi019 hsz19
    replace w019 := eq_true w019
    replace w119 := eq_true w119
    replace w219 := eq_true w219
    refine start_ (n := 5) (S := fun w' => w'.cell? ⟨gb277, 0, none⟩ = some (.int .i64 a0_0) ∧ w'.cell? ⟨gb277, 1, none⟩ = some (.int .i64 a0_1) ∧ w'.cell? ⟨gb277, 2, none⟩ = some (.int .i64 a0_2)) (ds := []) #[false, false, false, false, false] (by kernel_rfl) rfl rfl ⟨(blk_cell BK277.out 0).trans rfl, (blk_cell BK277.out 1).trans rfl, (blk_cell BK277.out 2).trans rfl⟩ (fun hHeld => ?_)
    generalize w15.drew = w17 at HO281 BK277 HB hHeld ⊢
    refine pure_ (i := 0) (N := some 13) (v := ?_) (a' := ?_) #[true, false, false, false, false] rfl rfl (by kernel_rfl) (fun _ _ _ h => h) (Or.inl ⟨by rfl, ?_⟩) ?_ ?_
    rotate_left
    · intro w'
      go_simp
      with_reducible rfl
    rotate_left
    · simp only [Act.put, List.setIfInBounds_toArray, List.set_cons_zero, List.set_cons_succ, i64_w, i32_w]
      rfl
    refine pure_ (i := 1) (N := some 14) (v := ?_) (a' := ?_) #[true, true, false, false, false] rfl rfl (by kernel_rfl) (fun _ _ _ h => h) (Or.inl ⟨by rfl, ?_⟩) ?_ ?_
    rotate_left
    · intro w'
      go_simp
      with_reducible rfl
    rotate_left
    · simp only [Act.put, List.setIfInBounds_toArray, List.set_cons_zero, List.set_cons_succ, i64_w, i32_w]
      rfl
    refine pure_ (i := 2) (N := some 15) (v := ?_) (a' := ?_) #[true, true, true, false, false] rfl rfl (by kernel_rfl) (fun _ _ _ h => h) (Or.inl ⟨by rfl, ?_⟩) ?_ ?_
    rotate_left
    · intro w'
      go_simp
      with_reducible rfl
    rotate_left
    · simp only [Act.put, List.setIfInBounds_toArray, List.set_cons_zero, List.set_cons_succ, i64_w, i32_w]
      rfl
    refine take_ (i := 3) (N := some 16) (v := ?_) (a' := ?_) #[true, true, true, true, false] rfl rfl (by kernel_rfl) (fun _ _ _ h => h) (Or.inl ⟨by rfl, ?_⟩) hHeld ?_ ?_
    rotate_left
    · rintro w' ⟨s0, s1, s2⟩
      go_simp
      with_reducible rfl
    rotate_left
    · simp only [Act.put, List.setIfInBounds_toArray, List.set_cons_zero, List.set_cons_succ, i64_w, i32_w]
      rfl
    refine one_ (i := 4) (N := some 17) #[true, true, true, true, true] rfl rfl (by kernel_rfl) (by decide) (fun K hK => ?_)
    refine goes_ Try.func43 (by kernel_rfl) rfl #[xwin (.slice (some ⟨gz, 0, none⟩) y279.length cz) 0 4, .int .i64 a0_0] (by rfl) rfl rfl (by (try simp only [List.map_toArray, List.map_cons, List.map_nil]); first | done | rfl | (simp only [List.length_drop, List.length_take]; rfl)) ?_
    with_reducible refine (date_putZ.calls k (fun k_ => some k_ = (.slice (some ⟨gz, 0, none⟩) y279.length cz : Value).ownBlock) gz y279.length cz cz (cz, cz + 1) y279 0 4 a0_0 t282 w _ ?side1 ?side2 A6.out).mono ?_
    (case side1 => repeat (first | (with_reducible first | exact HB.out | apply below_alloc | apply pw_below_drewN | apply below_drew1 | refine below_set ?_ GE277.out) | exact HB.out))
    (case side2 => exact ⟨fun b hb => hb.symm, HO281.out.2⟩)
    rintro e w20 ⟨rfl, hy0, hb, hkp⟩
    refine ⟨_, rfl, ?_⟩
    replace BK277 := Aside0.mk (blk_kept (by (with_reducible repeat (first | refine blk_drewN ?_ _ | refine blk_drew ?_ | refine blk_alloc ?_ _)); exact BK277.out) hkp (fun hs_ => (fun e_ => (ZW_ne HO281.out BK277.out (by decide)) e_) hs_))
    replace HO281 := Aside0.mk (show ZW .u8 ⟨[], [], cz, (cz, cz + 1)⟩ 5 _ _ _ _ _ from ⟨HO281.out.1, hy0.2⟩)
    replace HB := Aside0.mk (hb)
    (try clear hb)
    (try clear hkp)
    (try clear hy0)
    refine hK.out _ _ ⟨(blk_cell BK277.out 0).trans rfl, (blk_cell BK277.out 1).trans rfl, (blk_cell BK277.out 2).trans rfl⟩ (fun hHeld => ?_)
    clear hK K
    refine norm_ (a' := ?_) ?_ ?_
    rotate_left
    · show Act.put _ (some 17) _ = _
      simp only [Act.put, List.setIfInBounds_toArray, List.set_cons_zero, List.set_cons_succ, i64_w, i32_w]
      rfl
    refine done_ (by kernel_rfl) ?_
    try go_wp2
    replace HO281 := Aside0.mk (ZW_drew HO281.out)
    replace BK277 := Aside0.mk (blk_drew BK277.out)
    replace HB := Aside0.mk (below_drew1 HB.out)
    obtain ⟨i022, hi022, _, hsz22, _⟩ := info_parts info5
    have w022 : (0 : Int) ≤ (5 : Int) := (by omega)
    have w122 : (5 : Int) < (7 : Int) := of_decide_eq_true (by first | (with_reducible assumption) | assumption)
    have w222 : (7 : Int) ≤ ((y279.length : Int) : Int) := of_decide_eq_true (by first | (with_reducible assumption) | assumption)
    have hwin22 := zwin_mid (P := Try.prog) 67 5 .i64 .i64 Try.underlying67 hi022 hsz22 HO281.out (5 : Int) (7 : Int) w022 w122 (by omega)
    clear hi022 hsz22
    replace w022 := eq_true w022
    replace w122 := eq_true w122
    replace w222 := eq_true w222
    refine start_ (n := 5) (S := fun w' => w'.cell? ⟨gb277, 0, none⟩ = some (.int .i64 a0_0) ∧ w'.cell? ⟨gb277, 1, none⟩ = some (.int .i64 a0_1) ∧ w'.cell? ⟨gb277, 2, none⟩ = some (.int .i64 a0_2)) (ds := []) #[false, false, false, false, false] (by kernel_rfl) rfl rfl ⟨(blk_cell BK277.out 0).trans rfl, (blk_cell BK277.out 1).trans rfl, (blk_cell BK277.out 2).trans rfl⟩ (fun hHeld => ?_)
    generalize w20.drew = w21 at HO281 BK277 HB hHeld ⊢
    refine pure_ (i := 0) (N := some 18) (v := ?_) (a' := ?_) #[true, false, false, false, false] rfl rfl (by kernel_rfl) (fun _ _ _ h => h) (Or.inl ⟨by rfl, ?_⟩) ?_ ?_
    rotate_left
    · intro w'
      go_simp
      with_reducible rfl
    rotate_left
    · simp only [Act.put, List.setIfInBounds_toArray, List.set_cons_zero, List.set_cons_succ, i64_w, i32_w]
      rfl
    refine pure_ (i := 1) (N := some 19) (v := ?_) (a' := ?_) #[true, true, false, false, false] rfl rfl (by kernel_rfl) (fun _ _ _ h => h) (Or.inl ⟨by rfl, ?_⟩) ?_ ?_
    rotate_left
    · intro w'
      go_simp
      with_reducible rfl
    rotate_left
    · simp only [Act.put, List.setIfInBounds_toArray, List.set_cons_zero, List.set_cons_succ, i64_w, i32_w]
      rfl
    refine pure_ (i := 2) (N := some 20) (v := ?_) (a' := ?_) #[true, true, true, false, false] rfl rfl (by kernel_rfl) (fun _ _ _ h => h) (Or.inl ⟨by rfl, ?_⟩) ?_ ?_
    rotate_left
    · intro w'
      go_simp
      with_reducible rfl
    rotate_left
    · simp only [Act.put, List.setIfInBounds_toArray, List.set_cons_zero, List.set_cons_succ, i64_w, i32_w]
      rfl
    refine take_ (i := 3) (N := some 21) (v := ?_) (a' := ?_) #[true, true, true, true, false] rfl rfl (by kernel_rfl) (fun _ _ _ h => h) (Or.inl ⟨by rfl, ?_⟩) hHeld ?_ ?_
    rotate_left
    · rintro w' ⟨s0, s1, s2⟩
      go_simp
      with_reducible rfl
    rotate_left
    · simp only [Act.put, List.setIfInBounds_toArray, List.set_cons_zero, List.set_cons_succ, i64_w, i32_w]
      rfl
    refine one_ (i := 4) (N := some 22) #[true, true, true, true, true] rfl rfl (by kernel_rfl) (by decide) (fun K hK => ?_)
    refine goes_ Try.func43 (by kernel_rfl) rfl #[xwin (.slice (some ⟨gz, 0, none⟩) y279.length cz) 5 7, .int .i64 a0_1] (by rfl) rfl rfl (by (try simp only [List.map_toArray, List.map_cons, List.map_nil]); first | done | rfl | (simp only [List.length_drop, List.length_take]; rfl)) ?_
    with_reducible refine (date_putZ.calls k (fun k_ => some k_ = (.slice (some ⟨gz, 0, none⟩) y279.length cz : Value).ownBlock) gz y279.length cz cz (cz, cz + 1) t282 5 7 a0_1 t283 w _ ?side1 ?side2 A9.out).mono ?_
    (case side1 => repeat (first | (with_reducible first | exact HB.out | apply below_alloc | apply pw_below_drewN | apply below_drew1 | refine below_set ?_ GE277.out) | exact HB.out))
    (case side2 => exact ⟨fun b hb => hb.symm, HO281.out.2⟩)
    rintro e w23 ⟨rfl, hy0, hb, hkp⟩
    refine ⟨_, rfl, ?_⟩
    replace BK277 := Aside0.mk (blk_kept (by (with_reducible repeat (first | refine blk_drewN ?_ _ | refine blk_drew ?_ | refine blk_alloc ?_ _)); exact BK277.out) hkp (fun hs_ => (fun e_ => (ZW_ne HO281.out BK277.out (by decide)) e_) hs_))
    replace HO281 := Aside0.mk (show ZW .u8 ⟨[], [], cz, (cz, cz + 1)⟩ 5 _ _ _ _ _ from ⟨HO281.out.1, hy0.2⟩)
    replace HB := Aside0.mk (hb)
    (try clear hb)
    (try clear hkp)
    (try clear hy0)
    refine hK.out _ _ ⟨(blk_cell BK277.out 0).trans rfl, (blk_cell BK277.out 1).trans rfl, (blk_cell BK277.out 2).trans rfl⟩ (fun hHeld => ?_)
    clear hK K
    refine norm_ (a' := ?_) ?_ ?_
    rotate_left
    · show Act.put _ (some 22) _ = _
      simp only [Act.put, List.setIfInBounds_toArray, List.set_cons_zero, List.set_cons_succ, i64_w, i32_w]
      rfl
    refine done_ (by kernel_rfl) ?_
    try go_wp2
    replace HO281 := Aside0.mk (ZW_drew HO281.out)
    replace BK277 := Aside0.mk (blk_drew BK277.out)
    replace HB := Aside0.mk (below_drew1 HB.out)
    obtain ⟨i025, hi025, _, hsz25, _⟩ := info_parts info5
    have w025 : (0 : Int) ≤ (8 : Int) := (by omega)
    have w125 : (8 : Int) < ((y279.length : Int) : Int) := of_decide_eq_true (by first | (with_reducible assumption) | assumption)
    have hwin25 := zwin_from (P := Try.prog) 67 5 .i64 Try.underlying67 hi025 hsz25 HO281.out (8 : Int) ((y279.length : Int) : Int) w025 w125 (by first | rfl | omega)
    clear hi025 hsz25
    replace w025 := eq_true w025
    replace w125 := eq_true w125
    refine start_ (n := 5) (S := fun w' => w'.cell? ⟨gb277, 0, none⟩ = some (.int .i64 a0_0) ∧ w'.cell? ⟨gb277, 1, none⟩ = some (.int .i64 a0_1) ∧ w'.cell? ⟨gb277, 2, none⟩ = some (.int .i64 a0_2)) (ds := []) #[false, false, false, false, false] (by kernel_rfl) rfl rfl ⟨(blk_cell BK277.out 0).trans rfl, (blk_cell BK277.out 1).trans rfl, (blk_cell BK277.out 2).trans rfl⟩ (fun hHeld => ?_)
    generalize w23.drew = w24 at HO281 BK277 HB hHeld ⊢
    refine pure_ (i := 0) (N := some 23) (v := ?_) (a' := ?_) #[true, false, false, false, false] rfl rfl (by kernel_rfl) (fun _ _ _ h => h) (Or.inl ⟨by rfl, ?_⟩) ?_ ?_
    rotate_left
    · intro w'
      go_simp
      with_reducible rfl
    rotate_left
    · simp only [Act.put, List.setIfInBounds_toArray, List.set_cons_zero, List.set_cons_succ, i64_w, i32_w]
      rfl
    refine pure_ (i := 1) (N := some 24) (v := ?_) (a' := ?_) #[true, true, false, false, false] rfl rfl (by kernel_rfl) (fun _ _ _ h => h) (Or.inl ⟨by rfl, ?_⟩) ?_ ?_
    rotate_left
    · intro w'
      go_simp
      with_reducible rfl
    rotate_left
    · simp only [Act.put, List.setIfInBounds_toArray, List.set_cons_zero, List.set_cons_succ, i64_w, i32_w]
      rfl
    refine pure_ (i := 2) (N := some 25) (v := ?_) (a' := ?_) #[true, true, true, false, false] rfl rfl (by kernel_rfl) (fun _ _ _ h => h) (Or.inl ⟨by rfl, ?_⟩) ?_ ?_
    rotate_left
    · intro w'
      go_simp
      with_reducible rfl
    rotate_left
    · simp only [Act.put, List.setIfInBounds_toArray, List.set_cons_zero, List.set_cons_succ, i64_w, i32_w]
      rfl
    refine take_ (i := 3) (N := some 26) (v := ?_) (a' := ?_) #[true, true, true, true, false] rfl rfl (by kernel_rfl) (fun _ _ _ h => h) (Or.inl ⟨by rfl, ?_⟩) hHeld ?_ ?_
    rotate_left
    · rintro w' ⟨s0, s1, s2⟩
      go_simp
      with_reducible rfl
    rotate_left
    · simp only [Act.put, List.setIfInBounds_toArray, List.set_cons_zero, List.set_cons_succ, i64_w, i32_w]
      rfl
    refine one_ (i := 4) (N := some 27) #[true, true, true, true, true] rfl rfl (by kernel_rfl) (by decide) (fun K hK => ?_)
    refine goes_ Try.func43 (by kernel_rfl) rfl #[xwin (.slice (some ⟨gz, 0, none⟩) y279.length cz) 8 (y279.length : Int), .int .i64 a0_2] (by rfl) rfl rfl (by (try simp only [List.map_toArray, List.map_cons, List.map_nil]); first | done | rfl | (simp only [List.length_drop, List.length_take]; rfl)) ?_
    with_reducible refine (date_putZ.calls k (fun k_ => some k_ = (.slice (some ⟨gz, 0, none⟩) y279.length cz : Value).ownBlock) gz y279.length cz cz (cz, cz + 1) t283 8 (y279.length : Int) a0_2 t284 w _ ?side1 ?side2 A11.out).mono ?_
    (case side1 => repeat (first | (with_reducible first | exact HB.out | apply below_alloc | apply pw_below_drewN | apply below_drew1 | refine below_set ?_ GE277.out) | exact HB.out))
    (case side2 => exact ⟨fun b hb => hb.symm, HO281.out.2⟩)
    rintro e w26 ⟨rfl, hy0, hb, hkp⟩
    refine ⟨_, rfl, ?_⟩
    replace BK277 := Aside0.mk (blk_kept (by (with_reducible repeat (first | refine blk_drewN ?_ _ | refine blk_drew ?_ | refine blk_alloc ?_ _)); exact BK277.out) hkp (fun hs_ => (fun e_ => (ZW_ne HO281.out BK277.out (by decide)) e_) hs_))
    replace HO281 := Aside0.mk (show ZW .u8 ⟨[], [], cz, (cz, cz + 1)⟩ 5 _ _ _ _ _ from ⟨HO281.out.1, hy0.2⟩)
    replace HB := Aside0.mk (hb)
    (try clear hb)
    (try clear hkp)
    (try clear hy0)
    refine hK.out _ _ ⟨(blk_cell BK277.out 0).trans rfl, (blk_cell BK277.out 1).trans rfl, (blk_cell BK277.out 2).trans rfl⟩ (fun hHeld => ?_)
    clear hK K
    refine norm_ (a' := ?_) ?_ ?_
    rotate_left
    · show Act.put _ (some 27) _ = _
      simp only [Act.put, List.setIfInBounds_toArray, List.set_cons_zero, List.set_cons_succ, i64_w, i32_w]
      rfl
    refine done_ (by kernel_rfl) ?_
    have hcv27 := ZW_string (P := Try.prog) Try.underlying67 Try.underlying5 Try.underlying9 HO281.out
    try go_wp2
    go_ret2
    exact ⟨by first | rfl | (simp [errW_none, errW_some] <;> rfl) | (simp [*, errW_none, errW_some] <;> rfl), by repeat (first | (with_reducible first | exact HB.out | apply below_alloc | apply pw_below_drewN | apply below_drew1 | refine below_set ?_ GE277.out) | exact HB.out)⟩
  · rw [if_neg c3] at H
    have c3b0 : (t278 == 0) = false := beq_eq_false_iff_ne.mpr c3
    have c3b1 : (t278 != 0) = true := bne_iff_ne.mpr c3
    simp only [Option.some.injEq, Prod.mk.injEq] at H
    obtain ⟨rfl, rfl⟩ := H
    go_enter Try.func24, Try.ntmps24
    go_wp2_with (first | ((with_reducible refine gate_dst (N := 1) rfl ?_); refine box_event ?hg (N := 1) ?hd (cs := #[.int .i64 a0_0, .int .i64 a0_1, .int .i64 a0_2]) (t := 23) ?hr ?_; (case hd => rfl); (case hg => rfl); (case hr => first | (go_simp; done) | (go_simp; rfl)); intro gb277 hg w28 hbox hb; have n0_ := Aside0.mk (below_step (by repeat (first | (with_reducible first | exact HB.out | apply below_alloc | apply pw_below_drewN | apply below_drew1) | exact HB.out)) hb); have n1_ := Aside0.mk (hbox); have n2_ := Aside0.mk ((by rw [hg]; exact (below_size (by repeat (first | (with_reducible first | exact HB.out | apply below_alloc | apply pw_below_drewN | apply below_drew1) | exact HB.out))) : w.heap.size ≤ gb277)); have n3_ := Aside0.mk ((by rw [hg]; exact (below_size (by repeat (first | (with_reducible first | exact HB.out | apply below_alloc | apply pw_below_drewN | apply below_drew1) | exact HB.out))) : w.heap.size ≤ gb277)); clear HB; have HB := n0_; have BK277 := n1_; have GW277 := n2_; have GE277 := n3_; clear n0_ n1_ n2_ n3_; clear hb hbox hg; have hcz29_0 : w28.cell? ⟨gb277, 0, none⟩ = some (.int .i64 a0_0) := (blk_cell BK277.out 0).trans rfl; have hcz29_1 : w28.cell? ⟨gb277, 1, none⟩ = some (.int .i64 a0_1) := (blk_cell BK277.out 1).trans rfl; have hcz29_2 : w28.cell? ⟨gb277, 2, none⟩ = some (.int .i64 a0_2) := (blk_cell BK277.out 2).trans rfl; have hfz29_0 := blk_frozen BK277.out 0; have hfz29_1 := blk_frozen BK277.out 1; have hfz29_2 := blk_frozen BK277.out 2) | ((with_reducible refine gate_callee (f := 29) rfl ?_); refine goesL_ (some 7) rfl rfl Try.func29 (by kernel_rfl) rfl #[.agg #[.int .i64 a0_0, .int .i64 a0_1, .int .i64 a0_2]] rfl (by (try simp only [List.map_toArray, List.map_cons, List.map_nil]); first | done | rfl | (simp only [List.length_drop, List.length_take]; rfl)) ?_; (with_reducible refine (date_Check.calls k a0_0 a0_1 a0_2 t278 _ A2.out).mono ?_); rintro e w30 ⟨rfl, hb⟩; refine ⟨_, rfl, ?_⟩; replace BK277 := Aside0.mk (bb BK277.out hb); replace HB := Aside0.mk (bs HB.out hb); (try clear hb); (try clear hb2); (try clear hk); (try clear hi)))
    go_ret2
    exact ⟨by first | rfl | (simp [errW_none, errW_some] <;> rfl) | (simp [*, errW_none, errW_some] <;> rfl), by repeat (first | (with_reducible first | exact HB.out | apply below_alloc | apply pw_below_drewN | apply below_drew1 | refine below_set ?_ GE277.out) | exact HB.out)⟩

end Go.Proofs.Ytfikfmediheioaa.F
