-- Written by this session's printer (wip/tools), out of the translation's own print. Lean checks it.
import Derived.Test.YtfikfmediheioaaF0
namespace Go.Proofs.Ytfikfmediheioaa.F
open Go.RowKit Go.Proofs.YtfikfmediheioaaW.PrintWords Go.Proofs.YtfikfmediheioaaW.PrintLast Go.Proofs.YtfikfmediheioaaW.PrintMore Go.Proofs.YtfikfmediheioaaX
attribute [local go_sem] max2_int cell_some
attribute [local go_sem] max2_int min2_int max_two min_two max_three min_three max_four min_four   -- for this text's walks alone
set_option linter.unusedVariables false
set_option linter.unusedSimpArgs false

/-! ### date_put: function 43 -/
def date_put.l0 : Nat → List Int → Int → Int → Option (List Int)
  | 0, _, _, _ => none
  | k + 1, x0, x1, x4 => if x4 ≥ 0 then (if 0 ≤ x4 then (if x4 < (x0.length : Int) then (date_put.l0 k (x0.set (x4 : Int).toNat ((wrap64 (48 + (Int.tmod x1 10))) % 256)) (wrap64 (Int.tdiv x1 10)) (wrap64 (x4 - 1))) else (none)) else (none)) else (some x0)
def date_put.f (k : Nat) (l0 : List Int) (a1 : Int) : Option (List Int) := date_put.l0 k l0 a1 (wrap64 ((l0.length : Int) - 1))
theorem date_put.mono_l : ∀ k, (∀ y0 y1 y2, LeO (date_put.l0 k y0 y1 y2) (date_put.l0 (k + 1) y0 y1 y2))
  | 0 => fun _ _ _ r h => by simp [date_put.l0] at h
  | k + 1 => by
    have ih0 := date_put.mono_l k
    · intro y0 y1 y2
      unfold date_put.l0
      repeat' first
      | (with_reducible exact ih0 _ _ _)
      | (with_reducible exact LeO.refl _)
      | (with_reducible exact LeO.none _)
      | (with_reducible refine LeO.ite ?_ ?_)
      | (with_reducible refine LeO.bind ?_ (fun _ => ?_))
      | exact ih0 _ _ _
      | exact LeO.none _
      | refine LeO.ite ?_ ?_
      | refine LeO.bind ?_ (fun _ => ?_)
theorem date_put.mono : ∀ a0 a1 k, LeO (date_put.f k a0 a1) (date_put.f (k + 1) a0 a1) := by
  intro a0 a1 k
  have ih0 := date_put.mono_l k
  unfold date_put.f
  repeat' first
      | (with_reducible exact ih0 _ _ _)
      | (with_reducible exact LeO.refl _)
      | (with_reducible exact LeO.none _)
      | (with_reducible refine LeO.ite ?_ ?_)
      | (with_reducible refine LeO.bind ?_ (fun _ => ?_))
      | exact ih0 _ _ _
      | exact LeO.none _
      | refine LeO.ite ?_ ?_
      | refine LeO.bind ?_ (fun _ => ?_)
set_option maxHeartbeats 8000000 in
set_option maxRecDepth 100000 in
theorem date_put.callsX (k : Nat) (D_ : XD) (P0_ : Nat → Prop) (u9000_ : Value) (l0 : List Int) (a1 : Int) (r : List Int) (w0 w : World) (hB : Below w0.heap.size w0 w) (ho0 : XW .u8 D_ 5 w w0.heap.size P0_ u9000_ l0) (h : date_put.f k l0 a1 = some r) :
    Calls Try.prog 43 #[u9000_, .int .i64 a1] w fun e w' => e = .returned (.tuple #[]) ∧ XW .u8 D_ 5 w' w0.heap.size (fun k_ => (P0_ k_ ∨ w.heap.size ≤ k_)) u9000_ r ∧ Below w0.heap.size w0 w' ∧ Kept w w' (fun k_ => P0_ k_) := by
  have HO0 := Aside0.mk (show XW .u8 D_ 5 w w0.heap.size (fun k_ => (P0_ k_ ∨ w.heap.size ≤ k_)) u9000_ l0 from XW_mono ho0 (fun k_ hk => (.inl hk)))
  have HK := Aside0.mk (Kept.refl w (fun k_ => P0_ k_))
  have HW0 := Aside0.mk hB.size
  have HB := Aside0.mk hB
  clear hB
  have H : (date_put.l0 k l0 a1 (wrap64 ((l0.length : Int) - 1))) = some r := h
  clear h
  have H' := Aside0.mk H
  clear H
  obtain ⟨Ao3, co3, eo3⟩ := XW_slice HO0.out
  subst eo3
  go_enter Try.func43, Try.ntmps43
  go_wp2
  go_loopg [1, 4] k (fun kq v1 v4 w' => ∃ (x0_1 : List Int) (x1_1 : Int) (x4_1 : Int), v1 = .int .i64 x1_1 ∧ v4 = .int .i64 x4_1 ∧ Aside0 (date_put.l0 kq x0_1 x1_1 x4_1 = some r) ∧ Aside0 (kq ≤ k) ∧ Aside0 (XW .u8 D_ 5 w' w0.heap.size (fun k_ => (P0_ k_ ∨ w.heap.size ≤ k_)) (.slice Ao3 l0.length co3) x0_1) ∧ Aside0 (Kept w w' (fun k_ => P0_ k_)) ∧ Aside0 (Below w0.heap.size w0 w'))
  case atStart => exact ⟨(l0), (a1), (wrap64 ((l0.length : Int) - 1)), (by first | rfl | (simp; done) | (simp [*]; done)), (by first | rfl | (simp; done) | (simp [*]; done)), H', ⟨Nat.le_refl _⟩, ⟨by (with_reducible repeat (first | apply XW_alloc | apply XW_drewN | apply XW_drew)); exact HO0.out⟩, ⟨by repeat (first | (with_reducible first | exact HK.out | apply Kept.alloc | apply Kept.drewN | apply Kept.drew) | exact HK.out)⟩, ⟨by repeat (first | (with_reducible first | exact HB.out | apply below_alloc | apply pw_below_drewN | apply below_drew1) | exact HB.out)⟩⟩
  case round =>
    clear H'
    try clear p2
    obtain ⟨x0_1, x1_1, x4_1, rfl, rfl, HA, HK1, HO_0, HK, HB⟩ := hrel
    have hl0_1 := (XW_reads' HO_0.out).1
    rw [hl0_1] at HO_0
    (try simp only [hl0_1])
    cases gk with
    | zero => exact absurd HA.out (by simp [date_put.l0])
    | succ k1 =>
      have H := HA.out
      clear HA
      simp only [date_put.l0] at H
      by_cases c4 : x4_1 ≥ 0
      · rw [if_pos c4] at H
        have c4b0 : decide (0 ≤ x4_1) = true := decide_eq_true c4
        clear c4
        by_cases c5 : 0 ≤ x4_1
        rotate_left
        · rw [if_neg c5] at H
          exact absurd H (by simp)
        rw [if_pos c5] at H
        have c5b0 : decide (0 ≤ x4_1) = true := decide_eq_true c5
        clear c5
        by_cases c6 : x4_1 < (x0_1.length : Int)
        rotate_left
        · rw [if_neg c6] at H
          exact absurd H (by simp)
        rw [if_pos c6] at H
        have c6b0 : decide (x4_1 < (x0_1.length : Int)) = true := decide_eq_true c6
        have c6b0x := c6b0
        (try simp only [hl0_1] at c6b0x)
        clear c6
        obtain ⟨y276, hy276⟩ : ∃ y_ : List Int, y_ = (x0_1.set (x4_1 : Int).toNat ((wrap64 (48 + (Int.tmod x1_1 10))) % 256)) := ⟨_, rfl⟩
        replace H : (date_put.l0 k1 y276 (wrap64 (Int.tdiv x1_1 10)) (wrap64 (x4_1 - 1))) = some r := by first | (rw [hy276]; with_reducible exact H) | (have H2_ := (Option.bind_some _ _).symm.trans H; rw [hy276]; with_reducible exact H2_) | (have H2_ := (Option.bind_some _ _).symm.trans H; with_reducible exact H2_) | with_reducible exact H | (rw [hy276]; exact H) | exact H
        have Ny276 := Aside0.mk hy276
        clear hy276
        have H' := Aside0.mk H
        clear H
        have p7 : 0 ≤ (x4_1 : Int) := of_decide_eq_true (by first | (with_reducible assumption) | assumption)
        have q7 : (x4_1 : Int) < ((x0_1.length : Int) : Int) := of_decide_eq_true (by first | (with_reducible assumption) | assumption)
        obtain ⟨go7, co7, eo7, gb7, gl7, cl7, HG7⟩ := XW_form HO_0.out (by omega)
        (first | cases eo7 | (injection eo7 with ea_ en_ ec_; (first | subst ea_ | (injection ea_ with ea_; subst ea_)); subst ec_; clear en_))
        have GB7 := Aside0.mk gb7
        have GG7 := Aside0.mk HG7
        clear gb7 gl7 HG7
        have HMgo7 := Aside0.mk (show (P0_ go7 ∨ w.heap.size ≤ go7) from (HO_0.out.1 _ rfl))
        obtain ⟨hx7_0, hf7_0⟩ := XW_celln 0 HO_0.out (x4_1 : Int) p7 q7
        replace p7 := eq_true p7
        replace q7 := eq_true q7
        have HP8 := XW_putg HO_0.out (x4_1 : Int) ((wrap64 (48 + (Int.tmod x1_1 10))) % 256) (of_decide_eq_true (by first | (with_reducible assumption) | assumption)) (of_decide_eq_true (by first | (with_reducible assumption) | assumption))
        go_wp2_with (first | ((with_reducible refine gate_store (t := 5) (p := 18) rfl ?_); refine store_event (t := 5) (p := 18) (v := ?vo_w9) (w1 := (wr.setCell ⟨go7, D_.pre.length + (x4_1 : Int).toNat, none⟩ (.int .u8 ((wrap64 (48 + (Int.tmod x1_1 10))) % 256)))) ?hg ?ho ?hn ?hr ?_; (case ho => rfl); (case hg => rfl); (case hn => rfl); (case hr => first | (go_simp; done) | (go_simp; rfl)); intro w9 hw; have hg : wr.grownBy w9 (some go7) := (by rw [hw]; exact HP8.2); have hp_ : XW .u8 D_ 5 w9 w0.heap.size (fun k_ => (P0_ k_ ∨ w.heap.size ≤ k_)) (.slice (some ⟨go7, D_.pre.length, none⟩) x0_1.length co3) y276 := (by rw [hw, Ny276.out]; exact HP8.1); clear HP8; have n0_ := Aside0.mk (hp_); have n1_ := Aside0.mk ((by rw [hw]; exact below_set (HB.out) GB7.out : Below w0.heap.size w0 w9)); have n2_ := Aside0.mk (Kept.of_grown (S := (fun k_ => P0_ k_)) hg (by repeat (first | (with_reducible first | exact HK.out | apply Kept.alloc | apply Kept.drewN | apply Kept.drew) | exact HK.out)) (fun k_ e_ => (HO_0.out.1 k_ e_))); clear HO_0; clear HB; clear HK; have HO_0 := n0_; have HB := n1_; have HK := n2_; clear n0_ n1_ n2_; clear hg hw hp_))
        (try simp only [← hl0_1])
        go_roundg k1
        case measure => have := HK1.out; omega
        case rel => exact ⟨(y276), (wrap64 (Int.tdiv x1_1 10)), (wrap64 (x4_1 - 1)), (by first | rfl | (simp; done) | (simp [*]; done)), (by first | rfl | (simp; done) | (simp [*]; done)), H', ⟨by have := HK1.out; omega⟩, ⟨by (try simp only [hl0_1]); (with_reducible repeat (first | apply XW_alloc | apply XW_drewN | apply XW_drew)); exact HO_0.out⟩, ⟨by repeat (first | (with_reducible first | exact HK.out | apply Kept.alloc | apply Kept.drewN | apply Kept.drew) | exact HK.out)⟩, ⟨by repeat (first | (with_reducible first | exact HB.out | apply below_alloc | apply pw_below_drewN | apply below_drew1) | exact HB.out)⟩⟩
      · rw [if_neg c4] at H
        have c4b0 : decide (0 ≤ x4_1) = false := decide_eq_false c4
        clear c4
        obtain rfl := Option.some.inj H
        go_wp2
        first | go_end0 | ((try simp only [Exit.inBlock, Exit.then]); refine bodyPost_ret (results_none rfl _ _ _) rfl ?_)
        exact ⟨by first | rfl | (simp [errW_none, errW_some] <;> rfl) | (simp [*, errW_none, errW_some] <;> rfl), (by first | exact (by (with_reducible repeat (first | apply XW_alloc | apply XW_drewN | apply XW_drew)); exact HO_0.out) | (simp only [hl0_1]; exact (by (with_reducible repeat (first | apply XW_alloc | apply XW_drewN | apply XW_drew)); exact HO_0.out))), by repeat (first | (with_reducible first | exact HB.out | apply below_alloc | apply pw_below_drewN | apply below_drew1) | exact HB.out), by repeat (first | (with_reducible first | exact HK.out | apply Kept.alloc | apply Kept.drewN | apply Kept.drew) | exact HK.out)⟩
/-! date_put over a window of a row -/
def date_putW.f (k : Nat) (l0 : List Int) (lo_ hi_ : Int) (a1 : Int) : Option (List Int) := if 0 ≤ lo_ ∧ lo_ < hi_ ∧ hi_ ≤ (l0.length : Int) then (date_put.f k ((l0.take hi_.toNat).drop lo_.toNat) a1).map (fun r_ => l0.take lo_.toNat ++ r_ ++ l0.drop hi_.toNat) else none
theorem date_putW.mono : ∀ a0 a1 a2 a3 k, LeO (date_putW.f k a0 a1 a2 a3) (date_putW.f (k + 1) a0 a1 a2 a3) := by
  intro a0 a1 a2 a3 k
  unfold date_putW.f
  refine LeO.ite ?_ (LeO.none _)
  intro r hr
  obtain ⟨r', h1, h2⟩ := Option.map_eq_some_iff.mp hr
  exact Option.map_eq_some_iff.mpr ⟨r', date_put.mono _ _  k r' h1, h2⟩
theorem date_putW.calls (k : Nat) (P0_ : Nat → Prop) (u9000_ : Value) (l0 : List Int) (lo_ hi_ : Int) (a1 : Int) (r : List Int) (w0 w : World) (hB : Below w0.heap.size w0 w) (ho0 : Kd.R (Kd.int .u8) 5 w w0.heap.size P0_ u9000_ l0) (h : date_putW.f k l0 lo_ hi_ a1 = some r) :
    Calls Try.prog 43 #[xwin u9000_ lo_ hi_, .int .i64 a1] w fun e w' => e = .returned (.tuple #[]) ∧ Kd.R (Kd.int .u8) 5 w' w0.heap.size (fun k_ => (P0_ k_ ∨ w.heap.size ≤ k_)) u9000_ r ∧ Below w0.heap.size w0 w' ∧ Kept w w' (fun k_ => P0_ k_) := by
  unfold date_putW.f at h
  by_cases c_ : 0 ≤ lo_ ∧ lo_ < hi_ ∧ hi_ ≤ (l0.length : Int)
  · rw [if_pos c_] at h
    obtain ⟨c1_, c2_, c3_⟩ := c_
    obtain ⟨r_, h1_, h2_⟩ := Option.map_eq_some_iff.mp h
    clear h
    subst h2_
    obtain ⟨g_, cap_, hu_, _⟩ := Kd.R_form ho0 (by omega)
    subst hu_
    have hcap_ := (Kd.R_reads' ho0).2.1
    obtain ⟨s_, hs_, hx_⟩ := XW_of_R ho0 lo_.toNat hi_.toNat (by omega) (by omega)
    subst hs_
    rw [xwin_slice]
    refine (date_put.callsX k ⟨l0.take lo_.toNat, l0.drop hi_.toNat, cap_⟩ P0_ (.slice (some ⟨g_, lo_.toNat, none⟩) (hi_.toNat - lo_.toNat) (cap_ - lo_.toNat)) ((l0.take hi_.toNat).drop lo_.toNat) a1 r_ w0 w hB (hx_ _ (by omega) (by omega)) h1_).mono ?_
    rintro e w' ⟨he_, hw_, hq_⟩
    refine ⟨he_, ?_, hq_⟩
    have hl_ : hi_.toNat - lo_.toNat = (r_).length := by
      obtain ⟨A_, c_, e_⟩ := XW_slice hw_
      injection e_
    have hr_ := XW_to_R (lo := lo_.toNat) hw_
    have hn_ : (l0.take lo_.toNat ++ r_ ++ l0.drop hi_.toNat).length = l0.length := by
      simp only [List.length_append, List.length_take, List.length_drop]
      omega
    rw [hn_] at hr_
    exact hr_
  · rw [if_neg c_] at h
    cases h

end Go.Proofs.Ytfikfmediheioaa.F
