-- Joined of: F0 F2 F3 F4 F5 F7 F8 F9 F10 F11 F12 F13 F14 F15 F16 F26 F27 F28 F40 F41 F42 F43 F44
import Derived.Test.YtebjbmgfbejapaaC210S
import Derived.Test.YtebjbmgfbejapaaProg
import Derived.Below
import Derived.Deep.Draws
import Derived.Deep.AppendLies
import Derived.Maps.AppendAt
import Derived.OwnWalk
import Derived.Laws.BytesArg
import Derived.Laws.MakeOwn
import Derived.Laws.OwnMore
import Derived.Deep.OwnRows
import Derived.Tactics
import Derived.Lib.ConvBytes
import Derived.Laws.Slices
import Derived.WalkKit
import Derived.KernelRfl
import Derived.RowKit3
import Derived.Deep.LoopGhost
import Derived.Deep.QuietTactic
import Derived.BigQuiet
import Derived.WideLaws
import Derived.Deep.DeepCutAuto
import Derived.Deep.CutBlock
import Derived.Deep.RegionHeld3
import Derived.Laws.Rows
import Derived.Lib.AppendStr
import Derived.ArgAppend
import Derived.Laws.IdiomCopy
import Derived.OrdersHeld
import Derived.Laws.BitsLemmas
import Derived.RowKit
import Derived.Test.YtebjbmgfbejapaaC210WWords
import Derived.Test.YtebjbmgfbejapaaC210WLast
import Derived.Test.YtebjbmgfbejapaaC210WTab
import Derived.Test.YtebjbmgfbejapaaC210WQPut
import Derived.Test.YtebjbmgfbejapaaC210WApart
import Derived.Test.YtebjbmgfbejapaaC210WFoot
import Derived.Test.YtebjbmgfbejapaaC210WKept
import Derived.Test.YtebjbmgfbejapaaC210WShare
import Derived.Test.YtebjbmgfbejapaaC210WN
import Derived.Test.YtebjbmgfbejapaaC210WAt
import Derived.Laws.StructEq
import Derived.Test.YtebjbmgfbejapaaC210WRepsOne
import Derived.Test.YtebjbmgfbejapaaC210WInv
import Derived.Test.YtebjbmgfbejapaaC210WInvWords
import Derived.Test.YtebjbmgfbejapaaC210WGuard
import Derived.Test.YtebjbmgfbejapaaC210WMore
import Derived.Test.YtebjbmgfbejapaaC210X
section
namespace Go.Proofs.Ytebjbmgfbejapaa.F
open Go.RowKit Go.Proofs.YtebjbmgfbejapaaW.PrintWords Go.Proofs.YtebjbmgfbejapaaW.PrintLast Go.Proofs.YtebjbmgfbejapaaW.PrintMore Go.Proofs.YtebjbmgfbejapaaX
attribute [local go_sem] max2_int cell_some xrun_add64 xrun_sub64
attribute [local go_sem] max2_int min2_int max_two min_two max_three min_three max_four min_four
set_option linter.unusedVariables false
set_option linter.unusedSimpArgs false
def errW : Option Int → Value
  | none => .nilIface
  | some c => .iface 0 (.int .i64 c)
theorem errW_none : errW none = .nilIface := rfl
theorem errW_some (c : Int) : errW (some c) = .iface 0 (.int .i64 c) := rfl
theorem info3 : (Try.prog.info? 3).map (fun i => (i.zero, i.size, i.bytes)) = some (some (.int .i64 0), 1, 8) := by kernel_rfl
theorem info27 : (Try.prog.info? 27).map (fun i => (i.zero, i.size, i.bytes)) = some (some (.int .u64 0), 1, 8) := by kernel_rfl
def slices_Clone_uint64_uint64.f (l0 : List Int) : Option (List Int) := (some (([] : List Int) : List Int)).bind fun y106 => (if y106.length + l0.length < 17592186044416 then (some (y106 ++ l0)) else (none))
set_option maxHeartbeats 8000000 in
set_option maxRecDepth 100000 in
theorem slices_Clone_uint64_uint64.calls_some (a0_ : Addr) (c0 : Nat) (l0 : List Int) (r : List Int) (w : World) (hr0 : Kd.C (Kd.int .u64) w (some a0_) l0.length l0) (hc0 : l0.length ≤ c0) (h : slices_Clone_uint64_uint64.f l0 = some r) :
    Calls Try.prog 15 #[.slice (some a0_) l0.length c0] w fun e w' => ∃ v0_ : Value, e = .returned (v0_) ∧ Kd.R (Kd.int .u64) 27 w' w.heap.size (fun _ => True) v0_ r ∧ Below w.heap.size w w' := by
  have HR0 := m0 hr0; have HC0 := m0 hc0; clear hr0 hc0; have HB := m0 (Below.refl w.heap.size w); have H : ((some (([] : List Int) : List Int)).bind fun y106 => (if y106.length + l0.length < 17592186044416 then (some (y106 ++ l0)) else (none))) = some r := h; clear h; obtain ⟨y106, hy106⟩ : ∃ y_ : List Int, y_ = (([] : List Int)) := ⟨_, rfl⟩; (replace H : (if y106.length + l0.length < 17592186044416 then (some (y106 ++ l0)) else (none)) = some r := by first | (rw [hy106]; with_reducible exact H) | (have H2_ := (Option.bind_some _ _).symm.trans H; rw [hy106]; with_reducible exact H2_) | (have H2_ := (Option.bind_some _ _).symm.trans H; with_reducible exact H2_) | with_reducible exact H | (rw [hy106]; exact H) | exact H); have Ny106 := m0 hy106; clear hy106
  by_cases c2 : y106.length + l0.length < 17592186044416
  rotate_left
  · rw [if_neg c2] at H; exact absurd H (by simp)
  rw [if_pos c2] at H; have LMc2 := m0 c2; clear c2; obtain ⟨y109, hy109⟩ : ∃ y_ : List Int, y_ = (y106 ++ l0) := ⟨_, rfl⟩; (replace H : (some y109) = some r := by first | (rw [hy109]; with_reducible exact H) | (have H2_ := (Option.bind_some _ _).symm.trans H; rw [hy109]; with_reducible exact H2_) | (have H2_ := (Option.bind_some _ _).symm.trans H; with_reducible exact H2_) | with_reducible exact H | (rw [hy109]; exact H) | exact H); have Ny109 := m0 hy109; clear hy109; obtain rfl := Option.some.inj H; have hnil_ : ∀ (w : World) (a : Option Addr) (n c : Nat), (binOp .eql 22 (.slice a n c) (.slice none 0 0)).run Try.prog w = .ok (.bool a.isNone) w := fun w a n c => run_eq_nil w a n c Try.underlying22
  go_enter Try.func15, Try.ntmps15
  go_wp2_with (first | ((with_reducible refine gate_dst (N := 5) rfl ?_); refine Kd.R_lit (Kd.int .u64) _ 27 ?hg (N := 5) ?hd (xs := ([] : List Int)) (inner := []) (ok := fun _ => True) (okp := fun _ => True) ?hr ?hp (fun _ hk => hk) trivial (Below.refl _ _) (Nat.le_refl _) (by simp) ?_; (case hd => rfl); (case hg => rfl); (case hr => first | (go_simp; done) | (go_simp; rfl)); (case hp => exact (Reps.none _ _)); intro v107 w3 ho4 hb hg_ hnew_; clear hg_ hnew_; (first | rw [← Ny106.out] at ho4 | (simp only [Int.reduceToNat] at ho4; rw [← Ny106.out] at ho4)); have a0 := m0 (Kd.R_lower ho4 (bz HB.1)); replace HB := sa HB hb; clear hb ho4) | ((with_reducible refine gate_builtin (b := .append) (xs := #[.tmp 5, .tmp 6]) rfl ?_); at_builtin; refine Kd.R_append_rows (Kd.int .u64) (w0 := w) w.heap.size rfl (.tmp 5) (.tmp 6) 22 27 (.int .u64 0) 8 rfl Try.underlying22 info27 rfl (by decide) (by omega) v107 y106 l0 _ _ _ (fun _ => True) (fun _ => False) rfl rfl ?aO ?aR (fun _ _ h => h) (fun _ h => h.elim) ?aF ?aB ?aS ?aL ?_; (case aR => repeat (first | exact (Kd.C_below HR0.1 HB.1) | (with_reducible refine Kd.C_alloc ?_ _) | (with_reducible refine Kd.C_drewN ?_ _) | (with_reducible refine Kd.C_drew ?_))); (case aB => exact (bf HB)); (case aF => exact (fun _ _ => trivial)); (case aO => exact (by (with_reducible repeat (first | apply Kd.R_alloc | apply Kd.R_drewN | apply Kd.R_drew)); exact a0.1)); (case aS => exact (bz HB.1)); (case aL => have := LMc2.out; omega); intro v110 w5 ho hb hg hat; rw [← Ny109.out] at ho; replace HB := m0 (hb); have a1 := m0 (ho); clear a0 ho hb hg hat))
  go_ret
  exact ⟨_, by first | rfl | (simp [errW_none, errW_some] <;> rfl) | (simp [*, errW_none, errW_some] <;> rfl), by (with_reducible repeat (first | apply Kd.R_alloc | apply Kd.R_drewN | apply Kd.R_drew)); exact a1.1, by repeat (first | (with_reducible first | exact HB.1 | apply below_alloc | apply pw_below_drewN | apply below_drew1) | exact HB.1)⟩
set_option maxHeartbeats 1000000 in
set_option maxRecDepth 100000 in
theorem slices_Clone_uint64_uint64.calls_none (c0 : Nat) (l0 : List Int) (r : List Int) (w : World) (hr0 : Kd.C (Kd.int .u64) w none l0.length l0) (hc0 : l0.length ≤ c0) (h : slices_Clone_uint64_uint64.f l0 = some r) :
    Calls Try.prog 15 #[.slice none l0.length c0] w fun e w' => ∃ v0_ : Value, e = .returned (v0_) ∧ Kd.R (Kd.int .u64) 27 w' w.heap.size (fun _ => True) v0_ r ∧ Below w.heap.size w w' := by
  have hz : l0 = [] := by
    rcases l0 with _ | ⟨x, l⟩
    · rfl
    · obtain ⟨ad, e, _⟩ := hr0.2.2 (by simp); cases e
  subst hz
  have hr : r = [] := by
    have h1 : slices_Clone_uint64_uint64.f [] = some [] := rfl; rw [h1] at h; exact (Option.some.inj h).symm
  subst hr; clear h hr0; have hnil_ : ∀ (w : World) (a : Option Addr) (n c : Nat), (binOp .eql 22 (.slice a n c) (.slice none 0 0)).run Try.prog w = .ok (.bool a.isNone) w := fun w a n c => run_eq_nil w a n c Try.underlying22
  go_enter Try.func15, Try.ntmps15
  go_wp2
  go_ret
  exact ⟨_, rfl, Kd.R_nil _ _ _ _ _, Below.refl _ _⟩
theorem slices_Clone_uint64_uint64.calls (A0 : Option Addr) (c0 : Nat) (l0 : List Int) (r : List Int) (w : World) (hr0 : Kd.C (Kd.int .u64) w A0 l0.length l0) (hc0 : l0.length ≤ c0) (h : slices_Clone_uint64_uint64.f l0 = some r) :
    Calls Try.prog 15 #[.slice A0 l0.length c0] w fun e w' => ∃ v0_ : Value, e = .returned (v0_) ∧ Kd.R (Kd.int .u64) 27 w' w.heap.size (fun _ => True) v0_ r ∧ Below w.heap.size w w' := by
  cases A0 with
  | none => exact slices_Clone_uint64_uint64.calls_none c0 l0 r w hr0 hc0 h
  | some a0_ => exact slices_Clone_uint64_uint64.calls_some a0_ c0 l0 r w hr0 hc0 h
def nat_trimmed.l0 : Nat → List Int → Int → Option (List Int)
 | 0, _, _ => none
 | k + 1, x0, x3 => if x3 > 0 then (if 0 ≤ (wrap64 (x3 - 1)) then (if (wrap64 (x3 - 1)) < (x0.length : Int) then (if (rd x0 (wrap64 (x3 - 1))) = 0 then (nat_trimmed.l0 k x0 (wrap64 (x3 - 1))) else (if 0 ≤ x3 then (if x3 ≤ (x0.length : Int) then (some (x0.take (x3 : Int).toNat)) else (none)) else (none))) else (none)) else (none)) else (if 0 ≤ x3 then (if x3 ≤ (x0.length : Int) then (some (x0.take (x3 : Int).toNat)) else (none)) else (none))
def nat_trimmed.f (k : Nat) (l0 : List Int) : Option (List Int) := nat_trimmed.l0 k l0 (l0.length : Int)
theorem nat_trimmed.mono_l : ∀ k, (∀ y0 y1, LeO (nat_trimmed.l0 k y0 y1) (nat_trimmed.l0 (k + 1) y0 y1))
 | 0 => fun _ _ r h => by simp [nat_trimmed.l0] at h
 | k + 1 => by
  have ih0 := nat_trimmed.mono_l k
  ·intro y0 y1; unfold nat_trimmed.l0
   repeat' first
   | (with_reducible exact ih0 _ _)
   | (with_reducible exact LeO.refl _)
   | (with_reducible exact LeO.none _)
   | (with_reducible refine LeO.ite ?_ ?_)
   | (with_reducible refine LeO.bind ?_ (fun _ => ?_))
   | exact ih0 _ _
   | exact LeO.none _
   | refine LeO.ite ?_ ?_
   | refine LeO.bind ?_ (fun _ => ?_)
theorem nat_trimmed.mono : ∀ a0 k, LeO (nat_trimmed.f k a0) (nat_trimmed.f (k + 1) a0) := by
 intro a0 k; have ih0 := nat_trimmed.mono_l k; unfold nat_trimmed.f
 repeat' first
   | (with_reducible exact ih0 _ _)
   | (with_reducible exact LeO.refl _)
   | (with_reducible exact LeO.none _)
   | (with_reducible refine LeO.ite ?_ ?_)
   | (with_reducible refine LeO.bind ?_ (fun _ => ?_))
   | exact ih0 _ _
   | exact LeO.none _
   | refine LeO.ite ?_ ?_
   | refine LeO.bind ?_ (fun _ => ?_)
set_option maxHeartbeats 8000000 in
set_option maxRecDepth 100000 in
theorem nat_trimmed.calls (k : Nat) (P0_ : Nat → Prop) (A0 : Option Addr) (c0 : Nat) (l0 : List Int) (r : List Int) (w : World) (hs0 : Kd.V (Kd.int .u64) 27 w w.heap.size (fun k_ => P0_ k_) (.slice A0 l0.length c0) l0) (h : nat_trimmed.f k l0 = some r) :
  Calls Try.prog 42 #[.slice A0 l0.length c0] w fun e w' => ∃ v0_ : Value, e = .returned (.agg #[v0_]) ∧ Kd.V (Kd.int .u64) 27 w' w.heap.size (fun k_ => (P0_ k_ ∨ w.heap.size ≤ k_)) v0_ r ∧ Below w.heap.size w w' := by
 have hu25 := Try.underlying25; have a1 := m0 (show Kd.V (Kd.int .u64) 27 w w.heap.size (fun k_ => (P0_ k_ ∨ w.heap.size ≤ k_)) (.slice A0 l0.length c0) l0 from Kd.V_mono hs0 (fun k_ hk => .inl hk)); have HB := m0 (Below.refl w.heap.size w); have H : (nat_trimmed.l0 k l0 (l0.length : Int)) = some r := h; clear h; have H' := m0 H; clear H
 go_enter Try.func42, Try.ntmps42
 go_wp2_with (first | ((with_reducible refine gate_dst (N := 2) rfl ?_); refine box_event rz (N := 2) rz (cs := #[.slice none 0 0]) (t := 25) gs_ ?_; intro g0 hg w2 hbox hb; replace a1 := ve a1 hg hb; have b0 := m0 hbox; have G0 := gz_ HB hg; have e0 := gz_ HB hg; replace HB := sa HB hb; clear hb hbox hg))
 go_loopg [3] k (fun kq v3 w' => ∃ (x3_1 : Int), v3 = .int .i64 x3_1 ∧ Aside0 (nat_trimmed.l0 kq l0 x3_1 = some r) ∧ Aside0 (kq ≤ k) ∧ Aside0 (VS 27 w' w (fun k_ => (P0_ k_ ∨ w.heap.size ≤ k_) ∧ k_ ≠ g0) A0 c0 l0) ∧ Aside0 (w'.heap[g0]? = some (.cells #[(.slice none 0 0)] 25 (0, 0))) ∧ Aside0 (Below w.heap.size w w'))
 case atStart => exact ⟨((l0.length : Int)), (by first | rfl | (simp; done) | (simp [*]; done)), H', ⟨Nat.le_refl _⟩, ⟨by (with_reducible repeat (first | apply Kd.V_alloc | apply Kd.V_drewN | apply Kd.V_drew)); exact a1.1⟩, ⟨by (with_reducible repeat (first | refine blk_drewN ?_ _ | refine blk_drew ?_ | refine blk_alloc ?_ _)); exact b0.1⟩, ⟨by repeat (first | (with_reducible first | exact HB.1 | apply below_alloc | apply pw_below_drewN | apply below_drew1 | refine below_set ?_ e0.1) | exact HB.1)⟩⟩
 case round =>
  clear H'; (try clear p2); obtain ⟨x3_1, rfl, HA, HK1, HO_0, b0, HB⟩ := hrel; cases gk with
  | zero => exact absurd HA.out (by simp [nat_trimmed.l0])
  | succ k1 =>
   have H := HA.out; clear HA; simp only [nat_trimmed.l0] at H
   by_cases c3 : x3_1 > 0
   ·rw [if_pos c3] at H; have c3b0 : decide (0 < x3_1) = true := decide_eq_true c3; clear c3; obtain ⟨ji4, hji4⟩ : ∃ j_ : Int, (wrap64 (x3_1 - 1)) = j_ := ⟨_, rfl⟩; (replace H : (if 0 ≤ (ji4) then (if (ji4) < (l0.length : Int) then (if (rd l0 (ji4)) = 0 then (nat_trimmed.l0 k1 l0 ji4) else (if 0 ≤ x3_1 then (if x3_1 ≤ (l0.length : Int) then (some (l0.take (x3_1 : Int).toNat)) else (none)) else (none))) else (none)) else (none)) = some r := by first | (rw [hji4] at H; exact H) | (simp only [hji4] at H ⊢; exact H)); have hji4w : (IntKind.i64.wrap (x3_1 - 1)) = ji4 := (i64_w _).trans hji4
    by_cases c5 : 0 ≤ (ji4)
    rotate_left
    ·rw [if_neg c5] at H; exact absurd H (by simp)
    rw [if_pos c5] at H; have c5b0 : decide (0 ≤ (ji4)) = true := decide_eq_true c5; clear c5
    by_cases c6 : (ji4) < (l0.length : Int)
    rotate_left
    ·rw [if_neg c6] at H; exact absurd H (by simp)
    rw [if_pos c6] at H; have c6b0 : decide ((ji4) < (l0.length : Int)) = true := decide_eq_true c6; clear c6
    by_cases c7 : (rd l0 (ji4)) = 0
    ·rw [if_pos c7] at H; have c7b0 : ((rd l0 (ji4)) == 0) = true := beq_iff_eq.mpr c7; have c7b1 : ((rd l0 (ji4)) != 0) = false := bne_eq_false_iff_eq.mpr c7; clear c7; have H' := m0 H; clear H; have p113 : 0 ≤ ((ji4) : Int) := of_decide_eq_true (by first | (with_reducible assumption) | assumption); have q113 : (ji4) < (l0.length : Int) := of_decide_eq_true (by first | (with_reducible assumption) | assumption); obtain ⟨ad113, e113, hx113_0⟩ := Kd.at_int (Kd.V_reads' HO_0.out).2.2 (ji4) p113 q113; cases e113; replace p113 := eq_true p113; replace q113 := eq_true q113
     go_wp2
     go_roundg k1
     case measure => have := HK1.out; omega
     case rel => exact ⟨(ji4), (by first | rfl | (simp; done) | (simp only [← hji4] <;> (first | rfl | simp)) | (simp [*]; done)), H', ⟨by have := HK1.out; omega⟩, ⟨by (with_reducible repeat (first | apply Kd.V_alloc | apply Kd.V_drewN | apply Kd.V_drew)); exact HO_0.out⟩, ⟨by (with_reducible repeat (first | refine blk_drewN ?_ _ | refine blk_drew ?_ | refine blk_alloc ?_ _)); exact b0.1⟩, ⟨by repeat (first | (with_reducible first | exact HB.1 | apply below_alloc | apply pw_below_drewN | apply below_drew1 | refine below_set ?_ e0.1) | exact HB.1)⟩⟩
    ·rw [if_neg c7] at H; have c7b0 : ((rd l0 (ji4)) == 0) = false := beq_eq_false_iff_ne.mpr c7; have c7b1 : ((rd l0 (ji4)) != 0) = true := bne_iff_ne.mpr c7
     by_cases c8 : 0 ≤ x3_1
     rotate_left
     ·rw [if_neg c8] at H; exact absurd H (by simp)
     rw [if_pos c8] at H; have c8b0 := eq_true c8; have c8b1 : decide (0 ≤ x3_1) = true := decide_eq_true c8; clear c8
     by_cases c9 : x3_1 ≤ (l0.length : Int)
     rotate_left
     ·rw [if_neg c9] at H; exact absurd H (by simp)
     rw [if_pos c9] at H; have c9b0 := eq_true c9; have c9b1 : decide (x3_1 ≤ (l0.length : Int)) = true := decide_eq_true c9; clear c9; obtain ⟨y114, hy114⟩ : ∃ y_ : List Int, y_ = (l0.take (x3_1 : Int).toNat) := ⟨_, rfl⟩; (replace H : (some y114) = some r := by first | (rw [hy114]; with_reducible exact H) | (have H2_ := (Option.bind_some _ _).symm.trans H; rw [hy114]; with_reducible exact H2_) | (have H2_ := (Option.bind_some _ _).symm.trans H; with_reducible exact H2_) | with_reducible exact H | (rw [hy114]; exact H) | exact H); have Ny114 := m0 hy114; clear hy114; obtain rfl := Option.some.inj H; have p113 : 0 ≤ ((ji4) : Int) := of_decide_eq_true (by first | (with_reducible assumption) | assumption); have q113 : (ji4) < (l0.length : Int) := of_decide_eq_true (by first | (with_reducible assumption) | assumption); obtain ⟨ad113, e113, hx113_0⟩ := Kd.at_int (Kd.V_reads' HO_0.out).2.2 (ji4) p113 q113; cases e113; replace p113 := eq_true p113; replace q113 := eq_true q113; have q10 : (x3_1 : Int) ≤ ((l0.length : Int) : Int) := of_decide_eq_true (by first | (with_reducible assumption) | assumption); obtain ⟨i010, hi010, _, hsz10, _⟩ := info_parts info27; have hroom10 : l0.length ≤ c0 := (Kd.V_reads' HO_0.out).2.1; have hC10 : Kd.F (Kd.int .u64) _ _ (some ad113) l0.length l0 := (Kd.V_at (base := w.heap.size) HO_0.out).2.2; have hcut10 := cut_cap (P := Try.prog) 22 27 .i64 .i64 Try.underlying22 hi010 (some ad113) l0.length c0 x3_1 (of_decide_eq_true (by first | (with_reducible assumption) | assumption)) q10 hroom10; have hr10 := Kd.F_take (m := (x3_1 : Int).toNat) hC10 (by omega); have hy10 : y114.length = (x3_1 : Int).toNat := (by rw [Ny114.out, List.length_take]; omega); rw [← Ny114.out] at hr10; rw [← hy10] at hcut10; have a2 := m0 (show Kd.V (Kd.int .u64) 27 _ w.heap.size _ (.slice (some ad113) y114.length y114.length) y114 from Kd.V_mk (Nat.le_refl _) hr10); have HC118 := m0 (show y114.length ≤ y114.length from Nat.le_refl _); clear hr10 hC10 hroom10 hi010 hsz10; have KY10 := m0 hy10; clear hy10; replace q10 := eq_true q10; have hcz11_0 : wr.cell? ⟨g0, 0, none⟩ = some (.slice none 0 0) := bc b0; have hfz11_0 := blk_frozen b0.1 0
     go_wp2
     refine bodyPost_ret (results_cell_row rfl _ _ g0 25 #[.slice (some ad113) y114.length y114.length] (0, 0) _ rfl (by (with_reducible repeat (first | refine blk_drewN ?_ _ | refine blk_drew ?_ | refine blk_alloc ?_ _)); refine blk_put (cs := #[.slice none 0 0]) ?_ 0 _ rfl; (with_reducible repeat (first | refine blk_drewN ?_ _ | refine blk_drew ?_ | refine blk_alloc ?_ _)); exact b0.1) Try.underlying25 rfl kr) rfl ?_; exact ⟨_, by first | rfl | (simp [errW_none, errW_some] <;> rfl) | (simp only [← hji4]; first | rfl | (simp [errW_none, errW_some] <;> rfl)) | (simp [*, errW_none, errW_some] <;> rfl), by (with_reducible repeat (first | apply Kd.V_alloc | apply Kd.V_drewN | apply Kd.V_drew)); exact Kd.V_mono (Kd.V_far (p := ⟨g0, 0, none⟩) (Kd.V_mono a2.1 (fun _ hk => And.intro hk hk.2)) (fun _ hk => hk.2) (.slice (some ad113) y114.length y114.length)) (fun _ hk => hk.1.1), by repeat (first | (with_reducible first | exact HB.1 | apply below_alloc | apply pw_below_drewN | apply below_drew1 | refine below_set ?_ e0.1) | exact HB.1)⟩
   ·rw [if_neg c3] at H; have c3b0 : decide (0 < x3_1) = false := decide_eq_false c3; clear c3
    by_cases c12 : 0 ≤ x3_1
    rotate_left
    ·rw [if_neg c12] at H; exact absurd H (by simp)
    rw [if_pos c12] at H; have c12b0 := eq_true c12; have c12b1 : decide (0 ≤ x3_1) = true := decide_eq_true c12; clear c12
    by_cases c13 : x3_1 ≤ (l0.length : Int)
    rotate_left
    ·rw [if_neg c13] at H; exact absurd H (by simp)
    rw [if_pos c13] at H; have c13b0 := eq_true c13; have c13b1 : decide (x3_1 ≤ (l0.length : Int)) = true := decide_eq_true c13; clear c13; obtain ⟨y119, hy119⟩ : ∃ y_ : List Int, y_ = (l0.take (x3_1 : Int).toNat) := ⟨_, rfl⟩; (replace H : (some y119) = some r := by first | (rw [hy119]; with_reducible exact H) | (have H2_ := (Option.bind_some _ _).symm.trans H; rw [hy119]; with_reducible exact H2_) | (have H2_ := (Option.bind_some _ _).symm.trans H; with_reducible exact H2_) | with_reducible exact H | (rw [hy119]; exact H) | exact H); have Ny119 := m0 hy119; clear hy119; obtain rfl := Option.some.inj H; have q14 : (x3_1 : Int) ≤ ((l0.length : Int) : Int) := of_decide_eq_true (by first | (with_reducible assumption) | assumption); obtain ⟨i014, hi014, _, hsz14, _⟩ := info_parts info27; have hroom14 : l0.length ≤ c0 := (Kd.V_reads' HO_0.out).2.1; have hC14 : Kd.F (Kd.int .u64) _ _ A0 l0.length l0 := (Kd.V_at (base := w.heap.size) HO_0.out).2.2; have hcut14 := cut_cap (P := Try.prog) 22 27 .i64 .i64 Try.underlying22 hi014 A0 l0.length c0 x3_1 (of_decide_eq_true (by first | (with_reducible assumption) | assumption)) q14 hroom14; have hr14 := Kd.F_take (m := (x3_1 : Int).toNat) hC14 (by omega); have hy14 : y119.length = (x3_1 : Int).toNat := (by rw [Ny119.out, List.length_take]; omega); rw [← Ny119.out] at hr14; rw [← hy14] at hcut14; have a3 := m0 (show Kd.V (Kd.int .u64) 27 _ w.heap.size _ (.slice A0 y119.length y119.length) y119 from Kd.V_mk (Nat.le_refl _) hr14); have HC123 := m0 (show y119.length ≤ y119.length from Nat.le_refl _); clear hr14 hC14 hroom14 hi014 hsz14; have KY14 := m0 hy14; clear hy14; replace q14 := eq_true q14; have hcz15_0 : wr.cell? ⟨g0, 0, none⟩ = some (.slice none 0 0) := bc b0; have hfz15_0 := blk_frozen b0.1 0
    go_wp2
    refine bodyPost_ret (results_cell_row rfl _ _ g0 25 #[.slice A0 y119.length y119.length] (0, 0) _ rfl (by (with_reducible repeat (first | refine blk_drewN ?_ _ | refine blk_drew ?_ | refine blk_alloc ?_ _)); refine blk_put (cs := #[.slice none 0 0]) ?_ 0 _ rfl; (with_reducible repeat (first | refine blk_drewN ?_ _ | refine blk_drew ?_ | refine blk_alloc ?_ _)); exact b0.1) Try.underlying25 rfl kr) rfl ?_; exact ⟨_, by first | rfl | (simp [errW_none, errW_some] <;> rfl) | (simp [*, errW_none, errW_some] <;> rfl), by (with_reducible repeat (first | apply Kd.V_alloc | apply Kd.V_drewN | apply Kd.V_drew)); exact Kd.V_mono (Kd.V_far (p := ⟨g0, 0, none⟩) (Kd.V_mono a3.1 (fun _ hk => And.intro hk hk.2)) (fun _ hk => hk.2) (.slice A0 y119.length y119.length)) (fun _ hk => hk.1.1), by repeat (first | (with_reducible first | exact HB.1 | apply below_alloc | apply pw_below_drewN | apply below_drew1 | refine below_set ?_ e0.1) | exact HB.1)⟩
def nat_Of.f (k : Nat) (l0 : List Int) : Option (List Int) := (slices_Clone_uint64_uint64.f l0).bind fun t125 => ((nat_trimmed.f k t125).bind fun t128 => (some t128))
theorem nat_Of.mono : ∀ a0 k, LeO (nat_Of.f k a0) (nat_Of.f (k + 1) a0) := by
  intro a0 k; unfold nat_Of.f
  repeat' first
      | (with_reducible exact nat_trimmed.mono _ _)
      | (with_reducible exact LeO.refl _)
      | (with_reducible exact LeO.none _)
      | (with_reducible refine LeO.ite ?_ ?_)
      | (with_reducible refine LeO.bind ?_ (fun _ => ?_))
      | exact nat_trimmed.mono _ _
      | exact LeO.none _
      | refine LeO.ite ?_ ?_
      | refine LeO.bind ?_ (fun _ => ?_)
set_option maxHeartbeats 8000000 in
set_option maxRecDepth 100000 in
theorem nat_Of.calls (k : Nat) (A0 : Option Addr) (c0 : Nat) (l0 : List Int) (r : List Int) (w : World) (hr0 : Kd.C (Kd.int .u64) w A0 l0.length l0) (hc0 : l0.length ≤ c0) (h : nat_Of.f k l0 = some r) :
    Calls Try.prog 14 #[.slice A0 l0.length c0] w fun e w' => ∃ v0_ : Value, e = .returned (.agg #[v0_]) ∧ Kd.V (Kd.int .u64) 27 w' w.heap.size (fun k_ => (w.heap.size ≤ k_)) v0_ r ∧ Below w.heap.size w w' := by
  have hu25 := Try.underlying25; have HR0 := m0 hr0; have HC0 := m0 hc0; clear hr0 hc0; have HB := m0 (Below.refl w.heap.size w); have H : ((slices_Clone_uint64_uint64.f l0).bind fun t125 => ((nat_trimmed.f k t125).bind fun t128 => (some t128))) = some r := h; clear h; replace H := Option.bind_eq_some_iff.mp H; obtain ⟨t125, A20, H⟩ := H; replace H : ((nat_trimmed.f k t125).bind fun t128 => (some t128)) = some r := H; have A2 := m0 A20; clear A20; replace H := Option.bind_eq_some_iff.mp H; obtain ⟨t128, A30, H⟩ := H; replace H : (some t128) = some r := H; have A3 := m0 A30; clear A30; obtain rfl := Option.some.inj H
  go_enter Try.func14, Try.ntmps14
  go_wp2_with (first | ((with_reducible refine gate_dst (N := 2) rfl ?_); refine box_event rz (N := 2) rz (cs := #[.slice none 0 0]) (t := 25) gs_ ?_; intro g0 hg w4 hbox hb; have b0 := m0 hbox; have G0 := gz_ HB hg; have e0 := gz_ HB hg; replace HB := sa HB hb; clear hb hbox hg) | ((with_reducible refine gate_callee (f := 15) rfl ?_); refine goesL_ (some 4) rfl rfl Try.func15 kr rfl #[.slice A0 l0.length c0] rfl gm ?_; (with_reducible refine (slices_Clone_uint64_uint64.calls _ _ l0 t125 _ ?side1 ?side2 A2.1).mono ?_); (case side1 => repeat (first | exact (Kd.C_below HR0.1 HB.1) | (with_reducible refine Kd.C_alloc ?_ _) | (with_reducible refine Kd.C_drewN ?_ _) | (with_reducible refine Kd.C_drew ?_))); (case side2 => exact HC0.1); rintro e w5 ⟨v126, rfl, ho0, hb⟩; refine ⟨_, rfl, ?_⟩; have a1 := m0 (Kd.R_lower (Kd.R_newM (M := fun k_ => (w.heap.size ≤ k_)) ho0 (bz HB.1) (fun k_ h_ => h_)) (bz HB.1)); replace b0 := ba b0 hb; replace HB := sa HB hb; clear hb ho0; obtain ⟨D0, K0, j0⟩ := Kd.R_slice a1.1; subst j0) | ((with_reducible refine gate_callee (f := 42) rfl ?_); refine goesL_ (some 5) rfl rfl Try.func42 kr rfl #[.slice D0 t125.length K0] rfl gm ?_; (with_reducible refine (nat_trimmed.calls k (fun k_ => some k_ = (.slice D0 t125.length K0 : Value).ownBlock) _ _ t125 t128 _ ?side1 A3.1).mono ?_); (case side1 => exact Kd.R_V (Kd.R_tight rfl (Kd.R_types (a1.1) b0.1 (by decide)))); rintro e w7 ⟨v129, rfl, ho0, hb⟩; refine ⟨_, rfl, ?_⟩; have a2 := m0 (Kd.V_lower (Kd.V_mono (ok' := fun k_ => (w.heap.size ≤ k_) ∧ k_ ≠ g0) ho0 (fun k_ hk_ => ⟨Or.elim hk_ (fun hs_ => ((Kd.R_types (a1.1) b0.1 (by decide)).1 k_ hs_.symm).1.1) (fun hn_ => (Nat.le_trans (bz HB.1) hn_)), Or.elim hk_ (fun hs_ => ((Kd.R_types (a1.1) b0.1 (by decide)).1 k_ hs_.symm).2) (fun hn_ => (fb b0.1 k_ hn_))⟩)) (bz HB.1)); replace a1 := ra a1 hb; replace b0 := ba b0 hb; replace HB := sa HB hb; clear hb ho0; obtain ⟨D1, K1, j1⟩ := Kd.V_slice a2.1; subst j1; have hcz9_0 : w7.cell? ⟨g0, 0, none⟩ = some (.slice none 0 0) := bc b0; have hfz9_0 := blk_frozen b0.1 0))
  refine bodyPost_ret (results_cell_row rfl _ _ g0 25 #[.slice D1 t128.length K1] (0, 0) _ rfl (by (with_reducible repeat (first | refine blk_drewN ?_ _ | refine blk_drew ?_ | refine blk_alloc ?_ _)); refine blk_put (cs := #[.slice none 0 0]) ?_ 0 _ rfl; (with_reducible repeat (first | refine blk_drewN ?_ _ | refine blk_drew ?_ | refine blk_alloc ?_ _)); exact b0.1) Try.underlying25 rfl kr) rfl ?_; exact ⟨_, by first | rfl | (simp [errW_none, errW_some] <;> rfl) | (simp [*, errW_none, errW_some] <;> rfl), by (with_reducible repeat (first | apply Kd.V_alloc | apply Kd.V_drewN | apply Kd.V_drew)); exact Kd.V_mono (Kd.V_far (p := ⟨g0, 0, none⟩) (Kd.V_mono a2.1 (fun _ hk => And.intro hk hk.2)) (fun _ hk => hk.2) (.slice D1 t128.length K1)) (fun _ hk => hk.1.1), by repeat (first | (with_reducible first | exact HB.1 | apply below_alloc | apply pw_below_drewN | apply below_drew1 | refine below_set ?_ e0.1) | exact HB.1)⟩
def nat_Nat_Limbs.f (l0_0 : List Int) : Option (List Int) := (slices_Clone_uint64_uint64.f l0_0).bind fun t132 => (some t132)
set_option maxHeartbeats 8000000 in
set_option maxRecDepth 100000 in
theorem nat_Nat_Limbs.calls (A0_0 : Option Addr) (c0_0 : Nat) (l0_0 : List Int) (r : List Int) (w : World) (hr0_0 : Kd.C (Kd.int .u64) w A0_0 l0_0.length l0_0) (hc0_0 : l0_0.length ≤ c0_0) (h : nat_Nat_Limbs.f l0_0 = some r) :
    Calls Try.prog 16 #[.agg #[.slice A0_0 l0_0.length c0_0]] w fun e w' => ∃ v0_ : Value, e = .returned (v0_) ∧ Kd.R (Kd.int .u64) 27 w' w.heap.size (fun _ => True) v0_ r ∧ Below w.heap.size w w' := by
  have hu25 := Try.underlying25; have HR0_0 := m0 hr0_0; have HC0_0 := m0 hc0_0; clear hr0_0 hc0_0; have HB := m0 (Below.refl w.heap.size w); have H : ((slices_Clone_uint64_uint64.f l0_0).bind fun t132 => (some t132)) = some r := h; clear h; replace H := Option.bind_eq_some_iff.mp H; obtain ⟨t132, A20, H⟩ := H; replace H : (some t132) = some r := H; have A2 := m0 A20; clear A20; obtain rfl := Option.some.inj H
  go_enter Try.func16, Try.ntmps16
  go_wp2_with (first | ((with_reducible refine gate_dst (N := 1) rfl ?_); refine box_event rz (N := 1) rz (cs := #[.slice A0_0 l0_0.length c0_0]) (t := 25) gs_ ?_; intro g0 hg w3 hbox hb; have b0 := m0 hbox; have G0 := gz_ HB hg; have e0 := gz_ HB hg; replace HB := sa HB hb; clear hb hbox hg; have hcz4_0 : w3.cell? ⟨g0, 0, none⟩ = some (.slice A0_0 l0_0.length c0_0) := bc b0; have hfz4_0 := blk_frozen b0.1 0) | ((with_reducible refine gate_callee (f := 15) rfl ?_); refine goesL_ (some 5) rfl rfl Try.func15 kr rfl #[.slice A0_0 l0_0.length c0_0] rfl gm ?_; (with_reducible refine (slices_Clone_uint64_uint64.calls _ _ l0_0 t132 _ ?side1 ?side2 A2.1).mono ?_); (case side1 => repeat (first | exact (Kd.C_below HR0_0.out HB.1) | (with_reducible refine Kd.C_alloc ?_ _) | (with_reducible refine Kd.C_drewN ?_ _) | (with_reducible refine Kd.C_drew ?_))); (case side2 => exact HC0_0.out); rintro e w5 ⟨v133, rfl, ho0, hb⟩; refine ⟨_, rfl, ?_⟩; have a0 := m0 (Kd.R_lower ho0 (bz HB.1)); replace b0 := ba b0 hb; replace HB := sa HB hb; clear hb ho0))
  go_ret
  exact ⟨_, by first | rfl | (simp [errW_none, errW_some] <;> rfl) | (simp [*, errW_none, errW_some] <;> rfl), by (with_reducible repeat (first | apply Kd.R_alloc | apply Kd.R_drewN | apply Kd.R_drew)); exact a0.1, by repeat (first | (with_reducible first | exact HB.1 | apply below_alloc | apply pw_below_drewN | apply below_drew1 | refine below_set ?_ e0.1) | exact HB.1)⟩
def nat_Nat_Zero.f (l0_0 : List Int) : Option (Bool) := some ((l0_0.length : Int) == 0)
set_option maxHeartbeats 8000000 in
set_option maxRecDepth 100000 in
theorem nat_Nat_Zero.calls (A0_0 : Option Addr) (c0_0 : Nat) (l0_0 : List Int) (r : Bool) (w : World) (hr0_0 : Kd.C (Kd.int .u64) w A0_0 l0_0.length l0_0) (hc0_0 : l0_0.length ≤ c0_0) (h : nat_Nat_Zero.f l0_0 = some r) :
    Calls Try.prog 18 #[.agg #[.slice A0_0 l0_0.length c0_0]] w fun e w' => e = .returned (.bool r) ∧ Below w.heap.size w w' := by
  have hu25 := Try.underlying25; have HR0_0 := m0 hr0_0; have HC0_0 := m0 hc0_0; clear hr0_0 hc0_0; have HB := m0 (Below.refl w.heap.size w); have H : (some ((l0_0.length : Int) == 0)) = some r := h; clear h; obtain rfl := Option.some.inj H
  go_enter Try.func18, Try.ntmps18
  go_wp2_with (first | ((with_reducible refine gate_dst (N := 1) rfl ?_); refine box_event rz (N := 1) rz (cs := #[.slice A0_0 l0_0.length c0_0]) (t := 25) gs_ ?_; intro g0 hg w2 hbox hb; have b0 := m0 hbox; have G0 := gz_ HB hg; have e0 := gz_ HB hg; replace HB := sa HB hb; clear hb hbox hg; have hcz3_0 : w2.cell? ⟨g0, 0, none⟩ = some (.slice A0_0 l0_0.length c0_0) := bc b0; have hfz3_0 := blk_frozen b0.1 0))
  go_ret
  exact ⟨by first | rfl | (simp [errW_none, errW_some] <;> rfl) | (simp [*, errW_none, errW_some] <;> rfl), by repeat (first | (with_reducible first | exact HB.1 | apply below_alloc | apply pw_below_drewN | apply below_drew1 | refine below_set ?_ e0.1) | exact HB.1)⟩
def bits_Len64.j0 : Nat → Int → Int → Option (Int)
 | 0, _, _ => none
 | k + 1, x0, x2 => if x0 ≥ 65536 then (if (x0 / 65536) ≥ 256 then (if 0 ≤ (((x0 / 65536) / 256) % 256) then (if (((x0 / 65536) / 256) % 256) < 256 then (some (wrap64 ((wrap64 ((wrap64 (x2 + 16)) + 8)) + (wrap64 (bt (⟨#[0, 1, 2, 2, 3, 3, 3, 3, 4, 4, 4, 4, 4, 4, 4, 4, 5, 5, 5, 5, 5, 5, 5, 5, 5, 5, 5, 5, 5, 5, 5, 5, 6, 6, 6, 6, 6, 6, 6, 6, 6, 6, 6, 6, 6, 6, 6, 6, 6, 6, 6, 6, 6, 6, 6, 6, 6, 6, 6, 6, 6, 6, 6, 6, 7, 7, 7, 7, 7, 7, 7, 7, 7, 7, 7, 7, 7, 7, 7, 7, 7, 7, 7, 7, 7, 7, 7, 7, 7, 7, 7, 7, 7, 7, 7, 7, 7, 7, 7, 7, 7, 7, 7, 7, 7, 7, 7, 7, 7, 7, 7, 7, 7, 7, 7, 7, 7, 7, 7, 7, 7, 7, 7, 7, 7, 7, 7, 7, 8, 8, 8, 8, 8, 8, 8, 8, 8, 8, 8, 8, 8, 8, 8, 8, 8, 8, 8, 8, 8, 8, 8, 8, 8, 8, 8, 8, 8, 8, 8, 8, 8, 8, 8, 8, 8, 8, 8, 8, 8, 8, 8, 8, 8, 8, 8, 8, 8, 8, 8, 8, 8, 8, 8, 8, 8, 8, 8, 8, 8, 8, 8, 8, 8, 8, 8, 8, 8, 8, 8, 8, 8, 8, 8, 8, 8, 8, 8, 8, 8, 8, 8, 8, 8, 8, 8, 8, 8, 8, 8, 8, 8, 8, 8, 8, 8, 8, 8, 8, 8, 8, 8, 8, 8, 8, 8, 8, 8, 8, 8, 8, 8, 8, 8, 8, 8, 8, 8, 8, 8, 8, 8, 8, 8, 8, 8, 8]⟩ : ByteArray) (((x0 / 65536) / 256) % 256)))))) else (none)) else (none)) else (if 0 ≤ ((x0 / 65536) % 256) then (if ((x0 / 65536) % 256) < 256 then (some (wrap64 ((wrap64 (x2 + 16)) + (wrap64 (bt (⟨#[0, 1, 2, 2, 3, 3, 3, 3, 4, 4, 4, 4, 4, 4, 4, 4, 5, 5, 5, 5, 5, 5, 5, 5, 5, 5, 5, 5, 5, 5, 5, 5, 6, 6, 6, 6, 6, 6, 6, 6, 6, 6, 6, 6, 6, 6, 6, 6, 6, 6, 6, 6, 6, 6, 6, 6, 6, 6, 6, 6, 6, 6, 6, 6, 7, 7, 7, 7, 7, 7, 7, 7, 7, 7, 7, 7, 7, 7, 7, 7, 7, 7, 7, 7, 7, 7, 7, 7, 7, 7, 7, 7, 7, 7, 7, 7, 7, 7, 7, 7, 7, 7, 7, 7, 7, 7, 7, 7, 7, 7, 7, 7, 7, 7, 7, 7, 7, 7, 7, 7, 7, 7, 7, 7, 7, 7, 7, 7, 8, 8, 8, 8, 8, 8, 8, 8, 8, 8, 8, 8, 8, 8, 8, 8, 8, 8, 8, 8, 8, 8, 8, 8, 8, 8, 8, 8, 8, 8, 8, 8, 8, 8, 8, 8, 8, 8, 8, 8, 8, 8, 8, 8, 8, 8, 8, 8, 8, 8, 8, 8, 8, 8, 8, 8, 8, 8, 8, 8, 8, 8, 8, 8, 8, 8, 8, 8, 8, 8, 8, 8, 8, 8, 8, 8, 8, 8, 8, 8, 8, 8, 8, 8, 8, 8, 8, 8, 8, 8, 8, 8, 8, 8, 8, 8, 8, 8, 8, 8, 8, 8, 8, 8, 8, 8, 8, 8, 8, 8, 8, 8, 8, 8, 8, 8, 8, 8, 8, 8, 8, 8, 8, 8, 8, 8, 8, 8]⟩ : ByteArray) ((x0 / 65536) % 256)))))) else (none)) else (none))) else (if x0 ≥ 256 then (if 0 ≤ ((x0 / 256) % 256) then (if ((x0 / 256) % 256) < 256 then (some (wrap64 ((wrap64 (x2 + 8)) + (wrap64 (bt (⟨#[0, 1, 2, 2, 3, 3, 3, 3, 4, 4, 4, 4, 4, 4, 4, 4, 5, 5, 5, 5, 5, 5, 5, 5, 5, 5, 5, 5, 5, 5, 5, 5, 6, 6, 6, 6, 6, 6, 6, 6, 6, 6, 6, 6, 6, 6, 6, 6, 6, 6, 6, 6, 6, 6, 6, 6, 6, 6, 6, 6, 6, 6, 6, 6, 7, 7, 7, 7, 7, 7, 7, 7, 7, 7, 7, 7, 7, 7, 7, 7, 7, 7, 7, 7, 7, 7, 7, 7, 7, 7, 7, 7, 7, 7, 7, 7, 7, 7, 7, 7, 7, 7, 7, 7, 7, 7, 7, 7, 7, 7, 7, 7, 7, 7, 7, 7, 7, 7, 7, 7, 7, 7, 7, 7, 7, 7, 7, 7, 8, 8, 8, 8, 8, 8, 8, 8, 8, 8, 8, 8, 8, 8, 8, 8, 8, 8, 8, 8, 8, 8, 8, 8, 8, 8, 8, 8, 8, 8, 8, 8, 8, 8, 8, 8, 8, 8, 8, 8, 8, 8, 8, 8, 8, 8, 8, 8, 8, 8, 8, 8, 8, 8, 8, 8, 8, 8, 8, 8, 8, 8, 8, 8, 8, 8, 8, 8, 8, 8, 8, 8, 8, 8, 8, 8, 8, 8, 8, 8, 8, 8, 8, 8, 8, 8, 8, 8, 8, 8, 8, 8, 8, 8, 8, 8, 8, 8, 8, 8, 8, 8, 8, 8, 8, 8, 8, 8, 8, 8, 8, 8, 8, 8, 8, 8, 8, 8, 8, 8, 8, 8, 8, 8, 8, 8, 8, 8]⟩ : ByteArray) ((x0 / 256) % 256)))))) else (none)) else (none)) else (if 0 ≤ ((x0) % 256) then (if ((x0) % 256) < 256 then (some (wrap64 (x2 + (wrap64 (bt (⟨#[0, 1, 2, 2, 3, 3, 3, 3, 4, 4, 4, 4, 4, 4, 4, 4, 5, 5, 5, 5, 5, 5, 5, 5, 5, 5, 5, 5, 5, 5, 5, 5, 6, 6, 6, 6, 6, 6, 6, 6, 6, 6, 6, 6, 6, 6, 6, 6, 6, 6, 6, 6, 6, 6, 6, 6, 6, 6, 6, 6, 6, 6, 6, 6, 7, 7, 7, 7, 7, 7, 7, 7, 7, 7, 7, 7, 7, 7, 7, 7, 7, 7, 7, 7, 7, 7, 7, 7, 7, 7, 7, 7, 7, 7, 7, 7, 7, 7, 7, 7, 7, 7, 7, 7, 7, 7, 7, 7, 7, 7, 7, 7, 7, 7, 7, 7, 7, 7, 7, 7, 7, 7, 7, 7, 7, 7, 7, 7, 8, 8, 8, 8, 8, 8, 8, 8, 8, 8, 8, 8, 8, 8, 8, 8, 8, 8, 8, 8, 8, 8, 8, 8, 8, 8, 8, 8, 8, 8, 8, 8, 8, 8, 8, 8, 8, 8, 8, 8, 8, 8, 8, 8, 8, 8, 8, 8, 8, 8, 8, 8, 8, 8, 8, 8, 8, 8, 8, 8, 8, 8, 8, 8, 8, 8, 8, 8, 8, 8, 8, 8, 8, 8, 8, 8, 8, 8, 8, 8, 8, 8, 8, 8, 8, 8, 8, 8, 8, 8, 8, 8, 8, 8, 8, 8, 8, 8, 8, 8, 8, 8, 8, 8, 8, 8, 8, 8, 8, 8, 8, 8, 8, 8, 8, 8, 8, 8, 8, 8, 8, 8, 8, 8, 8, 8, 8, 8]⟩ : ByteArray) ((x0) % 256)))))) else (none)) else (none)))
def bits_Len64.f (k : Nat) (a0 : Int) : Option (Int) := if a0 ≥ 4294967296 then (bits_Len64.j0 k (a0 / 4294967296) 32) else (bits_Len64.j0 k a0 0)
theorem bits_Len64.mono_l : ∀ k, (∀ y0 y1, LeO (bits_Len64.j0 k y0 y1) (bits_Len64.j0 (k + 1) y0 y1))
 | 0 => fun _ _ r h => by simp [bits_Len64.j0] at h
 | k + 1 => by
  have ih0 := bits_Len64.mono_l k
  ·intro y0 y1; unfold bits_Len64.j0
   repeat' first
   | (with_reducible exact ih0 _ _)
   | (with_reducible exact LeO.refl _)
   | (with_reducible exact LeO.none _)
   | (with_reducible refine LeO.ite ?_ ?_)
   | (with_reducible refine LeO.bind ?_ (fun _ => ?_))
   | exact ih0 _ _
   | exact LeO.none _
   | refine LeO.ite ?_ ?_
   | refine LeO.bind ?_ (fun _ => ?_)
theorem bits_Len64.mono : ∀ a0 k, LeO (bits_Len64.f k a0) (bits_Len64.f (k + 1) a0) := by
 intro a0 k; have ih0 := bits_Len64.mono_l k; unfold bits_Len64.f
 repeat' first
   | (with_reducible exact ih0 _ _)
   | (with_reducible exact LeO.refl _)
   | (with_reducible exact LeO.none _)
   | (with_reducible refine LeO.ite ?_ ?_)
   | (with_reducible refine LeO.bind ?_ (fun _ => ?_))
   | exact ih0 _ _
   | exact LeO.none _
   | refine LeO.ite ?_ ?_
   | refine LeO.bind ?_ (fun _ => ?_)
set_option maxHeartbeats 8000000 in
set_option maxRecDepth 100000 in
theorem bits_Len64.calls (k : Nat) (a0 : Int) (r : Int) (w : World) (h : bits_Len64.f k a0 = some r) :
  Calls Try.prog 43 #[.int .u64 a0] w fun e w' => e = .returned (.int .i64 r) ∧ Drawn0 w w' := by
 have H : (if a0 ≥ 4294967296 then (bits_Len64.j0 k (a0 / 4294967296) 32) else (bits_Len64.j0 k a0 0)) = some r := h; clear h; have HC2 := m0 H; clear H
 go_enter Try.func43, Try.ntmps43
 go_upto_if 4 with (fail)
 go_cut [0, 2] (fun v0 v2 wc => ∃ (kq : Nat) (x0_1 : Int) (x2_1 : Int), v0 = .int .u64 x0_1 ∧ v2 = .int .i64 x2_1 ∧ Aside0 (bits_Len64.j0 kq x0_1 x2_1 = some r) ∧ Aside0 (kq ≤ k) ∧ Drawn0 w wc)
 case first =>
  have H := HC2.1; clear HC2
  by_cases c3 : a0 ≥ 4294967296
  ·rw [if_pos c3] at H; have c3b0 : decide (4294967296 ≤ a0) = true := decide_eq_true c3; clear c3; (first | rw [c3b0] | (simp only [i64_w, i32_w]; rw [c3b0]) | skip); have H' := m0 H; clear H
   go_wp2
   (refine Met.intro ?_; go_step; (repeat apply Exists.intro); refine ⟨?rel, ?frame⟩)
   case frame => first | rfl | (rw [c3b0]; first | done | rfl) | (simp only [c3b0]; first | done | rfl)
   case rel => exact ⟨_, (a0 / 4294967296), (32), (by first | rfl | (simp; done) | (simp [*]; done)), (by first | rfl | (simp; done) | (simp [*]; done)), H', ⟨by first | omega | exact Nat.le_refl _⟩, by repeat (first | exact Drawn0.refl _ | apply Drawn0.step)⟩
  ·rw [if_neg c3] at H; have c3b0 : decide (4294967296 ≤ a0) = false := decide_eq_false c3; clear c3; (first | rw [c3b0] | (simp only [i64_w, i32_w]; rw [c3b0]) | skip); have H' := m0 H; clear H
   go_wp2
   (refine Met.intro ?_; go_step; (repeat apply Exists.intro); refine ⟨?rel, ?frame⟩)
   case frame => first | rfl | (rw [c3b0]; first | done | rfl) | (simp only [c3b0]; first | done | rfl)
   case rel => exact ⟨_, (a0), (0), (by first | rfl | (simp; done) | (simp [*]; done)), (by first | rfl | (simp; done) | (simp [*]; done)), H', ⟨by first | omega | exact Nat.le_refl _⟩, by repeat (first | exact Drawn0.refl _ | apply Drawn0.step)⟩
 case rest =>
  clear HC2; (try clear p2); (try clear c3); (try clear c3b0); obtain ⟨kq, x0_1, x2_1, rfl, rfl, HA, HJ1, ⟨mc1, rfl⟩⟩ := hcut; cases kq with
  | zero => exact absurd HA.out (by simp [bits_Len64.j0])
  | succ kj1 =>
   have H := HA.out; clear HA; simp only [bits_Len64.j0] at H
   by_cases c4 : x0_1 ≥ 65536
   ·rw [if_pos c4] at H; have c4b0 : decide (65536 ≤ x0_1) = true := decide_eq_true c4; clear c4
    by_cases c5 : (x0_1 / 65536) ≥ 256
    ·rw [if_pos c5] at H; have c5b0 : decide (256 ≤ (x0_1 / 65536)) = true := decide_eq_true c5; clear c5; obtain ⟨ji6, hji6⟩ : ∃ j_ : Int, (((x0_1 / 65536) / 256) % 256) = j_ := ⟨_, rfl⟩; replace H : (if 0 ≤ (ji6) then (if (ji6) < 256 then (some (wrap64 ((wrap64 ((wrap64 (x2_1 + 16)) + 8)) + (wrap64 (bt (⟨#[0, 1, 2, 2, 3, 3, 3, 3, 4, 4, 4, 4, 4, 4, 4, 4, 5, 5, 5, 5, 5, 5, 5, 5, 5, 5, 5, 5, 5, 5, 5, 5, 6, 6, 6, 6, 6, 6, 6, 6, 6, 6, 6, 6, 6, 6, 6, 6, 6, 6, 6, 6, 6, 6, 6, 6, 6, 6, 6, 6, 6, 6, 6, 6, 7, 7, 7, 7, 7, 7, 7, 7, 7, 7, 7, 7, 7, 7, 7, 7, 7, 7, 7, 7, 7, 7, 7, 7, 7, 7, 7, 7, 7, 7, 7, 7, 7, 7, 7, 7, 7, 7, 7, 7, 7, 7, 7, 7, 7, 7, 7, 7, 7, 7, 7, 7, 7, 7, 7, 7, 7, 7, 7, 7, 7, 7, 7, 7, 8, 8, 8, 8, 8, 8, 8, 8, 8, 8, 8, 8, 8, 8, 8, 8, 8, 8, 8, 8, 8, 8, 8, 8, 8, 8, 8, 8, 8, 8, 8, 8, 8, 8, 8, 8, 8, 8, 8, 8, 8, 8, 8, 8, 8, 8, 8, 8, 8, 8, 8, 8, 8, 8, 8, 8, 8, 8, 8, 8, 8, 8, 8, 8, 8, 8, 8, 8, 8, 8, 8, 8, 8, 8, 8, 8, 8, 8, 8, 8, 8, 8, 8, 8, 8, 8, 8, 8, 8, 8, 8, 8, 8, 8, 8, 8, 8, 8, 8, 8, 8, 8, 8, 8, 8, 8, 8, 8, 8, 8, 8, 8, 8, 8, 8, 8, 8, 8, 8, 8, 8, 8, 8, 8, 8, 8, 8, 8]⟩ : ByteArray) (ji6)))))) else (none)) else (none)) = some r := by first | (rw [hji6] at H; exact H) | (simp only [hji6] at H ⊢; exact H)
     by_cases c7 : 0 ≤ (ji6)
     rotate_left
     ·rw [if_neg c7] at H; exact absurd H (by simp)
     rw [if_pos c7] at H; have c7b0 : decide (0 ≤ (ji6)) = true := decide_eq_true c7; clear c7
     by_cases c8 : (ji6) < 256
     rotate_left
     ·rw [if_neg c8] at H; exact absurd H (by simp)
     rw [if_pos c8] at H; have c8b0 : decide ((ji6) < 256) = true := decide_eq_true c8; clear c8; obtain rfl := Option.some.inj H; have p9 : 0 ≤ ((ji6) : Int) := of_decide_eq_true (by first | (with_reducible assumption) | assumption); have q9 : (ji6) < (256 : Int) := of_decide_eq_true (by first | (with_reducible assumption) | assumption); have hx9 := bt_at (⟨#[0, 1, 2, 2, 3, 3, 3, 3, 4, 4, 4, 4, 4, 4, 4, 4, 5, 5, 5, 5, 5, 5, 5, 5, 5, 5, 5, 5, 5, 5, 5, 5, 6, 6, 6, 6, 6, 6, 6, 6, 6, 6, 6, 6, 6, 6, 6, 6, 6, 6, 6, 6, 6, 6, 6, 6, 6, 6, 6, 6, 6, 6, 6, 6, 7, 7, 7, 7, 7, 7, 7, 7, 7, 7, 7, 7, 7, 7, 7, 7, 7, 7, 7, 7, 7, 7, 7, 7, 7, 7, 7, 7, 7, 7, 7, 7, 7, 7, 7, 7, 7, 7, 7, 7, 7, 7, 7, 7, 7, 7, 7, 7, 7, 7, 7, 7, 7, 7, 7, 7, 7, 7, 7, 7, 7, 7, 7, 7, 8, 8, 8, 8, 8, 8, 8, 8, 8, 8, 8, 8, 8, 8, 8, 8, 8, 8, 8, 8, 8, 8, 8, 8, 8, 8, 8, 8, 8, 8, 8, 8, 8, 8, 8, 8, 8, 8, 8, 8, 8, 8, 8, 8, 8, 8, 8, 8, 8, 8, 8, 8, 8, 8, 8, 8, 8, 8, 8, 8, 8, 8, 8, 8, 8, 8, 8, 8, 8, 8, 8, 8, 8, 8, 8, 8, 8, 8, 8, 8, 8, 8, 8, 8, 8, 8, 8, 8, 8, 8, 8, 8, 8, 8, 8, 8, 8, 8, 8, 8, 8, 8, 8, 8, 8, 8, 8, 8, 8, 8, 8, 8, 8, 8, 8, 8, 8, 8, 8, 8, 8, 8, 8, 8, 8, 8, 8, 8]⟩ : ByteArray) (ji6); replace p9 := eq_true p9; replace q9 := eq_true q9
     go_wp2
     go_ret
     exact ⟨by first | rfl | (simp; done) | (simp only [← hji6] <;> (first | rfl | simp)) | (simp [*]; done), by repeat (first | exact Drawn0.refl _ | apply Drawn0.step)⟩
    ·rw [if_neg c5] at H; have c5b0 : decide (256 ≤ (x0_1 / 65536)) = false := decide_eq_false c5; clear c5; obtain ⟨ji10, hji10⟩ : ∃ j_ : Int, ((x0_1 / 65536) % 256) = j_ := ⟨_, rfl⟩; replace H : (if 0 ≤ (ji10) then (if (ji10) < 256 then (some (wrap64 ((wrap64 (x2_1 + 16)) + (wrap64 (bt (⟨#[0, 1, 2, 2, 3, 3, 3, 3, 4, 4, 4, 4, 4, 4, 4, 4, 5, 5, 5, 5, 5, 5, 5, 5, 5, 5, 5, 5, 5, 5, 5, 5, 6, 6, 6, 6, 6, 6, 6, 6, 6, 6, 6, 6, 6, 6, 6, 6, 6, 6, 6, 6, 6, 6, 6, 6, 6, 6, 6, 6, 6, 6, 6, 6, 7, 7, 7, 7, 7, 7, 7, 7, 7, 7, 7, 7, 7, 7, 7, 7, 7, 7, 7, 7, 7, 7, 7, 7, 7, 7, 7, 7, 7, 7, 7, 7, 7, 7, 7, 7, 7, 7, 7, 7, 7, 7, 7, 7, 7, 7, 7, 7, 7, 7, 7, 7, 7, 7, 7, 7, 7, 7, 7, 7, 7, 7, 7, 7, 8, 8, 8, 8, 8, 8, 8, 8, 8, 8, 8, 8, 8, 8, 8, 8, 8, 8, 8, 8, 8, 8, 8, 8, 8, 8, 8, 8, 8, 8, 8, 8, 8, 8, 8, 8, 8, 8, 8, 8, 8, 8, 8, 8, 8, 8, 8, 8, 8, 8, 8, 8, 8, 8, 8, 8, 8, 8, 8, 8, 8, 8, 8, 8, 8, 8, 8, 8, 8, 8, 8, 8, 8, 8, 8, 8, 8, 8, 8, 8, 8, 8, 8, 8, 8, 8, 8, 8, 8, 8, 8, 8, 8, 8, 8, 8, 8, 8, 8, 8, 8, 8, 8, 8, 8, 8, 8, 8, 8, 8, 8, 8, 8, 8, 8, 8, 8, 8, 8, 8, 8, 8, 8, 8, 8, 8, 8, 8]⟩ : ByteArray) (ji10)))))) else (none)) else (none)) = some r := by first | (rw [hji10] at H; exact H) | (simp only [hji10] at H ⊢; exact H)
     by_cases c11 : 0 ≤ (ji10)
     rotate_left
     ·rw [if_neg c11] at H; exact absurd H (by simp)
     rw [if_pos c11] at H; have c11b0 : decide (0 ≤ (ji10)) = true := decide_eq_true c11; clear c11
     by_cases c12 : (ji10) < 256
     rotate_left
     ·rw [if_neg c12] at H; exact absurd H (by simp)
     rw [if_pos c12] at H; have c12b0 : decide ((ji10) < 256) = true := decide_eq_true c12; clear c12; obtain rfl := Option.some.inj H; have p13 : 0 ≤ ((ji10) : Int) := of_decide_eq_true (by first | (with_reducible assumption) | assumption); have q13 : (ji10) < (256 : Int) := of_decide_eq_true (by first | (with_reducible assumption) | assumption); have hx13 := bt_at (⟨#[0, 1, 2, 2, 3, 3, 3, 3, 4, 4, 4, 4, 4, 4, 4, 4, 5, 5, 5, 5, 5, 5, 5, 5, 5, 5, 5, 5, 5, 5, 5, 5, 6, 6, 6, 6, 6, 6, 6, 6, 6, 6, 6, 6, 6, 6, 6, 6, 6, 6, 6, 6, 6, 6, 6, 6, 6, 6, 6, 6, 6, 6, 6, 6, 7, 7, 7, 7, 7, 7, 7, 7, 7, 7, 7, 7, 7, 7, 7, 7, 7, 7, 7, 7, 7, 7, 7, 7, 7, 7, 7, 7, 7, 7, 7, 7, 7, 7, 7, 7, 7, 7, 7, 7, 7, 7, 7, 7, 7, 7, 7, 7, 7, 7, 7, 7, 7, 7, 7, 7, 7, 7, 7, 7, 7, 7, 7, 7, 8, 8, 8, 8, 8, 8, 8, 8, 8, 8, 8, 8, 8, 8, 8, 8, 8, 8, 8, 8, 8, 8, 8, 8, 8, 8, 8, 8, 8, 8, 8, 8, 8, 8, 8, 8, 8, 8, 8, 8, 8, 8, 8, 8, 8, 8, 8, 8, 8, 8, 8, 8, 8, 8, 8, 8, 8, 8, 8, 8, 8, 8, 8, 8, 8, 8, 8, 8, 8, 8, 8, 8, 8, 8, 8, 8, 8, 8, 8, 8, 8, 8, 8, 8, 8, 8, 8, 8, 8, 8, 8, 8, 8, 8, 8, 8, 8, 8, 8, 8, 8, 8, 8, 8, 8, 8, 8, 8, 8, 8, 8, 8, 8, 8, 8, 8, 8, 8, 8, 8, 8, 8, 8, 8, 8, 8, 8, 8]⟩ : ByteArray) (ji10); replace p13 := eq_true p13; replace q13 := eq_true q13
     go_wp2
     go_ret
     exact ⟨by first | rfl | (simp; done) | (simp only [← hji10] <;> (first | rfl | simp)) | (simp [*]; done), by repeat (first | exact Drawn0.refl _ | apply Drawn0.step)⟩
   ·rw [if_neg c4] at H; have c4b0 : decide (65536 ≤ x0_1) = false := decide_eq_false c4; clear c4
    by_cases c14 : x0_1 ≥ 256
    ·rw [if_pos c14] at H; have c14b0 : decide (256 ≤ x0_1) = true := decide_eq_true c14; clear c14; obtain ⟨ji15, hji15⟩ : ∃ j_ : Int, ((x0_1 / 256) % 256) = j_ := ⟨_, rfl⟩; replace H : (if 0 ≤ (ji15) then (if (ji15) < 256 then (some (wrap64 ((wrap64 (x2_1 + 8)) + (wrap64 (bt (⟨#[0, 1, 2, 2, 3, 3, 3, 3, 4, 4, 4, 4, 4, 4, 4, 4, 5, 5, 5, 5, 5, 5, 5, 5, 5, 5, 5, 5, 5, 5, 5, 5, 6, 6, 6, 6, 6, 6, 6, 6, 6, 6, 6, 6, 6, 6, 6, 6, 6, 6, 6, 6, 6, 6, 6, 6, 6, 6, 6, 6, 6, 6, 6, 6, 7, 7, 7, 7, 7, 7, 7, 7, 7, 7, 7, 7, 7, 7, 7, 7, 7, 7, 7, 7, 7, 7, 7, 7, 7, 7, 7, 7, 7, 7, 7, 7, 7, 7, 7, 7, 7, 7, 7, 7, 7, 7, 7, 7, 7, 7, 7, 7, 7, 7, 7, 7, 7, 7, 7, 7, 7, 7, 7, 7, 7, 7, 7, 7, 8, 8, 8, 8, 8, 8, 8, 8, 8, 8, 8, 8, 8, 8, 8, 8, 8, 8, 8, 8, 8, 8, 8, 8, 8, 8, 8, 8, 8, 8, 8, 8, 8, 8, 8, 8, 8, 8, 8, 8, 8, 8, 8, 8, 8, 8, 8, 8, 8, 8, 8, 8, 8, 8, 8, 8, 8, 8, 8, 8, 8, 8, 8, 8, 8, 8, 8, 8, 8, 8, 8, 8, 8, 8, 8, 8, 8, 8, 8, 8, 8, 8, 8, 8, 8, 8, 8, 8, 8, 8, 8, 8, 8, 8, 8, 8, 8, 8, 8, 8, 8, 8, 8, 8, 8, 8, 8, 8, 8, 8, 8, 8, 8, 8, 8, 8, 8, 8, 8, 8, 8, 8, 8, 8, 8, 8, 8, 8]⟩ : ByteArray) (ji15)))))) else (none)) else (none)) = some r := by first | (rw [hji15] at H; exact H) | (simp only [hji15] at H ⊢; exact H)
     by_cases c16 : 0 ≤ (ji15)
     rotate_left
     ·rw [if_neg c16] at H; exact absurd H (by simp)
     rw [if_pos c16] at H; have c16b0 : decide (0 ≤ (ji15)) = true := decide_eq_true c16; clear c16
     by_cases c17 : (ji15) < 256
     rotate_left
     ·rw [if_neg c17] at H; exact absurd H (by simp)
     rw [if_pos c17] at H; have c17b0 : decide ((ji15) < 256) = true := decide_eq_true c17; clear c17; obtain rfl := Option.some.inj H; have p18 : 0 ≤ ((ji15) : Int) := of_decide_eq_true (by first | (with_reducible assumption) | assumption); have q18 : (ji15) < (256 : Int) := of_decide_eq_true (by first | (with_reducible assumption) | assumption); have hx18 := bt_at (⟨#[0, 1, 2, 2, 3, 3, 3, 3, 4, 4, 4, 4, 4, 4, 4, 4, 5, 5, 5, 5, 5, 5, 5, 5, 5, 5, 5, 5, 5, 5, 5, 5, 6, 6, 6, 6, 6, 6, 6, 6, 6, 6, 6, 6, 6, 6, 6, 6, 6, 6, 6, 6, 6, 6, 6, 6, 6, 6, 6, 6, 6, 6, 6, 6, 7, 7, 7, 7, 7, 7, 7, 7, 7, 7, 7, 7, 7, 7, 7, 7, 7, 7, 7, 7, 7, 7, 7, 7, 7, 7, 7, 7, 7, 7, 7, 7, 7, 7, 7, 7, 7, 7, 7, 7, 7, 7, 7, 7, 7, 7, 7, 7, 7, 7, 7, 7, 7, 7, 7, 7, 7, 7, 7, 7, 7, 7, 7, 7, 8, 8, 8, 8, 8, 8, 8, 8, 8, 8, 8, 8, 8, 8, 8, 8, 8, 8, 8, 8, 8, 8, 8, 8, 8, 8, 8, 8, 8, 8, 8, 8, 8, 8, 8, 8, 8, 8, 8, 8, 8, 8, 8, 8, 8, 8, 8, 8, 8, 8, 8, 8, 8, 8, 8, 8, 8, 8, 8, 8, 8, 8, 8, 8, 8, 8, 8, 8, 8, 8, 8, 8, 8, 8, 8, 8, 8, 8, 8, 8, 8, 8, 8, 8, 8, 8, 8, 8, 8, 8, 8, 8, 8, 8, 8, 8, 8, 8, 8, 8, 8, 8, 8, 8, 8, 8, 8, 8, 8, 8, 8, 8, 8, 8, 8, 8, 8, 8, 8, 8, 8, 8, 8, 8, 8, 8, 8, 8]⟩ : ByteArray) (ji15); replace p18 := eq_true p18; replace q18 := eq_true q18
     go_wp2
     go_ret
     exact ⟨by first | rfl | (simp; done) | (simp only [← hji15] <;> (first | rfl | simp)) | (simp [*]; done), by repeat (first | exact Drawn0.refl _ | apply Drawn0.step)⟩
    ·rw [if_neg c14] at H; have c14b0 : decide (256 ≤ x0_1) = false := decide_eq_false c14; clear c14; obtain ⟨ji19, hji19⟩ : ∃ j_ : Int, ((x0_1) % 256) = j_ := ⟨_, rfl⟩; replace H : (if 0 ≤ (ji19) then (if (ji19) < 256 then (some (wrap64 (x2_1 + (wrap64 (bt (⟨#[0, 1, 2, 2, 3, 3, 3, 3, 4, 4, 4, 4, 4, 4, 4, 4, 5, 5, 5, 5, 5, 5, 5, 5, 5, 5, 5, 5, 5, 5, 5, 5, 6, 6, 6, 6, 6, 6, 6, 6, 6, 6, 6, 6, 6, 6, 6, 6, 6, 6, 6, 6, 6, 6, 6, 6, 6, 6, 6, 6, 6, 6, 6, 6, 7, 7, 7, 7, 7, 7, 7, 7, 7, 7, 7, 7, 7, 7, 7, 7, 7, 7, 7, 7, 7, 7, 7, 7, 7, 7, 7, 7, 7, 7, 7, 7, 7, 7, 7, 7, 7, 7, 7, 7, 7, 7, 7, 7, 7, 7, 7, 7, 7, 7, 7, 7, 7, 7, 7, 7, 7, 7, 7, 7, 7, 7, 7, 7, 8, 8, 8, 8, 8, 8, 8, 8, 8, 8, 8, 8, 8, 8, 8, 8, 8, 8, 8, 8, 8, 8, 8, 8, 8, 8, 8, 8, 8, 8, 8, 8, 8, 8, 8, 8, 8, 8, 8, 8, 8, 8, 8, 8, 8, 8, 8, 8, 8, 8, 8, 8, 8, 8, 8, 8, 8, 8, 8, 8, 8, 8, 8, 8, 8, 8, 8, 8, 8, 8, 8, 8, 8, 8, 8, 8, 8, 8, 8, 8, 8, 8, 8, 8, 8, 8, 8, 8, 8, 8, 8, 8, 8, 8, 8, 8, 8, 8, 8, 8, 8, 8, 8, 8, 8, 8, 8, 8, 8, 8, 8, 8, 8, 8, 8, 8, 8, 8, 8, 8, 8, 8, 8, 8, 8, 8, 8, 8]⟩ : ByteArray) (ji19)))))) else (none)) else (none)) = some r := by first | (rw [hji19] at H; exact H) | (simp only [hji19] at H ⊢; exact H)
     by_cases c20 : 0 ≤ (ji19)
     rotate_left
     ·rw [if_neg c20] at H; exact absurd H (by simp)
     rw [if_pos c20] at H; have c20b0 : decide (0 ≤ (ji19)) = true := decide_eq_true c20; clear c20
     by_cases c21 : (ji19) < 256
     rotate_left
     ·rw [if_neg c21] at H; exact absurd H (by simp)
     rw [if_pos c21] at H; have c21b0 : decide ((ji19) < 256) = true := decide_eq_true c21; clear c21; obtain rfl := Option.some.inj H; have p22 : 0 ≤ ((ji19) : Int) := of_decide_eq_true (by first | (with_reducible assumption) | assumption); have q22 : (ji19) < (256 : Int) := of_decide_eq_true (by first | (with_reducible assumption) | assumption); have hx22 := bt_at (⟨#[0, 1, 2, 2, 3, 3, 3, 3, 4, 4, 4, 4, 4, 4, 4, 4, 5, 5, 5, 5, 5, 5, 5, 5, 5, 5, 5, 5, 5, 5, 5, 5, 6, 6, 6, 6, 6, 6, 6, 6, 6, 6, 6, 6, 6, 6, 6, 6, 6, 6, 6, 6, 6, 6, 6, 6, 6, 6, 6, 6, 6, 6, 6, 6, 7, 7, 7, 7, 7, 7, 7, 7, 7, 7, 7, 7, 7, 7, 7, 7, 7, 7, 7, 7, 7, 7, 7, 7, 7, 7, 7, 7, 7, 7, 7, 7, 7, 7, 7, 7, 7, 7, 7, 7, 7, 7, 7, 7, 7, 7, 7, 7, 7, 7, 7, 7, 7, 7, 7, 7, 7, 7, 7, 7, 7, 7, 7, 7, 8, 8, 8, 8, 8, 8, 8, 8, 8, 8, 8, 8, 8, 8, 8, 8, 8, 8, 8, 8, 8, 8, 8, 8, 8, 8, 8, 8, 8, 8, 8, 8, 8, 8, 8, 8, 8, 8, 8, 8, 8, 8, 8, 8, 8, 8, 8, 8, 8, 8, 8, 8, 8, 8, 8, 8, 8, 8, 8, 8, 8, 8, 8, 8, 8, 8, 8, 8, 8, 8, 8, 8, 8, 8, 8, 8, 8, 8, 8, 8, 8, 8, 8, 8, 8, 8, 8, 8, 8, 8, 8, 8, 8, 8, 8, 8, 8, 8, 8, 8, 8, 8, 8, 8, 8, 8, 8, 8, 8, 8, 8, 8, 8, 8, 8, 8, 8, 8, 8, 8, 8, 8, 8, 8, 8, 8, 8, 8]⟩ : ByteArray) (ji19); replace p22 := eq_true p22; replace q22 := eq_true q22
     go_wp2
     go_ret
     exact ⟨by first | rfl | (simp; done) | (simp only [← hji19] <;> (first | rfl | simp)) | (simp [*]; done), by repeat (first | exact Drawn0.refl _ | apply Drawn0.step)⟩
def nat_Nat_Bits.f (k : Nat) (l0_0 : List Int) : Option (Int) := (nat_Nat_Zero.f l0_0).bind fun t139 => (if t139 = true then (some 0) else (if 0 ≤ (wrap64 ((l0_0.length : Int) - 1)) then (if (wrap64 ((l0_0.length : Int) - 1)) < (l0_0.length : Int) then ((bits_Len64.f k (rd l0_0 (wrap64 ((l0_0.length : Int) - 1)))).bind fun t141 => (some (wrap64 ((wrap64 (64 * (wrap64 ((l0_0.length : Int) - 1)))) + t141)))) else (none)) else (none)))
theorem nat_Nat_Bits.mono : ∀ a0 k, LeO (nat_Nat_Bits.f k a0) (nat_Nat_Bits.f (k + 1) a0) := by
  intro a0 k; unfold nat_Nat_Bits.f
  repeat' first
      | (with_reducible exact bits_Len64.mono _ _)
      | (with_reducible exact LeO.refl _)
      | (with_reducible exact LeO.none _)
      | (with_reducible refine LeO.ite ?_ ?_)
      | (with_reducible refine LeO.bind ?_ (fun _ => ?_))
      | exact bits_Len64.mono _ _
      | exact LeO.none _
      | refine LeO.ite ?_ ?_
      | refine LeO.bind ?_ (fun _ => ?_)
set_option maxHeartbeats 8000000 in
set_option maxRecDepth 100000 in
theorem nat_Nat_Bits.calls (k : Nat) (A0_0 : Option Addr) (c0_0 : Nat) (l0_0 : List Int) (r : Int) (w : World) (hr0_0 : Kd.C (Kd.int .u64) w A0_0 l0_0.length l0_0) (hc0_0 : l0_0.length ≤ c0_0) (h : nat_Nat_Bits.f k l0_0 = some r) :
    Calls Try.prog 19 #[.agg #[.slice A0_0 l0_0.length c0_0]] w fun e w' => e = .returned (.int .i64 r) ∧ Below w.heap.size w w' := by
  have hu25 := Try.underlying25; have HR0_0 := m0 hr0_0; have HC0_0 := m0 hc0_0; clear hr0_0 hc0_0; have HB := m0 (Below.refl w.heap.size w); have H : ((nat_Nat_Zero.f l0_0).bind fun t139 => (if t139 = true then (some 0) else (if 0 ≤ (wrap64 ((l0_0.length : Int) - 1)) then (if (wrap64 ((l0_0.length : Int) - 1)) < (l0_0.length : Int) then ((bits_Len64.f k (rd l0_0 (wrap64 ((l0_0.length : Int) - 1)))).bind fun t141 => (some (wrap64 ((wrap64 (64 * (wrap64 ((l0_0.length : Int) - 1)))) + t141)))) else (none)) else (none)))) = some r := h; clear h; replace H := Option.bind_eq_some_iff.mp H; obtain ⟨t139, A20, H⟩ := H; replace H : (if t139 = true then (some 0) else (if 0 ≤ (wrap64 ((l0_0.length : Int) - 1)) then (if (wrap64 ((l0_0.length : Int) - 1)) < (l0_0.length : Int) then ((bits_Len64.f k (rd l0_0 (wrap64 ((l0_0.length : Int) - 1)))).bind fun t141 => (some (wrap64 ((wrap64 (64 * (wrap64 ((l0_0.length : Int) - 1)))) + t141)))) else (none)) else (none))) = some r := H; have A2 := m0 A20; clear A20
  by_cases c3 : t139 = true
  · subst c3; (have H1 : (some 0) = some r := by rw [if_pos rfl] at H; exact H); clear H; have H := H1; clear H1; obtain rfl := Option.some.inj H
    go_enter Try.func19, Try.ntmps19
    go_wp2_with (first | ((with_reducible refine gate_dst (N := 1) rfl ?_); refine box_event rz (N := 1) rz (cs := #[.slice A0_0 l0_0.length c0_0]) (t := 25) gs_ ?_; intro g0 hg w4 hbox hb; have b0 := m0 hbox; have G0 := gz_ HB hg; have e0 := gz_ HB hg; replace HB := sa HB hb; clear hb hbox hg; have hcz5_0 : w4.cell? ⟨g0, 0, none⟩ = some (.slice A0_0 l0_0.length c0_0) := bc b0; have hfz5_0 := blk_frozen b0.1 0) | ((with_reducible refine gate_callee (f := 18) rfl ?_); refine goesL_ (some 5) rfl rfl Try.func18 kr rfl #[.agg #[.slice A0_0 l0_0.length c0_0]] rfl gm ?_; (with_reducible refine (nat_Nat_Zero.calls _ _ l0_0 true _ ?side1 ?side2 A2.1).mono ?_); (case side1 => repeat (first | exact (Kd.C_below HR0_0.out HB.1) | (with_reducible refine Kd.C_alloc ?_ _) | (with_reducible refine Kd.C_drewN ?_ _) | (with_reducible refine Kd.C_drew ?_))); (case side2 => exact HC0_0.out); rintro e w6 ⟨rfl, hb⟩; refine ⟨_, rfl, ?_⟩; replace b0 := ba b0 hb; replace HB := sa HB hb; clear hb))
    go_ret
    exact ⟨by first | rfl | (simp [errW_none, errW_some] <;> rfl) | (simp [*, errW_none, errW_some] <;> rfl), by repeat (first | (with_reducible first | exact HB.1 | apply below_alloc | apply pw_below_drewN | apply below_drew1 | refine below_set ?_ e0.1) | exact HB.1)⟩
  · replace c3 := Bool.eq_false_iff.mpr c3; subst c3; (have H1 : (if 0 ≤ (wrap64 ((l0_0.length : Int) - 1)) then (if (wrap64 ((l0_0.length : Int) - 1)) < (l0_0.length : Int) then ((bits_Len64.f k (rd l0_0 (wrap64 ((l0_0.length : Int) - 1)))).bind fun t141 => (some (wrap64 ((wrap64 (64 * (wrap64 ((l0_0.length : Int) - 1)))) + t141)))) else (none)) else (none)) = some r := by rw [if_neg (show ¬ (false = true) by decide)] at H; exact H); clear H; have H := H1; clear H1; obtain ⟨ji7, hji7⟩ : ∃ j_ : Int, (wrap64 ((l0_0.length : Int) - 1)) = j_ := ⟨_, rfl⟩; (replace H : (if 0 ≤ (ji7) then (if (ji7) < (l0_0.length : Int) then ((bits_Len64.f k (rd l0_0 (ji7))).bind fun t141 => (some (wrap64 ((wrap64 (64 * (ji7))) + t141)))) else (none)) else (none)) = some r := by first | (rw [hji7] at H; exact H) | (simp only [hji7] at H ⊢; exact H)); (try rw [hji7] at A2); have hji7w : (IntKind.i64.wrap ((l0_0.length : Int) - 1)) = ji7 := (i64_w _).trans hji7
    by_cases c8 : 0 ≤ (ji7)
    rotate_left
    · rw [if_neg c8] at H; exact absurd H (by simp)
    rw [if_pos c8] at H; have c8b0 : decide (0 ≤ (ji7)) = true := decide_eq_true c8; clear c8
    by_cases c9 : (ji7) < (l0_0.length : Int)
    rotate_left
    · rw [if_neg c9] at H; exact absurd H (by simp)
    rw [if_pos c9] at H; have c9b0 : decide ((ji7) < (l0_0.length : Int)) = true := decide_eq_true c9; clear c9; replace H := Option.bind_eq_some_iff.mp H; obtain ⟨t141, A100, H⟩ := H; replace H : (some (wrap64 ((wrap64 (64 * (ji7))) + t141))) = some r := H; have A10 := m0 A100; clear A100; obtain rfl := Option.some.inj H
    go_enter Try.func19, Try.ntmps19
    go_wp2_with (first | ((with_reducible refine gate_dst (N := 1) rfl ?_); refine box_event rz (N := 1) rz (cs := #[.slice A0_0 l0_0.length c0_0]) (t := 25) gs_ ?_; intro g0 hg w11 hbox hb; have b0 := m0 hbox; have G0 := gz_ HB hg; have e0 := gz_ HB hg; replace HB := sa HB hb; clear hb hbox hg; have hcz12_0 : w11.cell? ⟨g0, 0, none⟩ = some (.slice A0_0 l0_0.length c0_0) := bc b0; have hfz12_0 := blk_frozen b0.1 0) | ((with_reducible refine gate_callee (f := 18) rfl ?_); refine goesL_ (some 5) rfl rfl Try.func18 kr rfl #[.agg #[.slice A0_0 l0_0.length c0_0]] rfl gm ?_; (with_reducible refine (nat_Nat_Zero.calls _ _ l0_0 false _ ?side1 ?side2 A2.1).mono ?_); (case side1 => repeat (first | exact (Kd.C_below HR0_0.out HB.1) | (with_reducible refine Kd.C_alloc ?_ _) | (with_reducible refine Kd.C_drewN ?_ _) | (with_reducible refine Kd.C_drew ?_))); (case side2 => exact HC0_0.out); rintro e w13 ⟨rfl, hb⟩; refine ⟨_, rfl, ?_⟩; replace b0 := ba b0 hb; replace HB := sa HB hb; clear hb; have hcz14_0 : w13.cell? ⟨g0, 0, none⟩ = some (.slice A0_0 l0_0.length c0_0) := bc b0; have hfz14_0 := blk_frozen b0.1 0; have p140 : 0 ≤ ((ji7) : Int) := of_decide_eq_true (by first | (with_reducible assumption) | assumption); have q140 : (ji7) < (l0_0.length : Int) := of_decide_eq_true (by first | (with_reducible assumption) | assumption); obtain ⟨ad140, e140, hx140_0⟩ := Kd.at_int HR0_0.out (ji7) p140 q140; cases e140; replace hx140_0 := (HB.1.cell (World.block_lt_of_cell? w _ hx140_0)).trans hx140_0; replace p140 := eq_true p140; replace q140 := eq_true q140) | ((with_reducible refine gate_callee (f := 43) rfl ?_); refine goesL_ (some 17) rfl rfl Try.func43 kr rfl #[.int .u64 (rd l0_0 (ji7))] rfl (by (try simp only [List.map_toArray, List.map_cons, List.map_nil]); first | done | (simp only [hji7]; rfl) | rfl | (simp only [List.length_drop, List.length_take]; rfl)) ?_; (with_reducible refine (bits_Len64.calls k (rd l0_0 (ji7)) t141 _ A10.1).mono ?_); rintro e w' ⟨rfl, ⟨nd, rfl⟩⟩; refine ⟨_, rfl, ?_⟩))
    go_ret
    exact ⟨by first | rfl | (simp [errW_none, errW_some] <;> rfl) | (simp only [← hji7]; first | rfl | (simp [errW_none, errW_some] <;> rfl)) | (simp [*, errW_none, errW_some] <;> rfl), by repeat (first | (with_reducible first | exact HB.1 | apply below_alloc | apply pw_below_drewN | apply below_drew1 | refine below_set ?_ e0.1) | exact HB.1)⟩
def cmp_isNaN_int.f (a0 : Int) : Option (Bool) := some (a0 != a0)
set_option maxHeartbeats 8000000 in
set_option maxRecDepth 100000 in
theorem cmp_isNaN_int.calls (a0 : Int) (r : Bool) (w : World) (h : cmp_isNaN_int.f a0 = some r) :
    Calls Try.prog 59 #[.int .i64 a0] w fun e w' => e = .returned (.bool r) ∧ Drawn0 w w' := by
  have H : (some (a0 != a0)) = some r := h; clear h; obtain rfl := Option.some.inj H
  go_enter Try.func59, Try.ntmps59
  go_wp2
  go_ret
  exact ⟨by first | rfl | (simp; done) | (simp [*]; done), by repeat (first | exact Drawn0.refl _ | apply Drawn0.step)⟩
def cmp_Compare_int.f (a0 : Int) (a1 : Int) : Option (Int) := (cmp_isNaN_int.f a0).bind fun t142 => ((cmp_isNaN_int.f a1).bind fun t143 => (if t142 = true then (if t143 = true then (some 0) else (some (-1))) else (if t143 = true then (some 1) else (if a0 < a1 then (some (-1)) else (if a0 > a1 then (some 1) else (some 0))))))
set_option maxHeartbeats 8000000 in
set_option maxRecDepth 100000 in
theorem cmp_Compare_int.calls (a0 : Int) (a1 : Int) (r : Int) (w : World) (h : cmp_Compare_int.f a0 a1 = some r) :
    Calls Try.prog 44 #[.int .i64 a0, .int .i64 a1] w fun e w' => e = .returned (.int .i64 r) ∧ Drawn0 w w' := by
  have H : ((cmp_isNaN_int.f a0).bind fun t142 => ((cmp_isNaN_int.f a1).bind fun t143 => (if t142 = true then (if t143 = true then (some 0) else (some (-1))) else (if t143 = true then (some 1) else (if a0 < a1 then (some (-1)) else (if a0 > a1 then (some 1) else (some 0))))))) = some r := h; clear h; replace H := Option.bind_eq_some_iff.mp H; obtain ⟨t142, A30, H⟩ := H; replace H : ((cmp_isNaN_int.f a1).bind fun t143 => (if t142 = true then (if t143 = true then (some 0) else (some (-1))) else (if t143 = true then (some 1) else (if a0 < a1 then (some (-1)) else (if a0 > a1 then (some 1) else (some 0)))))) = some r := H; have A3 := m0 A30; clear A30; replace H := Option.bind_eq_some_iff.mp H; obtain ⟨t143, A40, H⟩ := H; replace H : (if t142 = true then (if t143 = true then (some 0) else (some (-1))) else (if t143 = true then (some 1) else (if a0 < a1 then (some (-1)) else (if a0 > a1 then (some 1) else (some 0))))) = some r := H; have A4 := m0 A40; clear A40
  by_cases c5 : t142 = true
  · subst c5; (have H1 : (if t143 = true then (some 0) else (some (-1))) = some r := by rw [if_pos rfl] at H; exact H); clear H; have H := H1; clear H1
    by_cases c6 : t143 = true
    · subst c6; (have H1 : (some 0) = some r := by rw [if_pos rfl] at H; exact H); clear H; have H := H1; clear H1; obtain rfl := Option.some.inj H
      go_enter Try.func44, Try.ntmps44
      go_wp2_with (first | ((with_reducible refine gate_callee (f := 59) rfl ?_); refine goesL_ (some 8) rfl rfl Try.func59 kr rfl #[.int .i64 a0] rfl gm ?_; (with_reducible refine (cmp_isNaN_int.calls a0 true _ A3.1).mono ?_); rintro e w' ⟨rfl, ⟨nd, rfl⟩⟩; refine ⟨_, rfl, ?_⟩) | ((with_reducible refine gate_callee (f := 59) rfl ?_); refine goesL_ (some 10) rfl rfl Try.func59 kr rfl #[.int .i64 a1] rfl gm ?_; (with_reducible refine (cmp_isNaN_int.calls a1 true _ A4.1).mono ?_); rintro e w' ⟨rfl, ⟨nd, rfl⟩⟩; refine ⟨_, rfl, ?_⟩))
      go_ret
      exact ⟨by first | rfl | (simp; done) | (simp [*]; done), by repeat (first | exact Drawn0.refl _ | apply Drawn0.step)⟩
    · replace c6 := Bool.eq_false_iff.mpr c6; subst c6; (have H1 : (some (-1)) = some r := by rw [if_neg (show ¬ (false = true) by decide)] at H; exact H); clear H; have H := H1; clear H1; obtain rfl := Option.some.inj H
      go_enter Try.func44, Try.ntmps44
      go_wp2_with (first | ((with_reducible refine gate_callee (f := 59) rfl ?_); refine goesL_ (some 8) rfl rfl Try.func59 kr rfl #[.int .i64 a0] rfl gm ?_; (with_reducible refine (cmp_isNaN_int.calls a0 true _ A3.1).mono ?_); rintro e w' ⟨rfl, ⟨nd, rfl⟩⟩; refine ⟨_, rfl, ?_⟩) | ((with_reducible refine gate_callee (f := 59) rfl ?_); refine goesL_ (some 10) rfl rfl Try.func59 kr rfl #[.int .i64 a1] rfl gm ?_; (with_reducible refine (cmp_isNaN_int.calls a1 false _ A4.1).mono ?_); rintro e w' ⟨rfl, ⟨nd, rfl⟩⟩; refine ⟨_, rfl, ?_⟩))
      go_ret
      exact ⟨by first | rfl | (simp; done) | (simp [*]; done), by repeat (first | exact Drawn0.refl _ | apply Drawn0.step)⟩
  · replace c5 := Bool.eq_false_iff.mpr c5; subst c5; (have H1 : (if t143 = true then (some 1) else (if a0 < a1 then (some (-1)) else (if a0 > a1 then (some 1) else (some 0)))) = some r := by rw [if_neg (show ¬ (false = true) by decide)] at H; exact H); clear H; have H := H1; clear H1
    by_cases c7 : t143 = true
    · subst c7; (have H1 : (some 1) = some r := by rw [if_pos rfl] at H; exact H); clear H; have H := H1; clear H1; obtain rfl := Option.some.inj H
      go_enter Try.func44, Try.ntmps44
      go_wp2_with (first | ((with_reducible refine gate_callee (f := 59) rfl ?_); refine goesL_ (some 8) rfl rfl Try.func59 kr rfl #[.int .i64 a0] rfl gm ?_; (with_reducible refine (cmp_isNaN_int.calls a0 false _ A3.1).mono ?_); rintro e w' ⟨rfl, ⟨nd, rfl⟩⟩; refine ⟨_, rfl, ?_⟩) | ((with_reducible refine gate_callee (f := 59) rfl ?_); refine goesL_ (some 10) rfl rfl Try.func59 kr rfl #[.int .i64 a1] rfl gm ?_; (with_reducible refine (cmp_isNaN_int.calls a1 true _ A4.1).mono ?_); rintro e w' ⟨rfl, ⟨nd, rfl⟩⟩; refine ⟨_, rfl, ?_⟩))
      go_ret
      exact ⟨by first | rfl | (simp; done) | (simp [*]; done), by repeat (first | exact Drawn0.refl _ | apply Drawn0.step)⟩
    · replace c7 := Bool.eq_false_iff.mpr c7; subst c7; (have H1 : (if a0 < a1 then (some (-1)) else (if a0 > a1 then (some 1) else (some 0))) = some r := by rw [if_neg (show ¬ (false = true) by decide)] at H; exact H); clear H; have H := H1; clear H1
      by_cases c8 : a0 < a1
      · rw [if_pos c8] at H; have c8b0 : decide (a0 < a1) = true := decide_eq_true c8; clear c8; obtain rfl := Option.some.inj H
        go_enter Try.func44, Try.ntmps44
        go_wp2_with (first | ((with_reducible refine gate_callee (f := 59) rfl ?_); refine goesL_ (some 8) rfl rfl Try.func59 kr rfl #[.int .i64 a0] rfl gm ?_; (with_reducible refine (cmp_isNaN_int.calls a0 false _ A3.1).mono ?_); rintro e w' ⟨rfl, ⟨nd, rfl⟩⟩; refine ⟨_, rfl, ?_⟩) | ((with_reducible refine gate_callee (f := 59) rfl ?_); refine goesL_ (some 10) rfl rfl Try.func59 kr rfl #[.int .i64 a1] rfl gm ?_; (with_reducible refine (cmp_isNaN_int.calls a1 false _ A4.1).mono ?_); rintro e w' ⟨rfl, ⟨nd, rfl⟩⟩; refine ⟨_, rfl, ?_⟩))
        go_ret
        exact ⟨by first | rfl | (simp; done) | (simp [*]; done), by repeat (first | exact Drawn0.refl _ | apply Drawn0.step)⟩
      · rw [if_neg c8] at H; have c8b0 : decide (a0 < a1) = false := decide_eq_false c8; clear c8
        by_cases c9 : a0 > a1
        · rw [if_pos c9] at H; have c9b0 : decide (a1 < a0) = true := decide_eq_true c9; clear c9; obtain rfl := Option.some.inj H
          go_enter Try.func44, Try.ntmps44
          go_wp2_with (first | ((with_reducible refine gate_callee (f := 59) rfl ?_); refine goesL_ (some 8) rfl rfl Try.func59 kr rfl #[.int .i64 a0] rfl gm ?_; (with_reducible refine (cmp_isNaN_int.calls a0 false _ A3.1).mono ?_); rintro e w' ⟨rfl, ⟨nd, rfl⟩⟩; refine ⟨_, rfl, ?_⟩) | ((with_reducible refine gate_callee (f := 59) rfl ?_); refine goesL_ (some 10) rfl rfl Try.func59 kr rfl #[.int .i64 a1] rfl gm ?_; (with_reducible refine (cmp_isNaN_int.calls a1 false _ A4.1).mono ?_); rintro e w' ⟨rfl, ⟨nd, rfl⟩⟩; refine ⟨_, rfl, ?_⟩))
          go_ret
          exact ⟨by first | rfl | (simp; done) | (simp [*]; done), by repeat (first | exact Drawn0.refl _ | apply Drawn0.step)⟩
        · rw [if_neg c9] at H; have c9b0 : decide (a1 < a0) = false := decide_eq_false c9; clear c9; obtain rfl := Option.some.inj H
          go_enter Try.func44, Try.ntmps44
          go_wp2_with (first | ((with_reducible refine gate_callee (f := 59) rfl ?_); refine goesL_ (some 8) rfl rfl Try.func59 kr rfl #[.int .i64 a0] rfl gm ?_; (with_reducible refine (cmp_isNaN_int.calls a0 false _ A3.1).mono ?_); rintro e w' ⟨rfl, ⟨nd, rfl⟩⟩; refine ⟨_, rfl, ?_⟩) | ((with_reducible refine gate_callee (f := 59) rfl ?_); refine goesL_ (some 10) rfl rfl Try.func59 kr rfl #[.int .i64 a1] rfl gm ?_; (with_reducible refine (cmp_isNaN_int.calls a1 false _ A4.1).mono ?_); rintro e w' ⟨rfl, ⟨nd, rfl⟩⟩; refine ⟨_, rfl, ?_⟩))
          go_ret
          exact ⟨by first | rfl | (simp; done) | (simp [*]; done), by repeat (first | exact Drawn0.refl _ | apply Drawn0.step)⟩
def cmp_isNaN_uint64.f (a0 : Int) : Option (Bool) := some (a0 != a0)
set_option maxHeartbeats 8000000 in
set_option maxRecDepth 100000 in
theorem cmp_isNaN_uint64.calls (a0 : Int) (r : Bool) (w : World) (h : cmp_isNaN_uint64.f a0 = some r) :
    Calls Try.prog 60 #[.int .u64 a0] w fun e w' => e = .returned (.bool r) ∧ Drawn0 w w' := by
  have H : (some (a0 != a0)) = some r := h; clear h; obtain rfl := Option.some.inj H
  go_enter Try.func60, Try.ntmps60
  go_wp2
  go_ret
  exact ⟨by first | rfl | (simp; done) | (simp [*]; done), by repeat (first | exact Drawn0.refl _ | apply Drawn0.step)⟩
def cmp_Compare_uint64.f (a0 : Int) (a1 : Int) : Option (Int) := (cmp_isNaN_uint64.f a0).bind fun t144 => ((cmp_isNaN_uint64.f a1).bind fun t145 => (if t144 = true then (if t145 = true then (some 0) else (some (-1))) else (if t145 = true then (some 1) else (if a0 < a1 then (some (-1)) else (if a0 > a1 then (some 1) else (some 0))))))
set_option maxHeartbeats 8000000 in
set_option maxRecDepth 100000 in
theorem cmp_Compare_uint64.calls (a0 : Int) (a1 : Int) (r : Int) (w : World) (h : cmp_Compare_uint64.f a0 a1 = some r) :
    Calls Try.prog 45 #[.int .u64 a0, .int .u64 a1] w fun e w' => e = .returned (.int .i64 r) ∧ Drawn0 w w' := by
  have H : ((cmp_isNaN_uint64.f a0).bind fun t144 => ((cmp_isNaN_uint64.f a1).bind fun t145 => (if t144 = true then (if t145 = true then (some 0) else (some (-1))) else (if t145 = true then (some 1) else (if a0 < a1 then (some (-1)) else (if a0 > a1 then (some 1) else (some 0))))))) = some r := h; clear h; replace H := Option.bind_eq_some_iff.mp H; obtain ⟨t144, A30, H⟩ := H; replace H : ((cmp_isNaN_uint64.f a1).bind fun t145 => (if t144 = true then (if t145 = true then (some 0) else (some (-1))) else (if t145 = true then (some 1) else (if a0 < a1 then (some (-1)) else (if a0 > a1 then (some 1) else (some 0)))))) = some r := H; have A3 := m0 A30; clear A30; replace H := Option.bind_eq_some_iff.mp H; obtain ⟨t145, A40, H⟩ := H; replace H : (if t144 = true then (if t145 = true then (some 0) else (some (-1))) else (if t145 = true then (some 1) else (if a0 < a1 then (some (-1)) else (if a0 > a1 then (some 1) else (some 0))))) = some r := H; have A4 := m0 A40; clear A40
  by_cases c5 : t144 = true
  · subst c5; (have H1 : (if t145 = true then (some 0) else (some (-1))) = some r := by rw [if_pos rfl] at H; exact H); clear H; have H := H1; clear H1
    by_cases c6 : t145 = true
    · subst c6; (have H1 : (some 0) = some r := by rw [if_pos rfl] at H; exact H); clear H; have H := H1; clear H1; obtain rfl := Option.some.inj H
      go_enter Try.func45, Try.ntmps45
      go_wp2_with (first | ((with_reducible refine gate_callee (f := 60) rfl ?_); refine goesL_ (some 8) rfl rfl Try.func60 kr rfl #[.int .u64 a0] rfl gm ?_; (with_reducible refine (cmp_isNaN_uint64.calls a0 true _ A3.1).mono ?_); rintro e w' ⟨rfl, ⟨nd, rfl⟩⟩; refine ⟨_, rfl, ?_⟩) | ((with_reducible refine gate_callee (f := 60) rfl ?_); refine goesL_ (some 10) rfl rfl Try.func60 kr rfl #[.int .u64 a1] rfl gm ?_; (with_reducible refine (cmp_isNaN_uint64.calls a1 true _ A4.1).mono ?_); rintro e w' ⟨rfl, ⟨nd, rfl⟩⟩; refine ⟨_, rfl, ?_⟩))
      go_ret
      exact ⟨by first | rfl | (simp; done) | (simp [*]; done), by repeat (first | exact Drawn0.refl _ | apply Drawn0.step)⟩
    · replace c6 := Bool.eq_false_iff.mpr c6; subst c6; (have H1 : (some (-1)) = some r := by rw [if_neg (show ¬ (false = true) by decide)] at H; exact H); clear H; have H := H1; clear H1; obtain rfl := Option.some.inj H
      go_enter Try.func45, Try.ntmps45
      go_wp2_with (first | ((with_reducible refine gate_callee (f := 60) rfl ?_); refine goesL_ (some 8) rfl rfl Try.func60 kr rfl #[.int .u64 a0] rfl gm ?_; (with_reducible refine (cmp_isNaN_uint64.calls a0 true _ A3.1).mono ?_); rintro e w' ⟨rfl, ⟨nd, rfl⟩⟩; refine ⟨_, rfl, ?_⟩) | ((with_reducible refine gate_callee (f := 60) rfl ?_); refine goesL_ (some 10) rfl rfl Try.func60 kr rfl #[.int .u64 a1] rfl gm ?_; (with_reducible refine (cmp_isNaN_uint64.calls a1 false _ A4.1).mono ?_); rintro e w' ⟨rfl, ⟨nd, rfl⟩⟩; refine ⟨_, rfl, ?_⟩))
      go_ret
      exact ⟨by first | rfl | (simp; done) | (simp [*]; done), by repeat (first | exact Drawn0.refl _ | apply Drawn0.step)⟩
  · replace c5 := Bool.eq_false_iff.mpr c5; subst c5; (have H1 : (if t145 = true then (some 1) else (if a0 < a1 then (some (-1)) else (if a0 > a1 then (some 1) else (some 0)))) = some r := by rw [if_neg (show ¬ (false = true) by decide)] at H; exact H); clear H; have H := H1; clear H1
    by_cases c7 : t145 = true
    · subst c7; (have H1 : (some 1) = some r := by rw [if_pos rfl] at H; exact H); clear H; have H := H1; clear H1; obtain rfl := Option.some.inj H
      go_enter Try.func45, Try.ntmps45
      go_wp2_with (first | ((with_reducible refine gate_callee (f := 60) rfl ?_); refine goesL_ (some 8) rfl rfl Try.func60 kr rfl #[.int .u64 a0] rfl gm ?_; (with_reducible refine (cmp_isNaN_uint64.calls a0 false _ A3.1).mono ?_); rintro e w' ⟨rfl, ⟨nd, rfl⟩⟩; refine ⟨_, rfl, ?_⟩) | ((with_reducible refine gate_callee (f := 60) rfl ?_); refine goesL_ (some 10) rfl rfl Try.func60 kr rfl #[.int .u64 a1] rfl gm ?_; (with_reducible refine (cmp_isNaN_uint64.calls a1 true _ A4.1).mono ?_); rintro e w' ⟨rfl, ⟨nd, rfl⟩⟩; refine ⟨_, rfl, ?_⟩))
      go_ret
      exact ⟨by first | rfl | (simp; done) | (simp [*]; done), by repeat (first | exact Drawn0.refl _ | apply Drawn0.step)⟩
    · replace c7 := Bool.eq_false_iff.mpr c7; subst c7; (have H1 : (if a0 < a1 then (some (-1)) else (if a0 > a1 then (some 1) else (some 0))) = some r := by rw [if_neg (show ¬ (false = true) by decide)] at H; exact H); clear H; have H := H1; clear H1
      by_cases c8 : a0 < a1
      · rw [if_pos c8] at H; have c8b0 : decide (a0 < a1) = true := decide_eq_true c8; clear c8; obtain rfl := Option.some.inj H
        go_enter Try.func45, Try.ntmps45
        go_wp2_with (first | ((with_reducible refine gate_callee (f := 60) rfl ?_); refine goesL_ (some 8) rfl rfl Try.func60 kr rfl #[.int .u64 a0] rfl gm ?_; (with_reducible refine (cmp_isNaN_uint64.calls a0 false _ A3.1).mono ?_); rintro e w' ⟨rfl, ⟨nd, rfl⟩⟩; refine ⟨_, rfl, ?_⟩) | ((with_reducible refine gate_callee (f := 60) rfl ?_); refine goesL_ (some 10) rfl rfl Try.func60 kr rfl #[.int .u64 a1] rfl gm ?_; (with_reducible refine (cmp_isNaN_uint64.calls a1 false _ A4.1).mono ?_); rintro e w' ⟨rfl, ⟨nd, rfl⟩⟩; refine ⟨_, rfl, ?_⟩))
        go_ret
        exact ⟨by first | rfl | (simp; done) | (simp [*]; done), by repeat (first | exact Drawn0.refl _ | apply Drawn0.step)⟩
      · rw [if_neg c8] at H; have c8b0 : decide (a0 < a1) = false := decide_eq_false c8; clear c8
        by_cases c9 : a0 > a1
        · rw [if_pos c9] at H; have c9b0 : decide (a1 < a0) = true := decide_eq_true c9; clear c9; obtain rfl := Option.some.inj H
          go_enter Try.func45, Try.ntmps45
          go_wp2_with (first | ((with_reducible refine gate_callee (f := 60) rfl ?_); refine goesL_ (some 8) rfl rfl Try.func60 kr rfl #[.int .u64 a0] rfl gm ?_; (with_reducible refine (cmp_isNaN_uint64.calls a0 false _ A3.1).mono ?_); rintro e w' ⟨rfl, ⟨nd, rfl⟩⟩; refine ⟨_, rfl, ?_⟩) | ((with_reducible refine gate_callee (f := 60) rfl ?_); refine goesL_ (some 10) rfl rfl Try.func60 kr rfl #[.int .u64 a1] rfl gm ?_; (with_reducible refine (cmp_isNaN_uint64.calls a1 false _ A4.1).mono ?_); rintro e w' ⟨rfl, ⟨nd, rfl⟩⟩; refine ⟨_, rfl, ?_⟩))
          go_ret
          exact ⟨by first | rfl | (simp; done) | (simp [*]; done), by repeat (first | exact Drawn0.refl _ | apply Drawn0.step)⟩
        · rw [if_neg c9] at H; have c9b0 : decide (a1 < a0) = false := decide_eq_false c9; clear c9; obtain rfl := Option.some.inj H
          go_enter Try.func45, Try.ntmps45
          go_wp2_with (first | ((with_reducible refine gate_callee (f := 60) rfl ?_); refine goesL_ (some 8) rfl rfl Try.func60 kr rfl #[.int .u64 a0] rfl gm ?_; (with_reducible refine (cmp_isNaN_uint64.calls a0 false _ A3.1).mono ?_); rintro e w' ⟨rfl, ⟨nd, rfl⟩⟩; refine ⟨_, rfl, ?_⟩) | ((with_reducible refine gate_callee (f := 60) rfl ?_); refine goesL_ (some 10) rfl rfl Try.func60 kr rfl #[.int .u64 a1] rfl gm ?_; (with_reducible refine (cmp_isNaN_uint64.calls a1 false _ A4.1).mono ?_); rintro e w' ⟨rfl, ⟨nd, rfl⟩⟩; refine ⟨_, rfl, ?_⟩))
          go_ret
          exact ⟨by first | rfl | (simp; done) | (simp [*]; done), by repeat (first | exact Drawn0.refl _ | apply Drawn0.step)⟩
def nat_Nat_Cmp.l0 : Nat → Int → List Int → List Int → Option (Int)
 | 0, _, _, _ => none
 | k + 1, x6, x147000, x148000 => if x6 ≥ 0 then (if 0 ≤ x6 then (if x6 < (x147000.length : Int) then (if x6 < (x148000.length : Int) then ((cmp_Compare_uint64.f (rd x147000 x6) (rd x148000 x6)).bind fun t151 => (if t151 = 0 then (nat_Nat_Cmp.l0 k (wrap64 (x6 - 1)) x147000 x148000) else (some t151))) else (none)) else (none)) else (none)) else (some 0)
def nat_Nat_Cmp.f (k : Nat) (l0_0 : List Int) (l1_0 : List Int) : Option (Int) := (cmp_Compare_int.f (l0_0.length : Int) (l1_0.length : Int)).bind fun t148 => (if t148 = 0 then (nat_Nat_Cmp.l0 k (wrap64 ((l0_0.length : Int) - 1)) l0_0 l1_0) else (some t148))
theorem nat_Nat_Cmp.mono_l : ∀ k, (∀ y0 y1 y2, LeO (nat_Nat_Cmp.l0 k y0 y1 y2) (nat_Nat_Cmp.l0 (k + 1) y0 y1 y2))
 | 0 => fun _ _ _ r h => by simp [nat_Nat_Cmp.l0] at h
 | k + 1 => by
  have ih0 := nat_Nat_Cmp.mono_l k
  ·intro y0 y1 y2; unfold nat_Nat_Cmp.l0
   repeat' first
   | (with_reducible exact ih0 _ _ _)
   | (with_reducible exact LeO.refl _)
   | (with_reducible exact LeO.none _)
   | (with_reducible refine LeO.ite ?_ ?_)
   | (with_reducible refine LeO.bind ?_ (fun _ => ?_))
   | exact ih0 _ _ _
   | exact LeO.none _
   | refine LeO.ite ?_ ?_
   | refine LeO.bind ?_ (fun _ => ?_)
theorem nat_Nat_Cmp.mono : ∀ a0 a1 k, LeO (nat_Nat_Cmp.f k a0 a1) (nat_Nat_Cmp.f (k + 1) a0 a1) := by
 intro a0 a1 k; have ih0 := nat_Nat_Cmp.mono_l k; unfold nat_Nat_Cmp.f
 repeat' first
   | (with_reducible exact ih0 _ _ _)
   | (with_reducible exact LeO.refl _)
   | (with_reducible exact LeO.none _)
   | (with_reducible refine LeO.ite ?_ ?_)
   | (with_reducible refine LeO.bind ?_ (fun _ => ?_))
   | exact ih0 _ _ _
   | exact LeO.none _
   | refine LeO.ite ?_ ?_
   | refine LeO.bind ?_ (fun _ => ?_)
set_option maxHeartbeats 8000000 in
set_option maxRecDepth 100000 in
theorem nat_Nat_Cmp.calls (k : Nat) (A0_0 : Option Addr) (c0_0 : Nat) (l0_0 : List Int) (A1_0 : Option Addr) (c1_0 : Nat) (l1_0 : List Int) (r : Int) (w : World) (hr0_0 : Kd.C (Kd.int .u64) w A0_0 l0_0.length l0_0) (hc0_0 : l0_0.length ≤ c0_0) (hr1_0 : Kd.C (Kd.int .u64) w A1_0 l1_0.length l1_0) (hc1_0 : l1_0.length ≤ c1_0) (h : nat_Nat_Cmp.f k l0_0 l1_0 = some r) :
  Calls Try.prog 21 #[.agg #[.slice A0_0 l0_0.length c0_0], .agg #[.slice A1_0 l1_0.length c1_0]] w fun e w' => e = .returned (.int .i64 r) ∧ Below w.heap.size w w' := by
 have hu25 := Try.underlying25; have HR0_0 := m0 hr0_0; have HC0_0 := m0 hc0_0; clear hr0_0 hc0_0; have HR1_0 := m0 hr1_0; have HC1_0 := m0 hc1_0; clear hr1_0 hc1_0; have HB := m0 (Below.refl w.heap.size w); have H : ((cmp_Compare_int.f (l0_0.length : Int) (l1_0.length : Int)).bind fun t148 => (if t148 = 0 then (nat_Nat_Cmp.l0 k (wrap64 ((l0_0.length : Int) - 1)) l0_0 l1_0) else (some t148))) = some r := h; clear h; replace H := Option.bind_eq_some_iff.mp H; obtain ⟨t148, A30, H⟩ := H; (try dsimp only at H); have A3 := m0 A30; clear A30
 by_cases c4 : t148 = 0
 ·rw [if_pos c4] at H; have c4b0 : (t148 == 0) = true := beq_iff_eq.mpr c4; have c4b1 : (t148 != 0) = false := bne_eq_false_iff_eq.mpr c4; clear c4; have H' := m0 H; clear H
  go_enter Try.func21, Try.ntmps21
  go_wp2_with (first | ((with_reducible refine gate_dst (N := 2) rfl ?_); refine box_event rz (N := 2) rz (cs := #[.slice A0_0 l0_0.length c0_0]) (t := 25) gs_ ?_; intro g0 hg w5 hbox hb; have b0 := m0 hbox; have G0 := gz_ HB hg; have e0 := gz_ HB hg; replace HB := sa HB hb; clear hb hbox hg) | ((with_reducible refine gate_dst (N := 3) rfl ?_); refine box_event rz (N := 3) rz (cs := #[.slice A1_0 l1_0.length c1_0]) (t := 25) gs_ ?_; intro g1 hg w6 hbox hb; have b1 := m0 hbox; have G1 := gz_ HB hg; have e1 := gz_ HB hg; replace HB := sa HB hb; have z0 := n1 b0 hg; have z1 := n2 b0 hg; replace b0 := ba b0 hb; clear hb hbox hg; have hnb7 := z0.1; have hnc7 := z1.1; have hcz8_0 : w6.cell? ⟨g0, 0, none⟩ = some (.slice A0_0 l0_0.length c0_0) := bc b0; have hfz8_0 := blk_frozen b0.1 0; have hcz9_0 : w6.cell? ⟨g1, 0, none⟩ = some (.slice A1_0 l1_0.length c1_0) := bc b1; have hfz9_0 := blk_frozen b1.1 0) | (go_at_call 44; (with_reducible refine (cmp_Compare_int.calls (l0_0.length : Int) (l1_0.length : Int) t148 _ A3.1).mono ?_); rintro e w' ⟨rfl, ⟨nd, rfl⟩⟩; (try first | exact ⟨rfl, _, World.drewN_drewN _ _ _⟩ | exact ⟨rfl, _, Eq.trans (World.drewN_drewN _ _ _) (congrArg (World.drewN _) (Nat.add_assoc _ _ _))⟩)))
  repeat (go_quiet (first | ((with_reducible refine gate_dst (N := 2) rfl ?_); refine box_event rz (N := 2) rz (cs := #[.slice A0_0 l0_0.length c0_0]) (t := 25) gs_ ?_; intro g0 hg w5 hbox hb; have n0_ := Aside0.mk (below_step (by repeat (first | (with_reducible first | exact HB.1 | apply below_alloc | apply pw_below_drewN | apply below_drew1) | exact HB.1)) hb); have n1_ := Aside0.mk (hbox); have n2_ := Aside0.mk ((by rw [hg]; exact (below_size (by repeat (first | (with_reducible first | exact HB.1 | apply below_alloc | apply pw_below_drewN | apply below_drew1) | exact HB.1))) : w.heap.size ≤ g0)); have n3_ := Aside0.mk ((by rw [hg]; exact (below_size (by repeat (first | (with_reducible first | exact HB.1 | apply below_alloc | apply pw_below_drewN | apply below_drew1) | exact HB.1))) : w.heap.size ≤ g0)); clear HB; have HB := n0_; have b0 := n1_; have G0 := n2_; have e0 := n3_; clear n0_ n1_ n2_ n3_; clear hb hbox hg) | ((with_reducible refine gate_dst (N := 3) rfl ?_); refine box_event rz (N := 3) rz (cs := #[.slice A1_0 l1_0.length c1_0]) (t := 25) gs_ ?_; intro g1 hg w6 hbox hb; have n0_ := Aside0.mk (bb b0.1 hb); have n1_ := Aside0.mk (bs HB.1 hb); have n2_ := Aside0.mk (hbox); have n3_ := Aside0.mk ((by rw [hg]; exact (bz HB.1) : w.heap.size ≤ g1)); have n4_ := Aside0.mk ((by rw [hg]; exact (bz HB.1) : w.heap.size ≤ g1)); have n5_ := Aside0.mk ((by rw [hg]; exact Nat.ne_of_lt (blk_lt (g := g0) (o := .cells #[.slice A0_0 l0_0.length c0_0] 25 (0, 0)) b0.1) : g0 ≠ g1)); have n6_ := Aside0.mk ((by rw [hg]; exact Nat.ne_of_gt (blk_lt (g := g0) (o := .cells #[.slice A0_0 l0_0.length c0_0] 25 (0, 0)) b0.1) : g1 ≠ g0)); clear b0; clear HB; have b0 := n0_; have HB := n1_; have b1 := n2_; have G1 := n3_; have e1 := n4_; have z0 := n5_; have z1 := n6_; clear n0_ n1_ n2_ n3_ n4_ n5_ n6_; clear hb hbox hg; have hnb7 := z0.1; have hnc7 := z1.1; have hcz8_0 : w6.cell? ⟨g0, 0, none⟩ = some (.slice A0_0 l0_0.length c0_0) := (blk_cell b0.1 0).trans rfl; have hfz8_0 := blk_frozen b0.1 0; have hcz9_0 : w6.cell? ⟨g1, 0, none⟩ = some (.slice A1_0 l1_0.length c1_0) := (blk_cell b1.1 0).trans rfl; have hfz9_0 := blk_frozen b1.1 0) | (go_at_call 44; (with_reducible refine (cmp_Compare_int.calls (l0_0.length : Int) (l1_0.length : Int) t148 _ A3.1).mono ?_); rintro e w' ⟨rfl, ⟨nd, rfl⟩⟩; (try first | exact ⟨rfl, _, World.drewN_drewN _ _ _⟩ | exact ⟨rfl, _, Eq.trans (World.drewN_drewN _ _ _) (congrArg (World.drewN _) (Nat.add_assoc _ _ _))⟩))); try go_wp2_with (first | ((with_reducible refine gate_dst (N := 2) rfl ?_); refine box_event rz (N := 2) rz (cs := #[.slice A0_0 l0_0.length c0_0]) (t := 25) gs_ ?_; intro g0 hg w5 hbox hb; have b0 := m0 hbox; have G0 := gz_ HB hg; have e0 := gz_ HB hg; replace HB := sa HB hb; clear hb hbox hg) | ((with_reducible refine gate_dst (N := 3) rfl ?_); refine box_event rz (N := 3) rz (cs := #[.slice A1_0 l1_0.length c1_0]) (t := 25) gs_ ?_; intro g1 hg w6 hbox hb; have b1 := m0 hbox; have G1 := gz_ HB hg; have e1 := gz_ HB hg; replace HB := sa HB hb; have z0 := n1 b0 hg; have z1 := n2 b0 hg; replace b0 := ba b0 hb; clear hb hbox hg; have hnb7 := z0.1; have hnc7 := z1.1; have hcz8_0 : w6.cell? ⟨g0, 0, none⟩ = some (.slice A0_0 l0_0.length c0_0) := bc b0; have hfz8_0 := blk_frozen b0.1 0; have hcz9_0 : w6.cell? ⟨g1, 0, none⟩ = some (.slice A1_0 l1_0.length c1_0) := bc b1; have hfz9_0 := blk_frozen b1.1 0) | (go_at_call 44; (with_reducible refine (cmp_Compare_int.calls (l0_0.length : Int) (l1_0.length : Int) t148 _ A3.1).mono ?_); rintro e w' ⟨rfl, ⟨nd, rfl⟩⟩; (try first | exact ⟨rfl, _, World.drewN_drewN _ _ _⟩ | exact ⟨rfl, _, Eq.trans (World.drewN_drewN _ _ _) (congrArg (World.drewN _) (Nat.add_assoc _ _ _))⟩))))
  go_loopg [6] k (fun kq v6 w' => ∃ (x6_1 : Int), v6 = .int .i64 x6_1 ∧ Aside0 (nat_Nat_Cmp.l0 kq x6_1 l0_0 l1_0 = some r) ∧ Aside0 (kq ≤ k) ∧ Aside0 (w'.heap[g0]? = some (.cells #[(.slice A0_0 l0_0.length c0_0)] 25 (0, 0))) ∧ Aside0 (w'.heap[g1]? = some (.cells #[(.slice A1_0 l1_0.length c1_0)] 25 (0, 0))) ∧ Aside0 (Below w.heap.size w w'))
  case atStart => exact ⟨(wrap64 ((l0_0.length : Int) - 1)), (by first | rfl | (simp; done) | (simp [*]; done)), H', ⟨Nat.le_refl _⟩, ⟨by (with_reducible repeat (first | refine blk_drewN ?_ _ | refine blk_drew ?_ | refine blk_alloc ?_ _)); exact b0.1⟩, ⟨by (with_reducible repeat (first | refine blk_drewN ?_ _ | refine blk_drew ?_ | refine blk_alloc ?_ _)); exact b1.1⟩, ⟨by repeat (first | (with_reducible first | exact HB.1 | apply below_alloc | apply pw_below_drewN | apply below_drew1 | refine below_set ?_ e0.1 | refine below_set ?_ e1.1) | exact HB.1)⟩⟩
  case round =>
   clear H'; (try clear c1); (try clear c2); (try clear p2); (try clear c4); (try clear c4b0); (try clear c4b1); (try clear p6); (try clear c7); (try clear hcz8_0); (try clear hcz9_0); (try clear hfz8_0); (try clear hfz9_0); obtain ⟨x6_1, rfl, HA, HK1, b0, b1, HB⟩ := hrel; cases gk with
   | zero => exact absurd HA.out (by simp [nat_Nat_Cmp.l0])
   | succ k1 =>
    have H := HA.out; clear HA; simp only [nat_Nat_Cmp.l0] at H
    by_cases c10 : x6_1 ≥ 0
    ·rw [if_pos c10] at H; have c10b0 : decide (0 ≤ x6_1) = true := decide_eq_true c10; clear c10
     by_cases c11 : 0 ≤ x6_1
     rotate_left
     ·rw [if_neg c11] at H; exact absurd H (by simp)
     rw [if_pos c11] at H; have c11b0 : decide (0 ≤ x6_1) = true := decide_eq_true c11; clear c11
     by_cases c12 : x6_1 < (l0_0.length : Int)
     rotate_left
     ·rw [if_neg c12] at H; exact absurd H (by simp)
     rw [if_pos c12] at H; have c12b0 : decide (x6_1 < (l0_0.length : Int)) = true := decide_eq_true c12; clear c12
     by_cases c13 : x6_1 < (l1_0.length : Int)
     rotate_left
     ·rw [if_neg c13] at H; exact absurd H (by simp)
     rw [if_pos c13] at H; have c13b0 : decide (x6_1 < (l1_0.length : Int)) = true := decide_eq_true c13; clear c13; replace H := Option.bind_eq_some_iff.mp H; obtain ⟨t151, A140, H⟩ := H; (try dsimp only at H); have A14 := m0 A140; clear A140
     by_cases c15 : t151 = 0
     ·rw [if_pos c15] at H; have c15b0 : (t151 == 0) = true := beq_iff_eq.mpr c15; have c15b1 : (t151 != 0) = false := bne_eq_false_iff_eq.mpr c15; clear c15; have H' := m0 H; clear H; have hnb16 := z0.1; have hnc16 := z1.1; have hcz17_0 : wr.cell? ⟨g0, 0, none⟩ = some (.slice A0_0 l0_0.length c0_0) := bc b0; have hfz17_0 := blk_frozen b0.1 0; have p149 : 0 ≤ (x6_1 : Int) := of_decide_eq_true (by first | (with_reducible assumption) | assumption); have q149 : x6_1 < (l0_0.length : Int) := of_decide_eq_true (by first | (with_reducible assumption) | assumption); obtain ⟨ad149, e149, hx149_0⟩ := Kd.at_int HR0_0.out x6_1 p149 q149; cases e149; replace hx149_0 := (HB.1.cell (World.block_lt_of_cell? w _ hx149_0)).trans hx149_0; replace p149 := eq_true p149; replace q149 := eq_true q149; have hcz18_0 : wr.cell? ⟨g1, 0, none⟩ = some (.slice A1_0 l1_0.length c1_0) := bc b1; have hfz18_0 := blk_frozen b1.1 0; have p150 : 0 ≤ (x6_1 : Int) := of_decide_eq_true (by first | (with_reducible assumption) | assumption); have q150 : x6_1 < (l1_0.length : Int) := of_decide_eq_true (by first | (with_reducible assumption) | assumption); obtain ⟨ad150, e150, hx150_0⟩ := Kd.at_int HR1_0.out x6_1 p150 q150; cases e150; replace hx150_0 := (HB.1.cell (World.block_lt_of_cell? w _ hx150_0)).trans hx150_0; replace p150 := eq_true p150; replace q150 := eq_true q150
      go_wp2_with (first | (go_at_call 45; (with_reducible refine (cmp_Compare_uint64.calls (rd l0_0 x6_1) (rd l1_0 x6_1) t151 _ A14.1).mono ?_); rintro e w' ⟨rfl, ⟨nd, rfl⟩⟩; (try first | exact ⟨rfl, _, World.drewN_drewN _ _ _⟩ | exact ⟨rfl, _, Eq.trans (World.drewN_drewN _ _ _) (congrArg (World.drewN _) (Nat.add_assoc _ _ _))⟩)))
      repeat (go_quiet (first | (go_at_call 45; (with_reducible refine (cmp_Compare_uint64.calls (rd l0_0 x6_1) (rd l1_0 x6_1) t151 _ A14.1).mono ?_); rintro e w' ⟨rfl, ⟨nd, rfl⟩⟩; (try first | exact ⟨rfl, _, World.drewN_drewN _ _ _⟩ | exact ⟨rfl, _, Eq.trans (World.drewN_drewN _ _ _) (congrArg (World.drewN _) (Nat.add_assoc _ _ _))⟩))); try go_wp2_with (first | (go_at_call 45; (with_reducible refine (cmp_Compare_uint64.calls (rd l0_0 x6_1) (rd l1_0 x6_1) t151 _ A14.1).mono ?_); rintro e w' ⟨rfl, ⟨nd, rfl⟩⟩; (try first | exact ⟨rfl, _, World.drewN_drewN _ _ _⟩ | exact ⟨rfl, _, Eq.trans (World.drewN_drewN _ _ _) (congrArg (World.drewN _) (Nat.add_assoc _ _ _))⟩))))
      go_roundg k1
      case measure => have := HK1.out; omega
      case rel => exact ⟨(wrap64 (x6_1 - 1)), (by first | rfl | (simp; done) | (simp [*]; done)), H', ⟨by have := HK1.out; omega⟩, ⟨by (with_reducible repeat (first | refine blk_drewN ?_ _ | refine blk_drew ?_ | refine blk_alloc ?_ _)); exact b0.1⟩, ⟨by (with_reducible repeat (first | refine blk_drewN ?_ _ | refine blk_drew ?_ | refine blk_alloc ?_ _)); exact b1.1⟩, ⟨by repeat (first | (with_reducible first | exact HB.1 | apply below_alloc | apply pw_below_drewN | apply below_drew1 | refine below_set ?_ e0.1 | refine below_set ?_ e1.1) | exact HB.1)⟩⟩
     ·rw [if_neg c15] at H; have c15b0 : (t151 == 0) = false := beq_eq_false_iff_ne.mpr c15; have c15b1 : (t151 != 0) = true := bne_iff_ne.mpr c15; obtain rfl := Option.some.inj H; have hnb19 := z0.1; have hnc19 := z1.1; have hcz20_0 : wr.cell? ⟨g0, 0, none⟩ = some (.slice A0_0 l0_0.length c0_0) := bc b0; have hfz20_0 := blk_frozen b0.1 0; have p149 : 0 ≤ (x6_1 : Int) := of_decide_eq_true (by first | (with_reducible assumption) | assumption); have q149 : x6_1 < (l0_0.length : Int) := of_decide_eq_true (by first | (with_reducible assumption) | assumption); obtain ⟨ad149, e149, hx149_0⟩ := Kd.at_int HR0_0.out x6_1 p149 q149; cases e149; replace hx149_0 := (HB.1.cell (World.block_lt_of_cell? w _ hx149_0)).trans hx149_0; replace p149 := eq_true p149; replace q149 := eq_true q149; have hcz21_0 : wr.cell? ⟨g1, 0, none⟩ = some (.slice A1_0 l1_0.length c1_0) := bc b1; have hfz21_0 := blk_frozen b1.1 0; have p150 : 0 ≤ (x6_1 : Int) := of_decide_eq_true (by first | (with_reducible assumption) | assumption); have q150 : x6_1 < (l1_0.length : Int) := of_decide_eq_true (by first | (with_reducible assumption) | assumption); obtain ⟨ad150, e150, hx150_0⟩ := Kd.at_int HR1_0.out x6_1 p150 q150; cases e150; replace hx150_0 := (HB.1.cell (World.block_lt_of_cell? w _ hx150_0)).trans hx150_0; replace p150 := eq_true p150; replace q150 := eq_true q150
      go_wp2_with (first | (go_at_call 45; (with_reducible refine (cmp_Compare_uint64.calls (rd l0_0 x6_1) (rd l1_0 x6_1) t151 _ A14.1).mono ?_); rintro e w' ⟨rfl, ⟨nd, rfl⟩⟩; (try first | exact ⟨rfl, _, World.drewN_drewN _ _ _⟩ | exact ⟨rfl, _, Eq.trans (World.drewN_drewN _ _ _) (congrArg (World.drewN _) (Nat.add_assoc _ _ _))⟩)))
      repeat (go_quiet (first | (go_at_call 45; (with_reducible refine (cmp_Compare_uint64.calls (rd l0_0 x6_1) (rd l1_0 x6_1) t151 _ A14.1).mono ?_); rintro e w' ⟨rfl, ⟨nd, rfl⟩⟩; (try first | exact ⟨rfl, _, World.drewN_drewN _ _ _⟩ | exact ⟨rfl, _, Eq.trans (World.drewN_drewN _ _ _) (congrArg (World.drewN _) (Nat.add_assoc _ _ _))⟩))); try go_wp2_with (first | (go_at_call 45; (with_reducible refine (cmp_Compare_uint64.calls (rd l0_0 x6_1) (rd l1_0 x6_1) t151 _ A14.1).mono ?_); rintro e w' ⟨rfl, ⟨nd, rfl⟩⟩; (try first | exact ⟨rfl, _, World.drewN_drewN _ _ _⟩ | exact ⟨rfl, _, Eq.trans (World.drewN_drewN _ _ _) (congrArg (World.drewN _) (Nat.add_assoc _ _ _))⟩))))
      go_ret
      exact ⟨by first | rfl | (simp [errW_none, errW_some] <;> rfl) | (simp [*, errW_none, errW_some] <;> rfl), by repeat (first | (with_reducible first | exact HB.1 | apply below_alloc | apply pw_below_drewN | apply below_drew1 | refine below_set ?_ e0.1 | refine below_set ?_ e1.1) | exact HB.1)⟩
    ·rw [if_neg c10] at H; have c10b0 : decide (0 ≤ x6_1) = false := decide_eq_false c10; clear c10; obtain rfl := Option.some.inj H
     go_wp2
     repeat (go_quiet (fail); try go_wp2)
     go_ret
     exact ⟨by first | rfl | (simp [errW_none, errW_some] <;> rfl) | (simp [*, errW_none, errW_some] <;> rfl), by repeat (first | (with_reducible first | exact HB.1 | apply below_alloc | apply pw_below_drewN | apply below_drew1 | refine below_set ?_ e0.1 | refine below_set ?_ e1.1) | exact HB.1)⟩
 ·rw [if_neg c4] at H; have c4b0 : (t148 == 0) = false := beq_eq_false_iff_ne.mpr c4; have c4b1 : (t148 != 0) = true := bne_iff_ne.mpr c4; obtain rfl := Option.some.inj H
  go_enter Try.func21, Try.ntmps21
  go_wp2_with (first | ((with_reducible refine gate_dst (N := 2) rfl ?_); refine box_event rz (N := 2) rz (cs := #[.slice A0_0 l0_0.length c0_0]) (t := 25) gs_ ?_; intro g0 hg w22 hbox hb; have b0 := m0 hbox; have G0 := gz_ HB hg; have e0 := gz_ HB hg; replace HB := sa HB hb; clear hb hbox hg) | ((with_reducible refine gate_dst (N := 3) rfl ?_); refine box_event rz (N := 3) rz (cs := #[.slice A1_0 l1_0.length c1_0]) (t := 25) gs_ ?_; intro g1 hg w23 hbox hb; have b1 := m0 hbox; have G1 := gz_ HB hg; have e1 := gz_ HB hg; replace HB := sa HB hb; have z0 := n1 b0 hg; have z1 := n2 b0 hg; replace b0 := ba b0 hb; clear hb hbox hg; have hnb24 := z0.1; have hnc24 := z1.1; have hcz25_0 : w23.cell? ⟨g0, 0, none⟩ = some (.slice A0_0 l0_0.length c0_0) := bc b0; have hfz25_0 := blk_frozen b0.1 0; have hcz26_0 : w23.cell? ⟨g1, 0, none⟩ = some (.slice A1_0 l1_0.length c1_0) := bc b1; have hfz26_0 := blk_frozen b1.1 0) | (go_at_call 44; (with_reducible refine (cmp_Compare_int.calls (l0_0.length : Int) (l1_0.length : Int) t148 _ A3.1).mono ?_); rintro e w' ⟨rfl, ⟨nd, rfl⟩⟩; (try first | exact ⟨rfl, _, World.drewN_drewN _ _ _⟩ | exact ⟨rfl, _, Eq.trans (World.drewN_drewN _ _ _) (congrArg (World.drewN _) (Nat.add_assoc _ _ _))⟩)))
  repeat (go_quiet (first | ((with_reducible refine gate_dst (N := 2) rfl ?_); refine box_event rz (N := 2) rz (cs := #[.slice A0_0 l0_0.length c0_0]) (t := 25) gs_ ?_; intro g0 hg w22 hbox hb; have n0_ := Aside0.mk (below_step (by repeat (first | (with_reducible first | exact HB.1 | apply below_alloc | apply pw_below_drewN | apply below_drew1) | exact HB.1)) hb); have n1_ := Aside0.mk (hbox); have n2_ := Aside0.mk ((by rw [hg]; exact (below_size (by repeat (first | (with_reducible first | exact HB.1 | apply below_alloc | apply pw_below_drewN | apply below_drew1) | exact HB.1))) : w.heap.size ≤ g0)); have n3_ := Aside0.mk ((by rw [hg]; exact (below_size (by repeat (first | (with_reducible first | exact HB.1 | apply below_alloc | apply pw_below_drewN | apply below_drew1) | exact HB.1))) : w.heap.size ≤ g0)); clear HB; have HB := n0_; have b0 := n1_; have G0 := n2_; have e0 := n3_; clear n0_ n1_ n2_ n3_; clear hb hbox hg) | ((with_reducible refine gate_dst (N := 3) rfl ?_); refine box_event rz (N := 3) rz (cs := #[.slice A1_0 l1_0.length c1_0]) (t := 25) gs_ ?_; intro g1 hg w23 hbox hb; have n0_ := Aside0.mk (bb b0.1 hb); have n1_ := Aside0.mk (bs HB.1 hb); have n2_ := Aside0.mk (hbox); have n3_ := Aside0.mk ((by rw [hg]; exact (bz HB.1) : w.heap.size ≤ g1)); have n4_ := Aside0.mk ((by rw [hg]; exact (bz HB.1) : w.heap.size ≤ g1)); have n5_ := Aside0.mk ((by rw [hg]; exact Nat.ne_of_lt (blk_lt (g := g0) (o := .cells #[.slice A0_0 l0_0.length c0_0] 25 (0, 0)) b0.1) : g0 ≠ g1)); have n6_ := Aside0.mk ((by rw [hg]; exact Nat.ne_of_gt (blk_lt (g := g0) (o := .cells #[.slice A0_0 l0_0.length c0_0] 25 (0, 0)) b0.1) : g1 ≠ g0)); clear b0; clear HB; have b0 := n0_; have HB := n1_; have b1 := n2_; have G1 := n3_; have e1 := n4_; have z0 := n5_; have z1 := n6_; clear n0_ n1_ n2_ n3_ n4_ n5_ n6_; clear hb hbox hg; have hnb24 := z0.1; have hnc24 := z1.1; have hcz25_0 : w23.cell? ⟨g0, 0, none⟩ = some (.slice A0_0 l0_0.length c0_0) := (blk_cell b0.1 0).trans rfl; have hfz25_0 := blk_frozen b0.1 0; have hcz26_0 : w23.cell? ⟨g1, 0, none⟩ = some (.slice A1_0 l1_0.length c1_0) := (blk_cell b1.1 0).trans rfl; have hfz26_0 := blk_frozen b1.1 0) | (go_at_call 44; (with_reducible refine (cmp_Compare_int.calls (l0_0.length : Int) (l1_0.length : Int) t148 _ A3.1).mono ?_); rintro e w' ⟨rfl, ⟨nd, rfl⟩⟩; (try first | exact ⟨rfl, _, World.drewN_drewN _ _ _⟩ | exact ⟨rfl, _, Eq.trans (World.drewN_drewN _ _ _) (congrArg (World.drewN _) (Nat.add_assoc _ _ _))⟩))); try go_wp2_with (first | ((with_reducible refine gate_dst (N := 2) rfl ?_); refine box_event rz (N := 2) rz (cs := #[.slice A0_0 l0_0.length c0_0]) (t := 25) gs_ ?_; intro g0 hg w22 hbox hb; have b0 := m0 hbox; have G0 := gz_ HB hg; have e0 := gz_ HB hg; replace HB := sa HB hb; clear hb hbox hg) | ((with_reducible refine gate_dst (N := 3) rfl ?_); refine box_event rz (N := 3) rz (cs := #[.slice A1_0 l1_0.length c1_0]) (t := 25) gs_ ?_; intro g1 hg w23 hbox hb; have b1 := m0 hbox; have G1 := gz_ HB hg; have e1 := gz_ HB hg; replace HB := sa HB hb; have z0 := n1 b0 hg; have z1 := n2 b0 hg; replace b0 := ba b0 hb; clear hb hbox hg; have hnb24 := z0.1; have hnc24 := z1.1; have hcz25_0 : w23.cell? ⟨g0, 0, none⟩ = some (.slice A0_0 l0_0.length c0_0) := bc b0; have hfz25_0 := blk_frozen b0.1 0; have hcz26_0 : w23.cell? ⟨g1, 0, none⟩ = some (.slice A1_0 l1_0.length c1_0) := bc b1; have hfz26_0 := blk_frozen b1.1 0) | (go_at_call 44; (with_reducible refine (cmp_Compare_int.calls (l0_0.length : Int) (l1_0.length : Int) t148 _ A3.1).mono ?_); rintro e w' ⟨rfl, ⟨nd, rfl⟩⟩; (try first | exact ⟨rfl, _, World.drewN_drewN _ _ _⟩ | exact ⟨rfl, _, Eq.trans (World.drewN_drewN _ _ _) (congrArg (World.drewN _) (Nat.add_assoc _ _ _))⟩))))
  go_ret
  exact ⟨by first | rfl | (simp [errW_none, errW_some] <;> rfl) | (simp [*, errW_none, errW_some] <;> rfl), by repeat (first | (with_reducible first | exact HB.1 | apply below_alloc | apply pw_below_drewN | apply below_drew1 | refine below_set ?_ e0.1 | refine below_set ?_ e1.1) | exact HB.1)⟩
def nat_Nat_limb.f (l0_0 : List Int) (a1 : Int) : Option (Int) := if a1 ≥ (l0_0.length : Int) then (some 0) else (if 0 ≤ a1 then (if a1 < (l0_0.length : Int) then (some (rd l0_0 a1)) else (none)) else (none))
set_option maxHeartbeats 8000000 in
set_option maxRecDepth 100000 in
theorem nat_Nat_limb.calls (A0_0 : Option Addr) (c0_0 : Nat) (l0_0 : List Int) (a1 : Int) (r : Int) (w : World) (hr0_0 : Kd.C (Kd.int .u64) w A0_0 l0_0.length l0_0) (hc0_0 : l0_0.length ≤ c0_0) (h : nat_Nat_limb.f l0_0 a1 = some r) :
    Calls Try.prog 49 #[.agg #[.slice A0_0 l0_0.length c0_0], .int .i64 a1] w fun e w' => e = .returned (.int .u64 r) ∧ Below w.heap.size w w' := by
  have hu25 := Try.underlying25; have HR0_0 := m0 hr0_0; have HC0_0 := m0 hc0_0; clear hr0_0 hc0_0; have HB := m0 (Below.refl w.heap.size w); have H : (if a1 ≥ (l0_0.length : Int) then (some 0) else (if 0 ≤ a1 then (if a1 < (l0_0.length : Int) then (some (rd l0_0 a1)) else (none)) else (none))) = some r := h; clear h
  by_cases c3 : a1 ≥ (l0_0.length : Int)
  · rw [if_pos c3] at H; have c3b0 : decide ((l0_0.length : Int) ≤ a1) = true := decide_eq_true c3; clear c3; obtain rfl := Option.some.inj H
    go_enter Try.func49, Try.ntmps49
    go_wp2_with (first | ((with_reducible refine gate_dst (N := 2) rfl ?_); refine box_event rz (N := 2) rz (cs := #[.slice A0_0 l0_0.length c0_0]) (t := 25) gs_ ?_; intro g0 hg w4 hbox hb; have b0 := m0 hbox; have G0 := gz_ HB hg; have e0 := gz_ HB hg; replace HB := sa HB hb; clear hb hbox hg; have hcz5_0 : w4.cell? ⟨g0, 0, none⟩ = some (.slice A0_0 l0_0.length c0_0) := bc b0; have hfz5_0 := blk_frozen b0.1 0))
    go_ret
    exact ⟨by first | rfl | (simp [errW_none, errW_some] <;> rfl) | (simp [*, errW_none, errW_some] <;> rfl), by repeat (first | (with_reducible first | exact HB.1 | apply below_alloc | apply pw_below_drewN | apply below_drew1 | refine below_set ?_ e0.1) | exact HB.1)⟩
  · rw [if_neg c3] at H; have c3b0 : decide ((l0_0.length : Int) ≤ a1) = false := decide_eq_false c3; clear c3
    by_cases c6 : 0 ≤ a1
    rotate_left
    · rw [if_neg c6] at H; exact absurd H (by simp)
    rw [if_pos c6] at H; have c6b0 : decide (0 ≤ a1) = true := decide_eq_true c6; clear c6
    by_cases c7 : a1 < (l0_0.length : Int)
    rotate_left
    · rw [if_neg c7] at H; exact absurd H (by simp)
    rw [if_pos c7] at H; have c7b0 : decide (a1 < (l0_0.length : Int)) = true := decide_eq_true c7; clear c7; obtain rfl := Option.some.inj H
    go_enter Try.func49, Try.ntmps49
    go_wp2_with (first | ((with_reducible refine gate_dst (N := 2) rfl ?_); refine box_event rz (N := 2) rz (cs := #[.slice A0_0 l0_0.length c0_0]) (t := 25) gs_ ?_; intro g0 hg w8 hbox hb; have b0 := m0 hbox; have G0 := gz_ HB hg; have e0 := gz_ HB hg; replace HB := sa HB hb; clear hb hbox hg; have hcz9_0 : w8.cell? ⟨g0, 0, none⟩ = some (.slice A0_0 l0_0.length c0_0) := bc b0; have hfz9_0 := blk_frozen b0.1 0; have p153 : 0 ≤ (a1 : Int) := of_decide_eq_true (by first | (with_reducible assumption) | assumption); have q153 : a1 < (l0_0.length : Int) := of_decide_eq_true (by first | (with_reducible assumption) | assumption); obtain ⟨ad153, e153, hx153_0⟩ := Kd.at_int HR0_0.out a1 p153 q153; cases e153; replace hx153_0 := (HB.1.cell (World.block_lt_of_cell? w _ hx153_0)).trans hx153_0; replace p153 := eq_true p153; replace q153 := eq_true q153))
    go_ret
    exact ⟨by first | rfl | (simp [errW_none, errW_some] <;> rfl) | (simp [*, errW_none, errW_some] <;> rfl), by repeat (first | (with_reducible first | exact HB.1 | apply below_alloc | apply pw_below_drewN | apply below_drew1 | refine below_set ?_ e0.1) | exact HB.1)⟩
def nat_Nat_Add.l0 : Nat → List Int → Int → Int → Int → List Int → List Int → Option (List Int)
 | 0, _, _, _, _, _, _ => none
 | k + 1, x5, x6, x18, x19, x155000, x156000 => if x19 < x18 then ((nat_Nat_limb.f x155000 x19).bind fun t160 => ((nat_Nat_limb.f x156000 x19).bind fun t161 => (if x6 ≤ 1 then (if 0 ≤ x19 then (if x19 < (x5.length : Int) then (nat_Nat_Add.l0 k (x5.set (x19 : Int).toNat (add64s t160 t161 x6)) (add64c t160 t161 x6) x18 (wrap64 (x19 + 1)) x155000 x156000) else (none)) else (none)) else (none)))) else ((nat_trimmed.f k x5).bind fun t163 => (some t163))
def nat_Nat_Add.f (k : Nat) (l0_0 : List Int) (l1_0 : List Int) : Option (List Int) := if 0 ≤ (wrap64 ((mx (l0_0.length : Int) (l1_0.length : Int)) + 1)) then (if (wrap64 ((mx (l0_0.length : Int) (l1_0.length : Int)) + 1) : Int).toNat ≤ 35184372088832 then ((some (List.replicate (wrap64 ((mx (l0_0.length : Int) (l1_0.length : Int)) + 1) : Int).toNat 0 : List Int)).bind fun y157 => (nat_Nat_Add.l0 k y157 0 (y157.length : Int) 0 l0_0 l1_0)) else (none)) else (none)
def nat_Nat_Add.T6 : Bool × List (List Nat × List Nat) := (true, [([], []), ([], []), ([], []), ([], []), ([2, 3], [2, 3]), ([], []), ([], []), ([5, 6, 4], [5, 6]), ([], []), ([4, 7, 8, 7], [4, 7, 8]), ([9], [9]), ([10], [10]), ([10], [10]), ([0, 1, 0, 1, 2, 3, 4, 5, 6, 7, 8, 9, 10, 11], [0, 1]), ([13, 11, 9, 0, 1, 2, 3, 4, 5, 6, 7, 8, 9, 10, 11], [11, 13]), ([12, 14, 0, 1, 2, 3, 4, 5, 6, 7, 8, 9, 10, 11, 12, 13, 14], [8, 12])])
def nat_Nat_Add.B6 : List Nat := [0, 0, 0, 0, 12, 0, 0, 124, 0, 508, 1020, 2044, 2044, 4095, 12287, 32767]
theorem nat_Nat_Add.tab6 : rtab .any (opsOf Try.f25 6) = nat_Nat_Add.T6 := by kernel_rfl
theorem nat_Nat_Add.bits6 : waitsOk nat_Nat_Add.T6.2 nat_Nat_Add.B6 = true := by kernel_rfl
set_option maxHeartbeats 8000000 in
set_option maxRecDepth 100000 in
theorem nat_Nat_Add.calls (k : Nat) (A0_0 : Option Addr) (c0_0 : Nat) (l0_0 : List Int) (A1_0 : Option Addr) (c1_0 : Nat) (l1_0 : List Int) (r : List Int) (w : World) (hr0_0 : Kd.C (Kd.int .u64) w A0_0 l0_0.length l0_0) (hc0_0 : l0_0.length ≤ c0_0) (hr1_0 : Kd.C (Kd.int .u64) w A1_0 l1_0.length l1_0) (hc1_0 : l1_0.length ≤ c1_0) (h : nat_Nat_Add.f k l0_0 l1_0 = some r) :
  Calls Try.prog 25 #[.agg #[.slice A0_0 l0_0.length c0_0], .agg #[.slice A1_0 l1_0.length c1_0]] w fun e w' => ∃ v0_ : Value, e = .returned (.agg #[v0_]) ∧ Kd.V (Kd.int .u64) 27 w' w.heap.size (fun k_ => (w.heap.size ≤ k_)) v0_ r ∧ Below w.heap.size w w' := by
 have hu25 := Try.underlying25; have HR0_0 := m0 hr0_0; have HC0_0 := m0 hc0_0; clear hr0_0 hc0_0; have HR1_0 := m0 hr1_0; have HC1_0 := m0 hc1_0; clear hr1_0 hc1_0; have HB := m0 (Below.refl w.heap.size w); have H : (if 0 ≤ (wrap64 ((mx (l0_0.length : Int) (l1_0.length : Int)) + 1)) then (if (wrap64 ((mx (l0_0.length : Int) (l1_0.length : Int)) + 1) : Int).toNat ≤ 35184372088832 then ((some (List.replicate (wrap64 ((mx (l0_0.length : Int) (l1_0.length : Int)) + 1) : Int).toNat 0 : List Int)).bind fun y157 => (nat_Nat_Add.l0 k y157 0 (y157.length : Int) 0 l0_0 l1_0)) else (none)) else (none)) = some r := h; clear h; obtain ⟨ji3, hji3⟩ : ∃ j_ : Int, (mx (l0_0.length : Int) (l1_0.length : Int)) = j_ := ⟨_, rfl⟩; (replace H : (if 0 ≤ (wrap64 ((ji3) + 1)) then (if (wrap64 ((ji3) + 1) : Int).toNat ≤ 35184372088832 then ((some (List.replicate (wrap64 ((ji3) + 1) : Int).toNat 0 : List Int)).bind fun y157 => (nat_Nat_Add.l0 k y157 0 (y157.length : Int) 0 l0_0 l1_0)) else (none)) else (none)) = some r := by first | (rw [hji3] at H; exact H) | (simp only [hji3] at H ⊢; exact H)); (try (have hji3l : 0 ≤ ji3 := by (rw [← hji3]; unfold mx; (repeat' split) <;> omega))); (try (have hji3m : 0 ≤ ji3 := by omega)); have hji3_ : (if (l0_0.length : Int) < (l1_0.length : Int) then (l1_0.length : Int) else (l0_0.length : Int)) = ji3 := hji3; (have hji3n_ : (if l0_0.length < l1_0.length then (l1_0.length : Int) else (l0_0.length : Int)) = ji3 := by rw [← hji3_]; simp only [Int.ofNat_lt]); obtain ⟨ji4, hji4⟩ : ∃ j_ : Int, (wrap64 ((ji3) + 1)) = j_ := ⟨_, rfl⟩; (replace H : (if 0 ≤ (ji4) then (if (ji4 : Int).toNat ≤ 35184372088832 then ((some (List.replicate (ji4 : Int).toNat 0 : List Int)).bind fun y157 => (nat_Nat_Add.l0 k y157 0 (y157.length : Int) 0 l0_0 l1_0)) else (none)) else (none)) = some r := by first | (rw [hji4] at H; exact H) | (simp only [hji4] at H ⊢; exact H)); have hji4w : (IntKind.i64.wrap ((ji3) + 1)) = ji4 := (i64_w _).trans hji4
 by_cases c5 : 0 ≤ (ji4)
 rotate_left
 ·rw [if_neg c5] at H; exact absurd H (by simp)
 rw [if_pos c5] at H; have c5b0 := eq_true c5; have c5b1 : decide (0 ≤ (ji4)) = true := decide_eq_true c5; clear c5
 by_cases c6 : (ji4 : Int).toNat ≤ 35184372088832
 rotate_left
 ·rw [if_neg c6] at H; exact absurd H (by simp)
 rw [if_pos c6] at H; have c6b0 := eq_true c6; have c6b1 : decide ((ji4 : Int).toNat ≤ 35184372088832) = true := decide_eq_true c6; clear c6; obtain ⟨y157, hy157⟩ : ∃ y_ : List Int, y_ = (List.replicate (ji4 : Int).toNat 0) := ⟨_, rfl⟩; (replace H : (nat_Nat_Add.l0 k y157 0 (y157.length : Int) 0 l0_0 l1_0) = some r := by first | (rw [hy157]; with_reducible exact H) | (have H2_ := (Option.bind_some _ _).symm.trans H; rw [hy157]; with_reducible exact H2_) | (have H2_ := (Option.bind_some _ _).symm.trans H; with_reducible exact H2_) | with_reducible exact H | (rw [hy157]; exact H) | exact H); have Ny157 := m0 hy157; clear hy157; have H' := m0 H; clear H
 go_enter Try.func25, Try.ntmps25
 go_wp2_with (first | ((with_reducible refine gate_dst (N := 2) rfl ?_); refine box_event rz (N := 2) rz (cs := #[.slice A0_0 l0_0.length c0_0]) (t := 25) gs_ ?_; intro g0 hg w7 hbox hb; have b0 := m0 hbox; have G0 := gz_ HB hg; have e0 := gz_ HB hg; replace HB := sa HB hb; clear hb hbox hg) | ((with_reducible refine gate_dst (N := 3) rfl ?_); refine box_event rz (N := 3) rz (cs := #[.slice A1_0 l1_0.length c1_0]) (t := 25) gs_ ?_; intro g1 hg w8 hbox hb; have b1 := m0 hbox; have G1 := gz_ HB hg; have e1 := gz_ HB hg; replace HB := sa HB hb; have z0 := n1 b0 hg; have z1 := n2 b0 hg; replace b0 := ba b0 hb; clear hb hbox hg) | ((with_reducible refine gate_dst (N := 4) rfl ?_); refine box_event rz (N := 4) rz (cs := #[.slice none 0 0]) (t := 25) gs_ ?_; intro g2 hg w9 hbox hb; have b2 := m0 hbox; have G2 := gz_ HB hg; have e2 := gz_ HB hg; replace HB := sa HB hb; have z2 := n1 b0 hg; have z3 := n2 b0 hg; replace b0 := ba b0 hb; have z4 := n1 b1 hg; have z5 := n2 b1 hg; replace b1 := ba b1 hb; clear hb hbox hg; have hnb10 := z0.1; have hnc10 := z1.1; have hnb11 := z2.1; have hnc11 := z3.1; have hcz12_0 : w9.cell? ⟨g0, 0, none⟩ = some (.slice A0_0 l0_0.length c0_0) := bc b0; have hfz12_0 := blk_frozen b0.1 0; have hnb13 := z4.1; have hnc13 := z5.1; have hcz14_0 : w9.cell? ⟨g1, 0, none⟩ = some (.slice A1_0 l1_0.length c1_0) := bc b1; have hfz14_0 := blk_frozen b1.1 0) | ((with_reducible refine gate_dst (N := 16) rfl ?_); refine Kd.R_make (Kd.int .u64) _ 27 rfl (N := 16) rfl 22 _ _ rfl ji4 rfl rfl Try.underlying22 (.int .u64 0) 8 info27 rfl (by decide) (by omega) 0 (ok := fun _ => True) (okp := fun _ => True) rfl (fun _ hk => hk) trivial (of_decide_eq_true (by first | (with_reducible assumption) | assumption)) (Nat.le_trans (Nat.mul_le_mul_right _ (of_decide_eq_true (by first | (with_reducible assumption) | assumption) : ji4.toNat ≤ 35184372088832)) (by omega)) (Below.refl _ _) (Nat.le_refl _) ?_; intro v158 w15 ho16 hb hg_ hnew_; clear hg_ hnew_; (first | rw [← Ny157.out] at ho16 | (simp only [Int.reduceToNat] at ho16; rw [← Ny157.out] at ho16)); have a2 := m0 (Kd.R_lower (Kd.R_newM (M := fun k_ => (w.heap.size ≤ k_)) ho16 (bz HB.1) (fun k_ h_ => h_)) (bz HB.1)); replace b0 := ba b0 hb; replace b1 := ba b1 hb; replace b2 := ba b2 hb; replace HB := sa HB hb; clear hb ho16; obtain ⟨D0, K0, j0⟩ := Kd.R_slice a2.1; subst j0))
 go_loopg [6, 19] k (fun kq v6 v19 w' => ∃ (x5_1 : List Int) (x6_1 : Int) (x19_1 : Int), v6 = .int .u64 x6_1 ∧ v19 = .int .i64 x19_1 ∧ Aside0 (nat_Nat_Add.l0 kq x5_1 x6_1 (y157.length : Int) x19_1 l0_0 l1_0 = some r) ∧ Aside0 (kq ≤ k) ∧ Aside0 (Kd.R (Kd.int .u64) 27 w' w.heap.size (fun k_ => (w.heap.size ≤ k_)) (.slice D0 y157.length K0) x5_1) ∧ Aside0 (w'.heap[g0]? = some (.cells #[(.slice A0_0 l0_0.length c0_0)] 25 (0, 0))) ∧ Aside0 (w'.heap[g1]? = some (.cells #[(.slice A1_0 l1_0.length c1_0)] 25 (0, 0))) ∧ Aside0 (w'.heap[g2]? = some (.cells #[(.slice none 0 0)] 25 (0, 0))) ∧ Aside0 (Below w.heap.size w w'))
 case atStart => exact ⟨(y157), (0), (0), (by first | rfl | (simp; done) | (simp [*]; done)), (by first | rfl | (simp; done) | (simp [*]; done)), H', ⟨Nat.le_refl _⟩, ⟨by (with_reducible repeat (first | apply Kd.R_alloc | apply Kd.R_drewN | apply Kd.R_drew)); exact Kd.R_mono a2.1 (fun _ hk => hk.1)⟩, ⟨by (with_reducible repeat (first | refine blk_drewN ?_ _ | refine blk_drew ?_ | refine blk_alloc ?_ _)); exact b0.1⟩, ⟨by (with_reducible repeat (first | refine blk_drewN ?_ _ | refine blk_drew ?_ | refine blk_alloc ?_ _)); exact b1.1⟩, ⟨by (with_reducible repeat (first | refine blk_drewN ?_ _ | refine blk_drew ?_ | refine blk_alloc ?_ _)); exact b2.1⟩, ⟨by repeat (first | (with_reducible first | exact HB.1 | apply below_alloc | apply pw_below_drewN | apply below_drew1 | refine below_set ?_ e0.1 | refine below_set ?_ e1.1 | refine below_set ?_ e2.1) | exact HB.1)⟩⟩
 case round =>
  clear H'; (try clear c1); (try clear c2); (try clear p2); (try clear c5); (try clear c5b0); (try clear c5b1); (try clear c6); (try clear c6b0); (try clear c6b1); (try clear p6); (try clear c10); (try clear c11); (try clear c13); (try clear hcz12_0); (try clear hcz14_0); (try clear hfz12_0); (try clear hfz14_0); obtain ⟨x5_1, x6_1, x19_1, rfl, rfl, HA, HK1, HO_5, b0, b1, b2, HB⟩ := hrel; have hl5_1 := (Kd.R_reads' HO_5.out).1; rw [hl5_1] at HO_5; (try simp only [hl5_1]); (try simp only [hl5_1] at b0); (try simp only [hl5_1] at b1); (try simp only [hl5_1] at b2); cases gk with
  | zero => exact absurd HA.out (by simp [nat_Nat_Add.l0])
  | succ k1 =>
   have H := HA.out; clear HA; simp only [nat_Nat_Add.l0] at H
   by_cases c18 : x19_1 < (y157.length : Int)
   ·rw [if_pos c18] at H; have c18b0 : decide (x19_1 < (y157.length : Int)) = true := decide_eq_true c18; have c18b0x := c18b0; (try simp only [hl5_1] at c18b0x); clear c18; replace H := Option.bind_eq_some_iff.mp H; obtain ⟨t160, A190, H⟩ := H; (try dsimp only at H); have A19 := m0 A190; clear A190; replace H := Option.bind_eq_some_iff.mp H; obtain ⟨t161, A200, H⟩ := H; (try dsimp only at H); have A20 := m0 A200; clear A200
    by_cases c21 : x6_1 ≤ 1
    rotate_left
    ·rw [if_neg c21] at H; exact absurd H (by simp)
    rw [if_pos c21] at H; have c21b0 := eq_true c21; have c21b1 : decide (x6_1 ≤ 1) = true := decide_eq_true c21; clear c21
    by_cases c22 : 0 ≤ x19_1
    rotate_left
    ·rw [if_neg c22] at H; exact absurd H (by simp)
    rw [if_pos c22] at H; have c22b0 : decide (0 ≤ x19_1) = true := decide_eq_true c22; clear c22
    by_cases c23 : x19_1 < (x5_1.length : Int)
    rotate_left
    ·rw [if_neg c23] at H; exact absurd H (by simp)
    rw [if_pos c23] at H; have c23b0 : decide (x19_1 < (x5_1.length : Int)) = true := decide_eq_true c23; have c23b0x := c23b0; (try simp only [hl5_1] at c23b0x); clear c23; obtain ⟨y162, hy162⟩ : ∃ y_ : List Int, y_ = (x5_1.set (x19_1 : Int).toNat (add64s t160 t161 x6_1)) := ⟨_, rfl⟩; (replace H : (nat_Nat_Add.l0 k1 y162 (add64c t160 t161 x6_1) (y157.length : Int) (wrap64 (x19_1 + 1)) l0_0 l1_0) = some r := by first | (rw [hy162]; with_reducible exact H) | (have H2_ := (Option.bind_some _ _).symm.trans H; rw [hy162]; with_reducible exact H2_) | (have H2_ := (Option.bind_some _ _).symm.trans H; with_reducible exact H2_) | with_reducible exact H | (rw [hy162]; exact H) | exact H); have Ny162 := m0 hy162; clear hy162; have H' := m0 H; clear H
    try go_wp2
    replace HO_5 := rd_ HO_5; replace b0 := bd b0; replace b1 := bd b1; replace b2 := bd b2; replace HB := sd HB; refine start_ (n := 16) (S := fun w' => w'.cell? ⟨g0, 0, none⟩ = some (.slice A0_0 l0_0.length c0_0) ∧ w'.cell? ⟨g1, 0, none⟩ = some (.slice A1_0 l1_0.length c1_0)) (ds := [14]) (fl 0 16 []) kr rfl rfl ⟨bc b0, bc b1⟩ (fun hHeld => ?_); refine with_tabW nat_Nat_Add.tab6 nat_Nat_Add.bits6 (fun HT_ HW_ => ?_)
    generalize wr.drew = w25 at HO_5 b0 b1 b2 HB hHeld ⊢
    refine pure_ (i := 0) (N := some 23) (v := ?_) (a' := ?_) (fl 1 16 []) rfl rfl (any_of HT_.1 kr) (fun _ _ _ h => h) (Or.inl ⟨by rfl, ?_⟩) ?_ ?_; rotate_left
    ·intro w'; go_simp; with_reducible rfl
    rotate_left
    ·simp only [Act.put, sA, sB, sC, i64_w, i32_w]; rfl
    refine pure_ (i := 1) (N := some 24) (v := ?_) (a' := ?_) (fl 2 16 []) rfl rfl (any_of HT_.1 kr) (fun _ _ _ h => h) (Or.inl ⟨by rfl, ?_⟩) ?_ ?_; rotate_left
    ·intro w'; go_simp; with_reducible rfl
    rotate_left
    ·simp only [Act.put, sA, sB, sC, i64_w, i32_w]; rfl
    refine pure_ (i := 3) (N := some 26) (v := ?_) (a' := ?_) (fl 2 16 [3]) rfl rfl (any_of HT_.1 kr) (fun _ _ _ h => h) (Or.inl ⟨by rfl, ?_⟩) ?_ ?_; rotate_left
    ·intro w'; go_simp; with_reducible rfl
    rotate_left
    ·simp only [Act.put, sA, sB, sC, i64_w, i32_w]; rfl
    refine pure_ (i := 6) (N := some 29) (v := ?_) (a' := ?_) (fl 2 16 [3, 6]) rfl rfl (any_of HT_.1 kr) (fun _ _ _ h => h) (Or.inl ⟨by rfl, ?_⟩) ?_ ?_; rotate_left
    ·intro w'; go_simp; with_reducible rfl
    rotate_left
    ·simp only [Act.put, sA, sB, sC, i64_w, i32_w]; rfl
    refine pure_ (i := 8) (N := some 31) (v := ?_) (a' := ?_) (fl 2 16 [3, 6, 8]) rfl rfl (any_of HT_.1 kr) (fun _ _ _ h => h) (Or.inl ⟨by rfl, ?_⟩) ?_ ?_; rotate_left
    ·intro w'; go_simp; with_reducible rfl
    rotate_left
    ·simp only [Act.put, sA, sB, sC, i64_w, i32_w]; rfl
    refine take_ (i := 2) (N := some 25) (v := ?_) (a' := ?_) (fl 4 16 [6, 8]) rfl rfl (take_ofW HT_.1 HW_.1 kr) (fun _ _ _ h => h) (Or.inl ⟨by rfl, ?_⟩) hHeld ?_ ?_; rotate_left
    ·rintro w' ⟨s0, s1⟩; go_simp; with_reducible rfl
    rotate_left
    ·simp only [Act.put, sA, sB, sC, i64_w, i32_w]; rfl
    refine take_ (i := 5) (N := some 28) (v := ?_) (a' := ?_) (fl 4 16 [5, 6, 8]) rfl rfl (take_ofW HT_.1 HW_.1 kr) (fun _ _ _ h => h) (Or.inl ⟨by rfl, ?_⟩) hHeld ?_ ?_; rotate_left
    ·rintro w' ⟨s0, s1⟩; go_simp; with_reducible rfl
    rotate_left
    ·simp only [Act.put, sA, sB, sC, i64_w, i32_w]; rfl
    refine one_ (i := 4) (N := some 27) (fl 7 16 [8]) rfl rfl (one_of HT_.1 kr) (by decide) (fun K hK => ?_); refine goes_ Try.func49 kr rfl #[.agg #[.slice A0_0 l0_0.length c0_0], .int .i64 x19_1] (by rfl) rfl rfl gm ?_; (with_reducible refine (nat_Nat_limb.calls _ _ l0_0 x19_1 t160 _ ?side1 ?side2 A19.1).mono ?_); (case side1 => repeat (first | exact (Kd.C_below HR0_0.out HB.1) | (with_reducible refine Kd.C_alloc ?_ _) | (with_reducible refine Kd.C_drewN ?_ _) | (with_reducible refine Kd.C_drew ?_))); (case side2 => exact HC0_0.out); rintro e w26 ⟨rfl, hb⟩; refine ⟨_, rfl, ?_⟩; replace HO_5 := ra HO_5 hb; replace b0 := ba b0 hb; replace b1 := ba b1 hb; replace b2 := ba b2 hb; replace HB := sa HB hb; clear hb; refine hK.out _ _ ⟨bc b0, bc b1⟩ (fun hHeld => ?_); clear hK K; refine norm_ (a' := ?_) ?_ ?_; rotate_left
    ·show Act.put _ (some 27) _ = _; simp only [Act.put, sA, sB, sC, i64_w, i32_w]; rfl
    refine one_ (i := 7) (N := some 30) (fl 9 16 []) rfl rfl (one_of HT_.1 kr) (by decide) (fun K hK => ?_); refine goes_ Try.func49 kr rfl #[.agg #[.slice A1_0 l1_0.length c1_0], .int .i64 x19_1] (by rfl) rfl rfl gm ?_; (with_reducible refine (nat_Nat_limb.calls _ _ l1_0 x19_1 t161 _ ?side1 ?side2 A20.1).mono ?_); (case side1 => repeat (first | exact (Kd.C_below HR1_0.out HB.1) | (with_reducible refine Kd.C_alloc ?_ _) | (with_reducible refine Kd.C_drewN ?_ _) | (with_reducible refine Kd.C_drew ?_))); (case side2 => exact HC1_0.out); rintro e w27 ⟨rfl, hb⟩; refine ⟨_, rfl, ?_⟩; replace HO_5 := ra HO_5 hb; replace b0 := ba b0 hb; replace b1 := ba b1 hb; replace b2 := ba b2 hb; replace HB := sa HB hb; clear hb; have p24 : 0 ≤ (x19_1 : Int) := of_decide_eq_true (by first | (with_reducible assumption) | assumption); have q24 : (x19_1 : Int) < ((x5_1.length : Int) : Int) := of_decide_eq_true (by first | (with_reducible assumption) | assumption); obtain ⟨go24, K1, j1, g3, gl24, cl24, HG24⟩ := Kd.R_form HO_5.out (by omega); (first | cases j1 | (injection j1 with ea_ en_ ec_; (first | subst ea_ | (injection ea_ with ea_; subst ea_)); subst ec_; clear en_)); have GB24 := m0 g3; have GG24 := m0 HG24; clear g3 gl24 HG24; obtain ⟨hx24_0, hf24_0⟩ := Kd.R_celln 0 HO_5.out (x19_1 : Int) p24 q24; replace p24 := eq_true p24; replace q24 := eq_true q24; have HP28 := Kd.R_putn HO_5.out (x19_1 : Int) (add64s t160 t161 x6_1); rw [← Ny162.out] at HP28; have HQ28 := m0 HP28; clear HP28; refine hK.out _ _ ⟨bc b0, bc b1⟩ (fun hHeld => ?_); clear hK K; refine norm_ (a' := ?_) ?_ ?_; rotate_left
    ·show Act.put _ (some 30) _ = _; simp only [Act.put, sA, sB, sC, i64_w, i32_w]; rfl
    refine pure_ (i := 9) (N := some 32) (v := ?_) (a' := ?_) (fl 10 16 []) rfl rfl (any_of HT_.1 kr) (fun _ _ _ h => h) (Or.inl ⟨by rfl, ?_⟩) ?_ ?_; rotate_left
    ·intro w'; go_simp; with_reducible rfl
    rotate_left
    ·simp only [Act.put, sA, sB, sC, i64_w, i32_w]; rfl
    refine pure_ (i := 10) (N := some 22) (v := ?_) (a' := ?_) (fl 11 16 []) rfl rfl (any_of HT_.1 kr) (fun _ _ _ h => h) (Or.inl ⟨by rfl, ?_⟩) ?_ ?_; rotate_left
    ·intro w'; go_simp; with_reducible rfl
    rotate_left
    ·simp only [Act.put, sA, sB, sC, i64_w, i32_w]; rfl
    refine pure_ (i := 11) (N := some 33) (v := ?_) (a' := ?_) (fl 12 16 []) rfl rfl (any_of HT_.1 kr) (fun _ _ _ h => h) (Or.inl ⟨by rfl, ?_⟩) ?_ ?_; rotate_left
    ·intro w'; go_simp; with_reducible rfl
    rotate_left
    ·simp only [Act.put, sA, sB, sC, i64_w, i32_w]; rfl
    refine pure_ (i := 12) (N := some 34) (v := ?_) (a' := ?_) (fl 13 16 []) rfl rfl (any_of HT_.1 kr) (fun _ _ _ h => h) (Or.inl ⟨by rfl, ?_⟩) ?_ ?_; rotate_left
    ·intro w'; go_simp; with_reducible rfl
    rotate_left
    ·simp only [Act.put, sA, sB, sC, i64_w, i32_w]; rfl
    refine pure_ (i := 13) (N := some 35) (v := ?_) (a' := ?_) (fl 14 16 []) rfl rfl (any_of HT_.1 kr) (fun _ _ _ h => h) (Or.inl ⟨by rfl, ?_⟩) ?_ ?_; rotate_left
    ·intro w'; go_simp; with_reducible rfl
    rotate_left
    ·simp only [Act.put, sA, sB, sC, i64_w, i32_w]; rfl
    refine last_ (i := 14) (N := none) (fl 15 16 []) rfl rfl (one_of HT_.1 kr) (by decide) (fun K hK => ?_); refine skip_ (w1 := ?_) (by rfl) rfl ?_ ?_; rotate_left
    ·go_simp; rfl
    refine hK.out _ _ ?_; clear hK K; refine pure_ (i := 15) (N := some 6) (v := ?_) (a' := ?_) (fl 16 16 []) rfl rfl (any_of HT_.1 kr) (fun _ _ _ h => h) (Or.inl ⟨by rfl, ?_⟩) ?_ ?_; rotate_left
    ·intro w'; go_simp; with_reducible rfl
    rotate_left
    ·simp only [Act.put, sA, sB, sC, i64_w, i32_w]; rfl
    refine done_ (done_of HT_.1 kr) ?_
    try go_wp2
    (try simp only [← hl5_1])
    go_roundg k1
    case measure => have := HK1.out; omega
    case rel => exact ⟨(y162), (add64c t160 t161 x6_1), (wrap64 (x19_1 + 1)), (by first | rfl | (simp; done) | (simp [*]; done)), (by first | rfl | (simp; done) | (simp [*]; done)), H', ⟨by have := HK1.out; omega⟩, ⟨by (try simp only [hl5_1]); (with_reducible repeat (first | apply Kd.R_alloc | apply Kd.R_drewN | apply Kd.R_drew)); exact HQ28.out⟩, ⟨by (try simp only [hl5_1]); (with_reducible repeat (first | refine blk_drewN ?_ _ | refine blk_drew ?_ | refine blk_alloc ?_ _)); refine blk_far ?_ (by have h_ := Kd.R_ne HO_5.out b0.1 (by decide); intro e_; exact h_ (by rw [e_]; rfl)) _; (with_reducible repeat (first | refine blk_drewN ?_ _ | refine blk_drew ?_ | refine blk_alloc ?_ _)); exact b0.1⟩, ⟨by (try simp only [hl5_1]); (with_reducible repeat (first | refine blk_drewN ?_ _ | refine blk_drew ?_ | refine blk_alloc ?_ _)); refine blk_far ?_ (by have h_ := Kd.R_ne HO_5.out b1.1 (by decide); intro e_; exact h_ (by rw [e_]; rfl)) _; (with_reducible repeat (first | refine blk_drewN ?_ _ | refine blk_drew ?_ | refine blk_alloc ?_ _)); exact b1.1⟩, ⟨by (try simp only [hl5_1]); (with_reducible repeat (first | refine blk_drewN ?_ _ | refine blk_drew ?_ | refine blk_alloc ?_ _)); refine blk_far ?_ (by have h_ := Kd.R_ne HO_5.out b2.1 (by decide); intro e_; exact h_ (by rw [e_]; rfl)) _; (with_reducible repeat (first | refine blk_drewN ?_ _ | refine blk_drew ?_ | refine blk_alloc ?_ _)); exact b2.1⟩, ⟨by repeat (first | (with_reducible first | exact HB.1 | apply below_alloc | apply pw_below_drewN | apply below_drew1 | refine below_set ?_ GB24.out | refine below_set ?_ e0.1 | refine below_set ?_ e1.1 | refine below_set ?_ e2.1) | exact HB.1)⟩⟩
   ·rw [if_neg c18] at H; have c18b0 : decide (x19_1 < (y157.length : Int)) = false := decide_eq_false c18; have c18b0x := c18b0; (try simp only [hl5_1] at c18b0x); clear c18; replace H := Option.bind_eq_some_iff.mp H; obtain ⟨t163, A290, H⟩ := H; (try dsimp only at H); have A29 := m0 A290; clear A290; obtain rfl := Option.some.inj H
    go_wp2_with (first | ((with_reducible refine gate_callee (f := 42) rfl ?_); refine goesL_ (some 38) rfl rfl Try.func42 kr rfl #[.slice D0 x5_1.length K0] rfl gm ?_; (with_reducible refine (nat_trimmed.calls k1 (fun k_ => some k_ = (.slice D0 x5_1.length K0 : Value).ownBlock) _ _ x5_1 t163 _ ?side1 A29.1).mono ?_); (case side1 => exact Kd.R_V (Kd.R_tight rfl (Kd.R_types (Kd.R_types (Kd.R_types (HO_5.out) b0.1 (by decide)) b1.1 (by decide)) b2.1 (by decide)))); rintro e w30 ⟨v164, rfl, ho0, hb⟩; refine ⟨_, rfl, ?_⟩; have a3 := m0 (Kd.V_lower (Kd.V_mono (ok' := fun k_ => (w.heap.size ≤ k_) ∧ k_ ≠ g0 ∧ k_ ≠ g1 ∧ k_ ≠ g2) ho0 (fun k_ hk_ => ⟨Or.elim hk_ (fun hs_ => ((Kd.R_types (Kd.R_types (Kd.R_types (HO_5.out) b0.1 (by decide)) b1.1 (by decide)) b2.1 (by decide)).1 k_ hs_.symm).1.1.1) (fun hn_ => (Nat.le_trans (bz HB.1) hn_)), Or.elim hk_ (fun hs_ => ((Kd.R_types (Kd.R_types (Kd.R_types (HO_5.out) b0.1 (by decide)) b1.1 (by decide)) b2.1 (by decide)).1 k_ hs_.symm).1.1.2) (fun hn_ => (fb b0.1 k_ hn_)), Or.elim hk_ (fun hs_ => ((Kd.R_types (Kd.R_types (Kd.R_types (HO_5.out) b0.1 (by decide)) b1.1 (by decide)) b2.1 (by decide)).1 k_ hs_.symm).1.2) (fun hn_ => (fb b1.1 k_ hn_)), Or.elim hk_ (fun hs_ => ((Kd.R_types (Kd.R_types (Kd.R_types (HO_5.out) b0.1 (by decide)) b1.1 (by decide)) b2.1 (by decide)).1 k_ hs_.symm).2) (fun hn_ => (fb b2.1 k_ hn_))⟩)) (bz HB.1)); replace HO_5 := ra HO_5 hb; replace b0 := ba b0 hb; replace b1 := ba b1 hb; replace b2 := ba b2 hb; replace HB := sa HB hb; clear hb ho0; obtain ⟨D1, K2, j2⟩ := Kd.V_slice a3.1; subst j2; have hnb32 := z3.1; have hnc32 := z2.1; have hnb33 := z5.1; have hnc33 := z4.1; have hcz34_0 : w30.cell? ⟨g2, 0, none⟩ = some (.slice none 0 0) := bc b2; have hfz34_0 := blk_frozen b2.1 0))
    refine bodyPost_ret (results_cell_row rfl _ _ g2 25 #[.slice D1 t163.length K2] (0, 0) _ rfl (by (with_reducible repeat (first | refine blk_drewN ?_ _ | refine blk_drew ?_ | refine blk_alloc ?_ _)); refine blk_put (cs := #[.slice none 0 0]) ?_ 0 _ rfl; (with_reducible repeat (first | refine blk_drewN ?_ _ | refine blk_drew ?_ | refine blk_alloc ?_ _)); exact b2.1) Try.underlying25 rfl kr) rfl ?_; exact ⟨_, by first | rfl | (simp [errW_none, errW_some] <;> rfl) | (simp only [← hji3, ← hji4]; first | rfl | (simp [errW_none, errW_some] <;> rfl)) | (simp [*, errW_none, errW_some] <;> rfl), by (with_reducible repeat (first | apply Kd.V_alloc | apply Kd.V_drewN | apply Kd.V_drew)); exact Kd.V_mono (Kd.V_far (p := ⟨g2, 0, none⟩) (Kd.V_mono a3.1 (fun _ hk => And.intro hk hk.2.2.2)) (fun _ hk => hk.2) (.slice D1 t163.length K2)) (fun _ hk => hk.1.1), by repeat (first | (with_reducible first | exact HB.1 | apply below_alloc | apply pw_below_drewN | apply below_drew1 | refine below_set ?_ e0.1 | refine below_set ?_ e1.1 | refine below_set ?_ e2.1) | exact HB.1)⟩
def bits_Mul64.f (a0 : Int) (a1 : Int) : Option (Int × Int) := some (IntKind.u64.wrap ((IntKind.u64.wrap ((IntKind.u64.wrap ((a0 / 4294967296) * (a1 / 4294967296))) + ((IntKind.u64.wrap ((IntKind.u64.wrap ((a0 / 4294967296) * (Go.bits .and .u64 a1 4294967295))) + ((IntKind.u64.wrap ((Go.bits .and .u64 a0 4294967295) * (Go.bits .and .u64 a1 4294967295))) / 4294967296))) / 4294967296))) + ((IntKind.u64.wrap ((Go.bits .and .u64 (IntKind.u64.wrap ((IntKind.u64.wrap ((a0 / 4294967296) * (Go.bits .and .u64 a1 4294967295))) + ((IntKind.u64.wrap ((Go.bits .and .u64 a0 4294967295) * (Go.bits .and .u64 a1 4294967295))) / 4294967296))) 4294967295) + (IntKind.u64.wrap ((Go.bits .and .u64 a0 4294967295) * (a1 / 4294967296))))) / 4294967296)), IntKind.u64.wrap (a0 * a1))
set_option maxHeartbeats 8000000 in
set_option maxRecDepth 100000 in
theorem bits_Mul64.calls (a0 : Int) (a1 : Int) (r1 : Int) (r2 : Int) (w : World) (h : bits_Mul64.f a0 a1 = some (r1, r2)) :
    Calls Try.prog 61 #[.int .u64 a0, .int .u64 a1] w fun e w' => e = .returned (.tuple #[.int .u64 r1, .int .u64 r2]) ∧ Drawn0 w w' := by
  have H : (some (IntKind.u64.wrap ((IntKind.u64.wrap ((IntKind.u64.wrap ((a0 / 4294967296) * (a1 / 4294967296))) + ((IntKind.u64.wrap ((IntKind.u64.wrap ((a0 / 4294967296) * (Go.bits .and .u64 a1 4294967295))) + ((IntKind.u64.wrap ((Go.bits .and .u64 a0 4294967295) * (Go.bits .and .u64 a1 4294967295))) / 4294967296))) / 4294967296))) + ((IntKind.u64.wrap ((Go.bits .and .u64 (IntKind.u64.wrap ((IntKind.u64.wrap ((a0 / 4294967296) * (Go.bits .and .u64 a1 4294967295))) + ((IntKind.u64.wrap ((Go.bits .and .u64 a0 4294967295) * (Go.bits .and .u64 a1 4294967295))) / 4294967296))) 4294967295) + (IntKind.u64.wrap ((Go.bits .and .u64 a0 4294967295) * (a1 / 4294967296))))) / 4294967296)), IntKind.u64.wrap (a0 * a1))) = some (r1, r2) := h; clear h; simp only [Option.some.injEq, Prod.mk.injEq] at H; obtain ⟨rfl, rfl⟩ := H
  go_enter Try.func61, Try.ntmps61
  go_wp2
  go_ret2
  exact ⟨by first | rfl | (simp; done) | (simp [*]; done), by repeat (first | exact Drawn0.refl _ | apply Drawn0.step)⟩
def nat_Nat_row.l0 : Nat → Int → List Int → Int → List Int → Int → Int → List Int → Option (List Int)
 | 0, _, _, _, _, _, _, _ => none
 | k + 1, x1, x2, x6, x13, x14, x15, x311000 => if x15 < x14 then (if 0 ≤ x15 then (if x15 < (x13.length : Int) then ((bits_Mul64.f x1 (rd x13 x15)).bind fun bt312 => (if x15 < (x2.length : Int) then (nat_Nat_row.l0 k x1 (x2.set (x15 : Int).toNat (add64s (rd x2 x15) (add64s bt312.2 x6 0) 0)) (IntKind.u64.wrap ((IntKind.u64.wrap (bt312.1 + (add64c bt312.2 x6 0))) + (add64c (rd x2 x15) (add64s bt312.2 x6 0) 0))) x13 x14 (wrap64 (x15 + 1)) x311000) else (none))) else (none)) else (none)) else (if 0 ≤ (x311000.length : Int) then (if (x311000.length : Int) < (x2.length : Int) then (some (x2.set ((x311000.length : Int) : Int).toNat (IntKind.u64.wrap ((rd x2 (x311000.length : Int)) + x6)))) else (none)) else (none))
def nat_Nat_row.f (k : Nat) (l0_0 : List Int) (a1 : Int) (l2 : List Int) : Option (List Int) := nat_Nat_row.l0 k a1 l2 0 l0_0 (l0_0.length : Int) 0 l0_0
theorem nat_Nat_row.mono_l : ∀ k, (∀ y0 y1 y2 y3 y4 y5 y6, LeO (nat_Nat_row.l0 k y0 y1 y2 y3 y4 y5 y6) (nat_Nat_row.l0 (k + 1) y0 y1 y2 y3 y4 y5 y6))
 | 0 => fun _ _ _ _ _ _ _ r h => by simp [nat_Nat_row.l0] at h
 | k + 1 => by
  have ih0 := nat_Nat_row.mono_l k
  ·intro y0 y1 y2 y3 y4 y5 y6; unfold nat_Nat_row.l0
   repeat' first
   | (with_reducible exact ih0 _ _ _ _ _ _ _)
   | (with_reducible exact LeO.refl _)
   | (with_reducible exact LeO.none _)
   | (with_reducible refine LeO.ite ?_ ?_)
   | (with_reducible refine LeO.bind ?_ (fun _ => ?_))
   | exact ih0 _ _ _ _ _ _ _
   | exact LeO.none _
   | refine LeO.ite ?_ ?_
   | refine LeO.bind ?_ (fun _ => ?_)
theorem nat_Nat_row.mono : ∀ a0 a1 a2 k, LeO (nat_Nat_row.f k a0 a1 a2) (nat_Nat_row.f (k + 1) a0 a1 a2) := by
 intro a0 a1 a2 k; have ih0 := nat_Nat_row.mono_l k; unfold nat_Nat_row.f
 repeat' first
   | (with_reducible exact ih0 _ _ _ _ _ _ _)
   | (with_reducible exact LeO.refl _)
   | (with_reducible exact LeO.none _)
   | (with_reducible refine LeO.ite ?_ ?_)
   | (with_reducible refine LeO.bind ?_ (fun _ => ?_))
   | exact ih0 _ _ _ _ _ _ _
   | exact LeO.none _
   | refine LeO.ite ?_ ?_
   | refine LeO.bind ?_ (fun _ => ?_)
set_option maxHeartbeats 8000000 in
set_option maxRecDepth 100000 in
theorem nat_Nat_row.callsX (k : Nat) (D_ : XD) (A0_0 : Option Addr) (c0_0 : Nat) (l0_0 : List Int) (a1 : Int) (P2_ : Nat → Prop) (u9000_ : Value) (l2 : List Int) (r : List Int) (w0 w : World) (hB : Below w0.heap.size w0 w) (hr0_0 : ∀ W_, Kept w W_ (fun k_ => P2_ k_) → Kd.C (Kd.int .u64) W_ A0_0 l0_0.length l0_0) (hc0_0 : l0_0.length ≤ c0_0) (ho2 : XW .u64 D_ 27 w w0.heap.size P2_ u9000_ l2) (h : nat_Nat_row.f k l0_0 a1 l2 = some r) :
  Calls Try.prog 47 #[.agg #[.slice A0_0 l0_0.length c0_0], .int .u64 a1, u9000_] w fun e w' => e = .returned (.tuple #[]) ∧ XW .u64 D_ 27 w' w0.heap.size (fun k_ => (P2_ k_ ∨ w.heap.size ≤ k_)) u9000_ r ∧ Below w0.heap.size w0 w' ∧ Kept w w' (fun k_ => P2_ k_) := by
 have hu25 := Try.underlying25; have HR0_0 := m0 hr0_0; have HC0_0 := m0 hc0_0; clear hr0_0 hc0_0; have a5 := m0 (show XW .u64 D_ 27 w w0.heap.size (fun k_ => (P2_ k_ ∨ w.heap.size ≤ k_)) u9000_ l2 from XW_mono ho2 (fun k_ hk => (.inl hk))); have HK := m0 (Kept.refl w (fun k_ => P2_ k_)); have HW0 := m0 hB.size; have HB := m0 hB; clear hB; have H : (nat_Nat_row.l0 k a1 l2 0 l0_0 (l0_0.length : Int) 0 l0_0) = some r := h; clear h; have H' := m0 H; clear H
 go_enter Try.func47, Try.ntmps47
 go_wp2_with (first | ((with_reducible refine gate_dst (N := 3) rfl ?_); refine box_event rz (N := 3) rz (cs := #[.slice A0_0 l0_0.length c0_0]) (t := 25) gs_ ?_; intro g0 hg w4 hbox hb; replace a5 := m0 (XW_below (by (with_reducible repeat (first | apply XW_alloc | apply XW_drewN | apply XW_drew)); exact a5.1) hb); have b0 := m0 hbox; have G0 := m0 ((by rw [hg]; exact (by first | exact HK.out.1 | exact (show Kept w _ (fun k_ => P2_ k_) from by repeat (first | (with_reducible first | exact HK.out | apply Kept.alloc | apply Kept.drewN | apply Kept.drew) | exact HK.out)).1) : w.heap.size ≤ g0)); replace HK := m0 (Kept.below (S := (fun k_ => P2_ k_)) (by repeat (first | (with_reducible first | exact HK.out | apply Kept.alloc | apply Kept.drewN | apply Kept.drew) | exact HK.out)) hb); have e0 := m0 ((by rw [hg]; exact (bz HB.1) : w0.heap.size ≤ g0)); replace HB := sa HB hb; clear hb hbox hg; have hcz5_0 : w4.cell? ⟨g0, 0, none⟩ = some (.slice A0_0 l0_0.length c0_0) := bc b0; have hfz5_0 := blk_frozen b0.1 0))
 go_loopg [6, 15] k (fun kq v6 v15 w' => ∃ (x2_1 : List Int) (x6_1 : Int) (x15_1 : Int), v6 = .int .u64 x6_1 ∧ v15 = .int .i64 x15_1 ∧ Aside0 (nat_Nat_row.l0 kq a1 x2_1 x6_1 l0_0 (l0_0.length : Int) x15_1 l0_0 = some r) ∧ Aside0 (kq ≤ k) ∧ Aside0 (XW .u64 D_ 27 w' w0.heap.size (fun k_ => (P2_ k_ ∨ w.heap.size ≤ k_)) u9000_ x2_1) ∧ Aside0 (w'.heap[g0]? = some (.cells #[(.slice A0_0 l0_0.length c0_0)] 25 (0, 0))) ∧ Aside0 (Kept w w' (fun k_ => P2_ k_)) ∧ Aside0 (Below w0.heap.size w0 w'))
 case atStart => exact ⟨(l2), (0), (0), (by first | rfl | (simp; done) | (simp [*]; done)), (by first | rfl | (simp; done) | (simp [*]; done)), H', ⟨Nat.le_refl _⟩, ⟨by (with_reducible repeat (first | apply XW_alloc | apply XW_drewN | apply XW_drew)); exact a5.1⟩, ⟨by (with_reducible repeat (first | refine blk_drewN ?_ _ | refine blk_drew ?_ | refine blk_alloc ?_ _)); exact b0.1⟩, ⟨by repeat (first | (with_reducible first | exact HK.out | apply Kept.alloc | apply Kept.drewN | apply Kept.drew | refine Kept.setCell ?_ (.inr G0.1) _) | exact HK.out)⟩, ⟨by repeat (first | (with_reducible first | exact HB.1 | apply below_alloc | apply pw_below_drewN | apply below_drew1 | refine below_set ?_ e0.1) | exact HB.1)⟩⟩
 case round =>
  clear H'; (try clear p2); (try clear c4); (try clear hcz5_0); (try clear hfz5_0); obtain ⟨x2_1, x6_1, x15_1, rfl, rfl, HA, HK1, HO_2, b0, HK, HB⟩ := hrel; cases gk with
  | zero => exact absurd HA.out (by simp [nat_Nat_row.l0])
  | succ k1 =>
   have H := HA.out; clear HA; simp only [nat_Nat_row.l0] at H
   by_cases c6 : x15_1 < (l0_0.length : Int)
   ·rw [if_pos c6] at H; have c6b0 : decide (x15_1 < (l0_0.length : Int)) = true := decide_eq_true c6; clear c6
    by_cases c7 : 0 ≤ x15_1
    rotate_left
    ·rw [if_neg c7] at H; exact absurd H (by simp)
    rw [if_pos c7] at H; have c7b0 : decide (0 ≤ x15_1) = true := decide_eq_true c7; clear c7
    by_cases c8 : x15_1 < (l0_0.length : Int)
    rotate_left
    ·rw [if_neg c8] at H; exact absurd H (by simp)
    rw [if_pos c8] at H; have c8b0 : decide (x15_1 < (l0_0.length : Int)) = true := decide_eq_true c8; clear c8; replace H := Option.bind_eq_some_iff.mp H; obtain ⟨⟨t312, t313⟩, A90, H⟩ := H; (try dsimp only at H); have A9 := m0 A90; clear A90
    by_cases c10 : x15_1 < (x2_1.length : Int)
    rotate_left
    ·rw [if_neg c10] at H; exact absurd H (by simp)
    rw [if_pos c10] at H; have c10b0 : decide (x15_1 < (x2_1.length : Int)) = true := decide_eq_true c10; clear c10; obtain ⟨y315, hy315⟩ : ∃ y_ : List Int, y_ = (x2_1.set (x15_1 : Int).toNat (add64s (rd x2_1 x15_1) (add64s t313 x6_1 0) 0)) := ⟨_, rfl⟩; (replace H : (nat_Nat_row.l0 k1 a1 y315 (IntKind.u64.wrap ((IntKind.u64.wrap (t312 + (add64c t313 x6_1 0))) + (add64c (rd x2_1 x15_1) (add64s t313 x6_1 0) 0))) l0_0 (l0_0.length : Int) (wrap64 (x15_1 + 1)) l0_0) = some r := by first | (rw [hy315]; with_reducible exact H) | (have H2_ := (Option.bind_some _ _).symm.trans H; rw [hy315]; with_reducible exact H2_) | (have H2_ := (Option.bind_some _ _).symm.trans H; with_reducible exact H2_) | with_reducible exact H | (rw [hy315]; exact H) | exact H); have Ny315 := m0 hy315; clear hy315; have H' := m0 H; clear H; have p311 : 0 ≤ (x15_1 : Int) := of_decide_eq_true (by first | (with_reducible assumption) | assumption); have q311 : x15_1 < (l0_0.length : Int) := of_decide_eq_true (by first | (with_reducible assumption) | assumption); obtain ⟨ad311, e311, hx311_0⟩ := Kd.at_int (Kd.C_kept_now HR0_0.out HK.out) x15_1 p311 q311; cases e311; replace p311 := eq_true p311; replace q311 := eq_true q311
    go_wp2_with (first | ((with_reducible refine gate_callee (f := 61) rfl ?_); refine goesL_ (some 23) rfl rfl Try.func61 kr rfl #[.int .u64 a1, .int .u64 (rd l0_0 x15_1)] rfl gm ?_; (with_reducible refine (bits_Mul64.calls a1 (rd l0_0 x15_1) t312 t313 _ A9.1).mono ?_); rintro e w' ⟨rfl, ⟨nd, rfl⟩⟩; refine ⟨_, rfl, ?_⟩; (try (rw [drewN_self wr]; generalize hq_ : World.drewN wr _ = wr; have n0_ : Aside0 (XW .u64 D_ 27 wr w0.heap.size (fun k_ => (P2_ k_ ∨ w.heap.size ≤ k_)) u9000_ x2_1) := ⟨by rw [← hq_]; exact (by (with_reducible repeat (first | apply XW_alloc | apply XW_drewN | apply XW_drew)); exact HO_2.out)⟩; have n1_ : Aside0 (wr.heap[g0]? = some (.cells #[.slice (some ad311) l0_0.length c0_0] 25 (0, 0))) := ⟨by rw [← hq_]; exact b0.1⟩; have n2_ : Aside0 (Kept w wr (fun k_ => P2_ k_)) := ⟨by rw [← hq_]; exact (by repeat (first | (with_reducible first | exact HK.out | apply Kept.alloc | apply Kept.drewN | apply Kept.drew | refine Kept.setCell ?_ (.inr G0.1) _) | exact HK.out))⟩; have n3_ : Aside0 (Below w0.heap.size w0 wr) := ⟨by rw [← hq_]; exact bq⟩; clear HO_2 b0 HK HB hq_; have HO_2 := n0_; have b0 := n1_; have HK := n2_; have HB := n3_; clear n0_ n1_ n2_ n3_; have hygb310_0 : wr.cell? ⟨g0, 0, none⟩ = some (.slice (some ad311) l0_0.length c0_0) := bc b0; have hwgb310_0 := blk_frozen b0.1 0)); obtain ⟨D0, K0, j0⟩ := XW_slice HO_2.out; subst j0; have p314 : 0 ≤ (x15_1 : Int) := of_decide_eq_true (by first | (with_reducible assumption) | assumption); have q314 : x15_1 < (x2_1.length : Int) := of_decide_eq_true (by first | (with_reducible assumption) | assumption); obtain ⟨ad314, e314, hx314_0⟩ := Kd.at_int (XW_reads' HO_2.out).2.2 x15_1 p314 q314; cases e314; replace p314 := eq_true p314; replace q314 := eq_true q314; have p11 : 0 ≤ (x15_1 : Int) := of_decide_eq_true (by first | (with_reducible assumption) | assumption); have q11 : (x15_1 : Int) < ((x2_1.length : Int) : Int) := of_decide_eq_true (by first | (with_reducible assumption) | assumption); obtain ⟨go11, K1, j1, g1, gl11, cl11, HG11⟩ := XW_form HO_2.out (by omega); (first | cases j1 | (injection j1 with ea_ en_ ec_; (first | subst ea_ | (injection ea_ with ea_; subst ea_)); subst ec_; clear en_)); have GB11 := m0 g1; have GG11 := m0 HG11; clear g1 gl11 HG11; have HMgo11 := m0 (show (P2_ go11 ∨ w.heap.size ≤ go11) from (HO_2.out.1 _ rfl)); (first | simp only [xw_add] at hx314_0 | skip); obtain ⟨hx11_0, hf11_0⟩ := XW_celln 0 HO_2.out (x15_1 : Int) p11 q11; replace p11 := eq_true p11; replace q11 := eq_true q11; obtain ⟨hy13_, hz13_⟩ := XW_celln 0 HO_2.out (x15_1 : Int) (of_decide_eq_true (by first | (with_reducible assumption) | assumption)) (of_decide_eq_true (by first | (with_reducible assumption) | assumption)); have HP13 := XW_putg HO_2.out (x15_1 : Int) (add64s (rd x2_1 x15_1) (add64s t313 x6_1 0) 0) (of_decide_eq_true (by first | (with_reducible assumption) | assumption)) (of_decide_eq_true (by first | (with_reducible assumption) | assumption))) | ((with_reducible refine gate_store (t := 27) (p := 46) rfl ?_); refine store_event (t := 27) (p := 46) (v := ?vo_w14) (w1 := (wr.setCell ⟨go11, D_.pre.length + (x15_1 : Int).toNat, none⟩ (.int .u64 (add64s (rd x2_1 x15_1) (add64s t313 x6_1 0) 0)))) ?hg ?ho ?hn ?hr ?_; (case ho => rfl); (case hg => rfl); (case hn => rfl); (case hr => first | (go_simp; done) | (go_simp; rfl)); intro w14 hw; have hg : wr.grownBy w14 (some go11) := (by rw [hw]; exact HP13.2); have hp_ : XW .u64 D_ 27 w14 w0.heap.size (fun k_ => (P2_ k_ ∨ w.heap.size ≤ k_)) (.slice (some ⟨go11, D_.pre.length, none⟩) x2_1.length K0) y315 := (by rw [hw, Ny315.out]; exact HP13.1); clear HP13; replace b0 := m0 (blk_grown (g := g0) (o := .cells #[.slice (some ad311) l0_0.length c0_0] 25 (0, 0)) b0.1 hg (XW_ne HO_2.out b0.1 (by decide))); replace HB := m0 ((by rw [hw]; exact below_set (HB.1) GB11.out : Below w0.heap.size w0 w14)); replace HK := m0 (Kept.of_grown (S := (fun k_ => P2_ k_)) hg (by repeat (first | (with_reducible first | exact HK.out | apply Kept.alloc | apply Kept.drewN | apply Kept.drew | refine Kept.setCell ?_ (.inr G0.1) _) | exact HK.out)) (fun k_ e_ => (HO_2.out.1 k_ e_))); replace HO_2 := m0 (hp_); clear hg hw hp_))
    go_roundg k1
    case measure => have := HK1.out; omega
    case rel => exact ⟨(y315), (IntKind.u64.wrap ((IntKind.u64.wrap (t312 + (add64c t313 x6_1 0))) + (add64c (rd x2_1 x15_1) (add64s t313 x6_1 0) 0))), (wrap64 (x15_1 + 1)), (by first | rfl | (simp; done) | (simp [*]; done)), (by first | rfl | (simp; done) | (simp [*]; done)), H', ⟨by have := HK1.out; omega⟩, ⟨by (with_reducible repeat (first | apply XW_alloc | apply XW_drewN | apply XW_drew)); exact HO_2.out⟩, ⟨by (with_reducible repeat (first | refine blk_drewN ?_ _ | refine blk_drew ?_ | refine blk_alloc ?_ _)); exact b0.1⟩, ⟨by repeat (first | (with_reducible first | exact HK.out | apply Kept.alloc | apply Kept.drewN | apply Kept.drew | refine Kept.setCell ?_ (.inr G0.1) _) | exact HK.out)⟩, ⟨by repeat (first | (with_reducible first | exact HB.1 | apply below_alloc | apply pw_below_drewN | apply below_drew1 | refine below_set ?_ e0.1) | exact HB.1)⟩⟩
   ·rw [if_neg c6] at H; have c6b0 : decide (x15_1 < (l0_0.length : Int)) = false := decide_eq_false c6; clear c6
    by_cases c15 : 0 ≤ (l0_0.length : Int)
    rotate_left
    ·rw [if_neg c15] at H; exact absurd H (by simp)
    rw [if_pos c15] at H; have c15b0 : decide (0 ≤ (l0_0.length : Int)) = true := decide_eq_true c15; have c15b1 : decide (0 ≤ l0_0.length) = true := decide_eq_true (by omega); clear c15
    by_cases c16 : (l0_0.length : Int) < (x2_1.length : Int)
    rotate_left
    ·rw [if_neg c16] at H; exact absurd H (by simp)
    rw [if_pos c16] at H; have c16b0 : decide ((l0_0.length : Int) < (x2_1.length : Int)) = true := decide_eq_true c16; have c16b1 : decide (l0_0.length < x2_1.length) = true := decide_eq_true (Int.ofNat_lt.mp c16); clear c16; obtain ⟨y317, hy317⟩ : ∃ y_ : List Int, y_ = (x2_1.set ((l0_0.length : Int) : Int).toNat (IntKind.u64.wrap ((rd x2_1 (l0_0.length : Int)) + x6_1))) := ⟨_, rfl⟩; (replace H : (some y317) = some r := by first | (rw [hy317]; with_reducible exact H) | (have H2_ := (Option.bind_some _ _).symm.trans H; rw [hy317]; with_reducible exact H2_) | (have H2_ := (Option.bind_some _ _).symm.trans H; with_reducible exact H2_) | with_reducible exact H | (rw [hy317]; exact H) | exact H); have Ny317 := m0 hy317; clear hy317; obtain rfl := Option.some.inj H; have hcz18_0 : wr.cell? ⟨g0, 0, none⟩ = some (.slice A0_0 l0_0.length c0_0) := bc b0; have hfz18_0 := blk_frozen b0.1 0; obtain ⟨D1, K2, j2⟩ := XW_slice HO_2.out; subst j2; have p316 : 0 ≤ ((l0_0.length : Int) : Int) := of_decide_eq_true (by first | (with_reducible assumption) | assumption); have q316 : (l0_0.length : Int) < (x2_1.length : Int) := of_decide_eq_true (by first | (with_reducible assumption) | assumption); obtain ⟨ad316, e316, hx316_0⟩ := Kd.at_int (XW_reads' HO_2.out).2.2 (l0_0.length : Int) p316 q316; cases e316; (try simp only [Go.IntWalk.toNatUp] at hx316_0); replace p316 := eq_true p316; replace q316 := eq_true q316; have p17 : 0 ≤ ((l0_0.length : Int) : Int) := of_decide_eq_true (by first | (with_reducible assumption) | assumption); have q17 : ((l0_0.length : Int) : Int) < ((x2_1.length : Int) : Int) := of_decide_eq_true (by first | (with_reducible assumption) | assumption); obtain ⟨go17, K3, j3, g2, gl17, cl17, HG17⟩ := XW_form HO_2.out (by omega); (first | cases j3 | (injection j3 with ea_ en_ ec_; (first | subst ea_ | (injection ea_ with ea_; subst ea_)); subst ec_; clear en_)); have GB17 := m0 g2; have GG17 := m0 HG17; clear g2 gl17 HG17; have HMgo17 := m0 (show (P2_ go17 ∨ w.heap.size ≤ go17) from (HO_2.out.1 _ rfl)); (first | simp only [xw_add] at hx316_0 | skip); obtain ⟨hx17_0, hf17_0⟩ := XW_celln 0 HO_2.out ((l0_0.length : Int) : Int) p17 q17; (try simp only [Int.toNat_natCast] at hx17_0); (try simp only [Int.toNat_natCast] at hf17_0); replace p17 := eq_true p17; replace q17 := eq_true q17; have HP20 := XW_putg HO_2.out ((l0_0.length : Int) : Int) (IntKind.u64.wrap ((rd x2_1 (l0_0.length : Int)) + x6_1)) (of_decide_eq_true (by first | (with_reducible assumption) | assumption)) (of_decide_eq_true (by first | (with_reducible assumption) | assumption))
    go_wp2_with (first | ((with_reducible refine gate_store (t := 27) (p := 59) rfl ?_); refine store_event (t := 27) (p := 59) (v := ?vo_w21) (w1 := (wr.setCell ⟨go17, D_.pre.length + ((l0_0.length : Int) : Int).toNat, none⟩ (.int .u64 (IntKind.u64.wrap ((rd x2_1 (l0_0.length : Int)) + x6_1))))) ?hg ?ho ?hn ?hr ?_; (case ho => rfl); (case hg => rfl); (case hn => rfl); (case hr => first | (go_simp; done) | (go_simp; rfl)); intro w21 hw; have hg : wr.grownBy w21 (some go17) := (by rw [hw]; exact HP20.2); have hp_ : XW .u64 D_ 27 w21 w0.heap.size (fun k_ => (P2_ k_ ∨ w.heap.size ≤ k_)) (.slice (some ⟨go17, D_.pre.length, none⟩) x2_1.length K2) y317 := (by rw [hw, Ny317.out]; exact HP20.1); clear HP20; replace b0 := m0 (blk_grown (g := g0) (o := .cells #[.slice A0_0 l0_0.length c0_0] 25 (0, 0)) b0.1 hg (XW_ne HO_2.out b0.1 (by decide))); replace HB := m0 ((by rw [hw]; exact below_set (HB.1) GB17.out : Below w0.heap.size w0 w21)); replace HK := m0 (Kept.of_grown (S := (fun k_ => P2_ k_)) hg (by repeat (first | (with_reducible first | exact HK.out | apply Kept.alloc | apply Kept.drewN | apply Kept.drew | refine Kept.setCell ?_ (.inr G0.1) _) | exact HK.out)) (fun k_ e_ => (HO_2.out.1 k_ e_))); replace HO_2 := m0 (hp_); clear hg hw hp_))
    (first | go_end0 | ((try simp only [Exit.inBlock, Exit.then]); refine bodyPost_ret (results_none rfl _ _ _) rfl ?_)); exact ⟨by first | rfl | (simp [errW_none, errW_some] <;> rfl) | (simp [*, errW_none, errW_some] <;> rfl), by (with_reducible repeat (first | apply XW_alloc | apply XW_drewN | apply XW_drew)); exact HO_2.out, by repeat (first | (with_reducible first | exact HB.1 | apply below_alloc | apply pw_below_drewN | apply below_drew1 | refine below_set ?_ e0.1) | exact HB.1), by repeat (first | (with_reducible first | exact HK.out | apply Kept.alloc | apply Kept.drewN | apply Kept.drew | refine Kept.setCell ?_ (.inr G0.1) _) | exact HK.out)⟩
def nat_Nat_rowW.f (k : Nat) (l0_0 : List Int) (a1 : Int) (l2 : List Int) (lo_ hi_ : Int) : Option (List Int) := if 0 ≤ lo_ ∧ lo_ < hi_ ∧ hi_ ≤ (l2.length : Int) then (nat_Nat_row.f k l0_0 a1 ((l2.take hi_.toNat).drop lo_.toNat)).map (fun r_ => l2.take lo_.toNat ++ r_ ++ l2.drop hi_.toNat) else none
theorem nat_Nat_rowW.calls (k : Nat) (A0_0 : Option Addr) (c0_0 : Nat) (l0_0 : List Int) (a1 : Int) (P2_ : Nat → Prop) (u9000_ : Value) (l2 : List Int) (lo_ hi_ : Int) (r : List Int) (w0 w : World) (hB : Below w0.heap.size w0 w) (hr0_0 : ∀ W_, Kept w W_ (fun k_ => P2_ k_) → Kd.C (Kd.int .u64) W_ A0_0 l0_0.length l0_0) (hc0_0 : l0_0.length ≤ c0_0) (ho2 : Kd.R (Kd.int .u64) 27 w w0.heap.size P2_ u9000_ l2) (h : nat_Nat_rowW.f k l0_0 a1 l2 lo_ hi_ = some r) :
  Calls Try.prog 47 #[.agg #[.slice A0_0 l0_0.length c0_0], .int .u64 a1, xwin u9000_ lo_ hi_] w fun e w' => e = .returned (.tuple #[]) ∧ Kd.R (Kd.int .u64) 27 w' w0.heap.size (fun k_ => (P2_ k_ ∨ w.heap.size ≤ k_)) u9000_ r ∧ Below w0.heap.size w0 w' ∧ Kept w w' (fun k_ => P2_ k_) := by
 unfold nat_Nat_rowW.f at h
 by_cases c_ : 0 ≤ lo_ ∧ lo_ < hi_ ∧ hi_ ≤ (l2.length : Int)
 ·rw [if_pos c_] at h; obtain ⟨c1_, c2_, c3_⟩ := c_; obtain ⟨r_, h1_, h2_⟩ := Option.map_eq_some_iff.mp h; clear h; subst h2_; obtain ⟨g_, cap_, hu_, _⟩ := Kd.R_form ho2 (by omega); subst hu_; have hcap_ := (Kd.R_reads' ho2).2.1; obtain ⟨s_, hs_, hx_⟩ := XW_of_R ho2 lo_.toNat hi_.toNat (by omega) (by omega); subst hs_; rw [xwin_slice]; refine (nat_Nat_row.callsX k ⟨l2.take lo_.toNat, l2.drop hi_.toNat, cap_⟩ A0_0 c0_0 l0_0 a1 P2_ (.slice (some ⟨g_, lo_.toNat, none⟩) (hi_.toNat - lo_.toNat) (cap_ - lo_.toNat)) ((l2.take hi_.toNat).drop lo_.toNat) r_ w0 w hB hr0_0 hc0_0 (hx_ _ (by omega) (by omega)) h1_).mono ?_; rintro e w' ⟨he_, hw_, hq_⟩; refine ⟨he_, ?_, hq_⟩
  have hl_ : hi_.toNat - lo_.toNat = (r_).length := by
   obtain ⟨A_, c_, e_⟩ := XW_slice hw_; injection e_
  have hr_ := XW_to_R (lo := lo_.toNat) hw_
  have hn_ : (l2.take lo_.toNat ++ r_ ++ l2.drop hi_.toNat).length = l2.length := by
   simp only [List.length_append, List.length_take, List.length_drop]
   omega
  rw [hn_] at hr_; exact hr_
 ·rw [if_neg c_] at h; cases h
def nat_Nat_Mul.l0 : Nat → List Int → List Int → Int → Int → List Int → Option (List Int)
 | 0, _, _, _, _, _ => none
 | k + 1, x5, x18, x19, x20, x319000 => if x20 < x19 then (if 0 ≤ x20 then (if x20 < (x18.length : Int) then (if x20 < (x5.length : Int) then ((nat_Nat_rowW.f k x319000 (rd x18 x20) x5 x20 (x5.length : Int)).bind fun t325 => (nat_Nat_Mul.l0 k t325 x18 x19 (wrap64 (x20 + 1)) x319000)) else (none)) else (none)) else (none)) else ((nat_trimmed.f k x5).bind fun t326 => (some t326))
def nat_Nat_Mul.f (k : Nat) (l0_0 : List Int) (l1_0 : List Int) : Option (List Int) := if 0 ≤ (wrap64 ((wrap64 ((l0_0.length : Int) + (l1_0.length : Int))) + 1)) then (if (wrap64 ((wrap64 ((l0_0.length : Int) + (l1_0.length : Int))) + 1) : Int).toNat ≤ 35184372088832 then (nat_Nat_Mul.l0 k (List.replicate (wrap64 ((wrap64 ((l0_0.length : Int) + (l1_0.length : Int))) + 1) : Int).toNat 0) l1_0 (l1_0.length : Int) 0 l0_0) else (none)) else (none)
set_option maxHeartbeats 8000000 in
set_option maxRecDepth 100000 in
theorem nat_Nat_Mul.calls (k : Nat) (A0_0 : Option Addr) (c0_0 : Nat) (l0_0 : List Int) (A1_0 : Option Addr) (c1_0 : Nat) (l1_0 : List Int) (r : List Int) (w : World) (hr0_0 : Kd.C (Kd.int .u64) w A0_0 l0_0.length l0_0) (hc0_0 : l0_0.length ≤ c0_0) (hr1_0 : Kd.C (Kd.int .u64) w A1_0 l1_0.length l1_0) (hc1_0 : l1_0.length ≤ c1_0) (h : nat_Nat_Mul.f k l0_0 l1_0 = some r) :
  Calls Try.prog 24 #[.agg #[.slice A0_0 l0_0.length c0_0], .agg #[.slice A1_0 l1_0.length c1_0]] w fun e w' => ∃ v0_ : Value, e = .returned (.agg #[v0_]) ∧ Kd.V (Kd.int .u64) 27 w' w.heap.size (fun k_ => (w.heap.size ≤ k_)) v0_ r ∧ Below w.heap.size w w' := by
 have hu25 := Try.underlying25; have HR0_0 := m0 hr0_0; have HC0_0 := m0 hc0_0; clear hr0_0 hc0_0; have HR1_0 := m0 hr1_0; have HC1_0 := m0 hc1_0; clear hr1_0 hc1_0; have HB := m0 (Below.refl w.heap.size w); have H : (if 0 ≤ (wrap64 ((wrap64 ((l0_0.length : Int) + (l1_0.length : Int))) + 1)) then (if (wrap64 ((wrap64 ((l0_0.length : Int) + (l1_0.length : Int))) + 1) : Int).toNat ≤ 35184372088832 then (nat_Nat_Mul.l0 k (List.replicate (wrap64 ((wrap64 ((l0_0.length : Int) + (l1_0.length : Int))) + 1) : Int).toNat 0) l1_0 (l1_0.length : Int) 0 l0_0) else (none)) else (none)) = some r := h; clear h; obtain ⟨ji3, hji3⟩ : ∃ j_ : Int, (wrap64 ((wrap64 ((l0_0.length : Int) + (l1_0.length : Int))) + 1)) = j_ := ⟨_, rfl⟩; (replace H : (if 0 ≤ (ji3) then (if (ji3 : Int).toNat ≤ 35184372088832 then (nat_Nat_Mul.l0 k (List.replicate (ji3 : Int).toNat 0) l1_0 (l1_0.length : Int) 0 l0_0) else (none)) else (none)) = some r := by first | (rw [hji3] at H; exact H) | (simp only [hji3] at H ⊢; exact H)); have hji3w : (IntKind.i64.wrap ((wrap64 ((l0_0.length : Int) + (l1_0.length : Int))) + 1)) = ji3 := (i64_w _).trans hji3
 by_cases c4 : 0 ≤ (ji3)
 rotate_left
 ·rw [if_neg c4] at H; exact absurd H (by simp)
 rw [if_pos c4] at H; have c4b0 := eq_true c4; have c4b1 : decide (0 ≤ (ji3)) = true := decide_eq_true c4; clear c4
 by_cases c5 : (ji3 : Int).toNat ≤ 35184372088832
 rotate_left
 ·rw [if_neg c5] at H; exact absurd H (by simp)
 rw [if_pos c5] at H; have c5b0 := eq_true c5; have c5b1 : decide ((ji3 : Int).toNat ≤ 35184372088832) = true := decide_eq_true c5; clear c5; obtain ⟨y321, hy321⟩ : ∃ y_ : List Int, y_ = (List.replicate (ji3 : Int).toNat 0) := ⟨_, rfl⟩; (replace H : (nat_Nat_Mul.l0 k y321 l1_0 (l1_0.length : Int) 0 l0_0) = some r := by first | (rw [hy321]; with_reducible exact H) | (have H2_ := (Option.bind_some _ _).symm.trans H; rw [hy321]; with_reducible exact H2_) | (have H2_ := (Option.bind_some _ _).symm.trans H; with_reducible exact H2_) | with_reducible exact H | (rw [hy321]; exact H) | exact H); have Ny321 := m0 hy321; clear hy321; have H' := m0 H; clear H
 go_enter Try.func24, Try.ntmps24
 go_wp2_with (first | ((with_reducible refine gate_dst (N := 2) rfl ?_); refine box_event rz (N := 2) rz (cs := #[.slice A0_0 l0_0.length c0_0]) (t := 25) gs_ ?_; intro g0 hg w6 hbox hb; have b0 := m0 hbox; have G0 := gz_ HB hg; have e0 := gz_ HB hg; replace HB := sa HB hb; clear hb hbox hg) | ((with_reducible refine gate_dst (N := 3) rfl ?_); refine box_event rz (N := 3) rz (cs := #[.slice A1_0 l1_0.length c1_0]) (t := 25) gs_ ?_; intro g1 hg w7 hbox hb; have b1 := m0 hbox; have G1 := gz_ HB hg; have e1 := gz_ HB hg; replace HB := sa HB hb; have z0 := n1 b0 hg; have z1 := n2 b0 hg; replace b0 := ba b0 hb; clear hb hbox hg) | ((with_reducible refine gate_dst (N := 4) rfl ?_); refine box_event rz (N := 4) rz (cs := #[.slice none 0 0]) (t := 25) gs_ ?_; intro g2 hg w8 hbox hb; have b2 := m0 hbox; have G2 := gz_ HB hg; have e2 := gz_ HB hg; replace HB := sa HB hb; have z2 := n1 b0 hg; have z3 := n2 b0 hg; replace b0 := ba b0 hb; have z4 := n1 b1 hg; have z5 := n2 b1 hg; replace b1 := ba b1 hb; clear hb hbox hg; have hnb9 := z0.1; have hnc9 := z1.1; have hnb10 := z2.1; have hnc10 := z3.1; have hcz11_0 : w8.cell? ⟨g0, 0, none⟩ = some (.slice A0_0 l0_0.length c0_0) := bc b0; have hfz11_0 := blk_frozen b0.1 0; have hnb12 := z4.1; have hnc12 := z5.1; have hcz13_0 : w8.cell? ⟨g1, 0, none⟩ = some (.slice A1_0 l1_0.length c1_0) := bc b1; have hfz13_0 := blk_frozen b1.1 0) | ((with_reducible refine gate_dst (N := 16) rfl ?_); refine Kd.R_make (Kd.int .u64) _ 27 rfl (N := 16) rfl 22 _ _ rfl ji3 rfl rfl Try.underlying22 (.int .u64 0) 8 info27 rfl (by decide) (by omega) 0 (ok := fun _ => True) (okp := fun _ => True) rfl (fun _ hk => hk) trivial (of_decide_eq_true (by first | (with_reducible assumption) | assumption)) (Nat.le_trans (Nat.mul_le_mul_right _ (of_decide_eq_true (by first | (with_reducible assumption) | assumption) : ji3.toNat ≤ 35184372088832)) (by omega)) (Below.refl _ _) (Nat.le_refl _) ?_; intro v322 w14 ho15 hb hg_ hnew_; clear hg_ hnew_; (first | rw [← Ny321.out] at ho15 | (simp only [Int.reduceToNat] at ho15; rw [← Ny321.out] at ho15)); have a2 := m0 (Kd.R_lower (Kd.R_newM (M := fun k_ => (w.heap.size ≤ k_)) ho15 (bz HB.1) (fun k_ h_ => h_)) (bz HB.1)); replace b0 := ba b0 hb; replace b1 := ba b1 hb; replace b2 := ba b2 hb; replace HB := sa HB hb; clear hb ho15; have hcz16_0 : w14.cell? ⟨g1, 0, none⟩ = some (.slice A1_0 l1_0.length c1_0) := bc b1; have hfz16_0 := blk_frozen b1.1 0))
 go_loopg [20] k (fun kq v20 w' => ∃ (x5_1 : List Int) (x20_1 : Int), v20 = .int .i64 x20_1 ∧ Aside0 (nat_Nat_Mul.l0 kq x5_1 l1_0 (l1_0.length : Int) x20_1 l0_0 = some r) ∧ Aside0 (kq ≤ k) ∧ Aside0 (Kd.R (Kd.int .u64) 27 w' w.heap.size (fun k_ => (w.heap.size ≤ k_)) v322 x5_1) ∧ Aside0 (w'.heap[g0]? = some (.cells #[(.slice A0_0 l0_0.length c0_0)] 25 (0, 0))) ∧ Aside0 (w'.heap[g1]? = some (.cells #[(.slice A1_0 l1_0.length c1_0)] 25 (0, 0))) ∧ Aside0 (w'.heap[g2]? = some (.cells #[(.slice none 0 0)] 25 (0, 0))) ∧ Aside0 (Below w.heap.size w w'))
 case atStart => exact ⟨(y321), (0), (by first | rfl | (simp; done) | (simp [*]; done)), H', ⟨Nat.le_refl _⟩, ⟨by (with_reducible repeat (first | apply Kd.R_alloc | apply Kd.R_drewN | apply Kd.R_drew)); exact Kd.R_mono a2.1 (fun _ hk => hk.1)⟩, ⟨by (with_reducible repeat (first | refine blk_drewN ?_ _ | refine blk_drew ?_ | refine blk_alloc ?_ _)); exact b0.1⟩, ⟨by (with_reducible repeat (first | refine blk_drewN ?_ _ | refine blk_drew ?_ | refine blk_alloc ?_ _)); exact b1.1⟩, ⟨by (with_reducible repeat (first | refine blk_drewN ?_ _ | refine blk_drew ?_ | refine blk_alloc ?_ _)); exact b2.1⟩, ⟨by repeat (first | (with_reducible first | exact HB.1 | apply below_alloc | apply pw_below_drewN | apply below_drew1 | refine below_set ?_ e0.1 | refine below_set ?_ e1.1 | refine below_set ?_ e2.1) | exact HB.1)⟩⟩
 case round =>
  clear H'; (try clear c1); (try clear c2); (try clear p2); (try clear c4); (try clear c4b0); (try clear c4b1); (try clear c5); (try clear c5b0); (try clear c5b1); (try clear p6); (try clear c9); (try clear c10); (try clear c12); (try clear hcz11_0); (try clear hcz13_0); (try clear hcz16_0); (try clear hfz11_0); (try clear hfz13_0); (try clear hfz16_0); obtain ⟨x5_1, x20_1, rfl, HA, HK1, HO_5, b0, b1, b2, HB⟩ := hrel; cases gk with
  | zero => exact absurd HA.out (by simp [nat_Nat_Mul.l0])
  | succ k1 =>
   have H := HA.out; clear HA; simp only [nat_Nat_Mul.l0] at H
   by_cases c17 : x20_1 < (l1_0.length : Int)
   ·rw [if_pos c17] at H; have c17b0 : decide (x20_1 < (l1_0.length : Int)) = true := decide_eq_true c17; clear c17
    by_cases c18 : 0 ≤ x20_1
    rotate_left
    ·rw [if_neg c18] at H; exact absurd H (by simp)
    rw [if_pos c18] at H; have c18b0 : decide (0 ≤ x20_1) = true := decide_eq_true c18; clear c18
    by_cases c19 : x20_1 < (l1_0.length : Int)
    rotate_left
    ·rw [if_neg c19] at H; exact absurd H (by simp)
    rw [if_pos c19] at H; have c19b0 : decide (x20_1 < (l1_0.length : Int)) = true := decide_eq_true c19; clear c19; have c20b0 := eq_true (of_decide_eq_true (by first | (with_reducible assumption) | assumption) : 0 ≤ x20_1)
    by_cases c21 : x20_1 < (x5_1.length : Int)
    rotate_left
    ·rw [if_neg c21] at H; exact absurd H (by simp)
    rw [if_pos c21] at H; have c21b0 := eq_true c21; have c21b1 : decide (x20_1 < (x5_1.length : Int)) = true := decide_eq_true c21; clear c21; replace H := Option.bind_eq_some_iff.mp H; obtain ⟨t325, A220, H⟩ := H; (try dsimp only at H); have A22 := m0 A220; clear A220; have H' := m0 H; clear H; have p324 : 0 ≤ (x20_1 : Int) := of_decide_eq_true (by first | (with_reducible assumption) | assumption); have q324 : x20_1 < (l1_0.length : Int) := of_decide_eq_true (by first | (with_reducible assumption) | assumption); obtain ⟨ad324, e324, hx324_0⟩ := Kd.at_int HR1_0.out x20_1 p324 q324; cases e324; replace hx324_0 := (HB.1.cell (World.block_lt_of_cell? w _ hx324_0)).trans hx324_0; replace p324 := eq_true p324; replace q324 := eq_true q324
    try go_wp2
    replace HO_5 := rd_ HO_5; replace b0 := bd b0; replace b1 := bd b1; replace b2 := bd b2; replace HB := sd HB; obtain ⟨D0, K0, j0⟩ := Kd.R_slice HO_5.out; (first | subst j0 | (injection j0 with f1_ f2_ f3_; have f4_ := f1_.symm; have f5_ := f3_.symm; clear f1_ f2_ f3_; subst f4_; subst f5_)); obtain ⟨i025, hi025, _, hsz25, _⟩ := info_parts info27; have w025 : (0 : Int) ≤ (x20_1 : Int) := of_decide_eq_true (by first | (with_reducible assumption) | assumption); have w125 : (x20_1 : Int) < ((x5_1.length : Int) : Int) := of_decide_eq_true (by first | (with_reducible assumption) | assumption); have hwin25 := win_from (P := Try.prog) 22 27 .i64 Try.underlying22 hi025 hsz25 HO_5.out (x20_1 : Int) ((x5_1.length : Int) : Int) w025 w125 (by first | rfl | omega); clear hi025 hsz25; replace w025 := eq_true w025; replace w125 := eq_true w125; refine start_ (n := 6) (S := fun w' => w'.cell? ⟨g0, 0, none⟩ = some (.slice A0_0 l0_0.length c0_0)) (ds := []) #[false, false, false, false, false, false] kr rfl rfl (bc b0) (fun hHeld => ?_)
    generalize wr.drew = w23 at HO_5 b0 b1 b2 HB hHeld ⊢
    refine pure_ (i := 1) (N := some 26) (v := ?_) (a' := ?_) #[false, true, false, false, false, false] rfl rfl kr (fun _ _ _ h => h) (Or.inl ⟨by rfl, ?_⟩) ?_ ?_; rotate_left
    ·intro w'; go_simp; with_reducible rfl
    rotate_left
    ·simp only [Act.put, sA, sB, sC, i64_w, i32_w]; rfl
    refine pure_ (i := 2) (N := some 27) (v := ?_) (a' := ?_) #[false, true, true, false, false, false] rfl rfl kr (fun _ _ _ h => h) (Or.inl ⟨by rfl, ?_⟩) ?_ ?_; rotate_left
    ·intro w'; go_simp; with_reducible rfl
    rotate_left
    ·simp only [Act.put, sA, sB, sC, i64_w, i32_w]; rfl
    refine pure_ (i := 3) (N := some 28) (v := ?_) (a' := ?_) #[false, true, true, true, false, false] rfl rfl kr (fun _ _ _ h => h) (Or.inl ⟨by rfl, ?_⟩) ?_ ?_; rotate_left
    ·intro w'; go_simp; with_reducible rfl
    rotate_left
    ·simp only [Act.put, sA, sB, sC, i64_w, i32_w]; rfl
    refine pure_ (i := 4) (N := some 29) (v := ?_) (a' := ?_) #[false, true, true, true, true, false] rfl rfl kr (fun _ _ _ h => h) (Or.inl ⟨by rfl, ?_⟩) ?_ ?_; rotate_left
    ·intro w'; go_simp; with_reducible rfl
    rotate_left
    ·simp only [Act.put, sA, sB, sC, i64_w, i32_w]; rfl
    refine take_ (i := 0) (N := some 25) (v := ?_) (a' := ?_) #[true, true, true, true, true, false] rfl rfl kr (fun _ _ _ h => h) (Or.inl ⟨by rfl, ?_⟩) hHeld ?_ ?_; rotate_left
    ·intro w' s0; go_simp; with_reducible rfl
    rotate_left
    ·simp only [Act.put, sA, sB, sC, i64_w, i32_w]; rfl
    refine one_ (i := 5) (N := some 30) #[true, true, true, true, true, true] rfl rfl kr (by decide) (fun K hK => ?_); refine goes_ Try.func47 kr rfl #[.agg #[.slice A0_0 l0_0.length c0_0], .int .u64 (rd l1_0 x20_1), xwin (.slice D0 x5_1.length K0) x20_1 (x5_1.length : Int)] (by rfl) rfl rfl gm ?_; (with_reducible refine (nat_Nat_rowW.calls k1 _ _ l0_0 (rd l1_0 x20_1) (fun k_ => some k_ = (.slice D0 x5_1.length K0 : Value).ownBlock) (.slice D0 x5_1.length K0) x5_1 x20_1 (x5_1.length : Int) t325 w _ ?side1 ?side2 ?side3 ?side4 A22.1).mono ?_); (case side1 => repeat (first | (with_reducible first | exact HB.1 | apply below_alloc | apply pw_below_drewN | apply below_drew1 | refine below_set ?_ e0.1 | refine below_set ?_ e1.1 | refine below_set ?_ e2.1) | exact HB.1)); (case side2 => exact Kd.C_kept_came (Kd.heap_int .u64) HR0_0.out bq (fun k_ hs_ => (fun e_ => Kd.R_base HO_5.out k_ e_.symm) hs_)); (case side3 => exact HC0_0.out); (case side4 => exact Kd.R_tight rfl HO_5.out); rintro e w26 ⟨rfl, hy0, hb, hkp⟩; refine ⟨_, rfl, ?_⟩; replace b0 := m0 (blk_kept b0.1 hkp (fun hs_ => (fun e_ => (Kd.R_ne HO_5.out b0.1 (by decide)) e_) hs_)); replace b1 := m0 (blk_kept b1.1 hkp (fun hs_ => (fun e_ => (Kd.R_ne HO_5.out b1.1 (by decide)) e_) hs_)); replace b2 := m0 (blk_kept b2.1 hkp (fun hs_ => (fun e_ => (Kd.R_ne HO_5.out b2.1 (by decide)) e_) hs_)); replace HO_5 := m0 (Kd.R_reok rfl hy0 (fun k_ e_ => HO_5.out.1 k_ e_)); replace HB := m0 (hb); clear hb hkp hy0; refine hK.out _ _ (bc b0) (fun hHeld => ?_); clear hK K; refine norm_ (a' := ?_) ?_ ?_; rotate_left
    ·show Act.put _ (some 30) _ = _; simp only [Act.put, sA, sB, sC, i64_w, i32_w]; rfl
    refine done_ kr ?_
    try go_wp2
    go_roundg k1
    case measure => have := HK1.out; omega
    case rel => exact ⟨(t325), (wrap64 (x20_1 + 1)), (by first | rfl | (simp; done) | (simp [*]; done)), H', ⟨by have := HK1.out; omega⟩, ⟨by (with_reducible repeat (first | apply Kd.R_alloc | apply Kd.R_drewN | apply Kd.R_drew)); exact HO_5.out⟩, ⟨by (with_reducible repeat (first | refine blk_drewN ?_ _ | refine blk_drew ?_ | refine blk_alloc ?_ _)); exact b0.1⟩, ⟨by (with_reducible repeat (first | refine blk_drewN ?_ _ | refine blk_drew ?_ | refine blk_alloc ?_ _)); exact b1.1⟩, ⟨by (with_reducible repeat (first | refine blk_drewN ?_ _ | refine blk_drew ?_ | refine blk_alloc ?_ _)); exact b2.1⟩, ⟨by repeat (first | (with_reducible first | exact HB.1 | apply below_alloc | apply pw_below_drewN | apply below_drew1 | refine below_set ?_ e0.1 | refine below_set ?_ e1.1 | refine below_set ?_ e2.1) | exact HB.1)⟩⟩
   ·rw [if_neg c17] at H; have c17b0 : decide (x20_1 < (l1_0.length : Int)) = false := decide_eq_false c17; clear c17; replace H := Option.bind_eq_some_iff.mp H; obtain ⟨t326, A270, H⟩ := H; (try dsimp only at H); have A27 := m0 A270; clear A270; obtain rfl := Option.some.inj H; obtain ⟨D1, K1, j1⟩ := Kd.R_slice HO_5.out; subst j1
    go_wp2_with (first | ((with_reducible refine gate_callee (f := 42) rfl ?_); refine goesL_ (some 33) rfl rfl Try.func42 kr rfl #[.slice D1 x5_1.length K1] rfl gm ?_; (with_reducible refine (nat_trimmed.calls k1 (fun k_ => some k_ = (.slice D1 x5_1.length K1 : Value).ownBlock) _ _ x5_1 t326 _ ?side1 A27.1).mono ?_); (case side1 => exact Kd.R_V (Kd.R_tight rfl (Kd.R_types (Kd.R_types (Kd.R_types (HO_5.out) b0.1 (by decide)) b1.1 (by decide)) b2.1 (by decide)))); rintro e w29 ⟨v327, rfl, ho0, hb⟩; refine ⟨_, rfl, ?_⟩; have a3 := m0 (Kd.V_lower (Kd.V_mono (ok' := fun k_ => (w.heap.size ≤ k_) ∧ k_ ≠ g0 ∧ k_ ≠ g1 ∧ k_ ≠ g2) ho0 (fun k_ hk_ => ⟨Or.elim hk_ (fun hs_ => ((Kd.R_types (Kd.R_types (Kd.R_types (HO_5.out) b0.1 (by decide)) b1.1 (by decide)) b2.1 (by decide)).1 k_ hs_.symm).1.1.1) (fun hn_ => (Nat.le_trans (bz HB.1) hn_)), Or.elim hk_ (fun hs_ => ((Kd.R_types (Kd.R_types (Kd.R_types (HO_5.out) b0.1 (by decide)) b1.1 (by decide)) b2.1 (by decide)).1 k_ hs_.symm).1.1.2) (fun hn_ => (fb b0.1 k_ hn_)), Or.elim hk_ (fun hs_ => ((Kd.R_types (Kd.R_types (Kd.R_types (HO_5.out) b0.1 (by decide)) b1.1 (by decide)) b2.1 (by decide)).1 k_ hs_.symm).1.2) (fun hn_ => (fb b1.1 k_ hn_)), Or.elim hk_ (fun hs_ => ((Kd.R_types (Kd.R_types (Kd.R_types (HO_5.out) b0.1 (by decide)) b1.1 (by decide)) b2.1 (by decide)).1 k_ hs_.symm).2) (fun hn_ => (fb b2.1 k_ hn_))⟩)) (bz HB.1)); replace HO_5 := ra HO_5 hb; replace b0 := ba b0 hb; replace b1 := ba b1 hb; replace b2 := ba b2 hb; replace HB := sa HB hb; clear hb ho0; obtain ⟨D2, K2, j2⟩ := Kd.V_slice a3.1; subst j2; have hnb31 := z3.1; have hnc31 := z2.1; have hnb32 := z5.1; have hnc32 := z4.1; have hcz33_0 : w29.cell? ⟨g2, 0, none⟩ = some (.slice none 0 0) := bc b2; have hfz33_0 := blk_frozen b2.1 0))
    refine bodyPost_ret (results_cell_row rfl _ _ g2 25 #[.slice D2 t326.length K2] (0, 0) _ rfl (by (with_reducible repeat (first | refine blk_drewN ?_ _ | refine blk_drew ?_ | refine blk_alloc ?_ _)); refine blk_put (cs := #[.slice none 0 0]) ?_ 0 _ rfl; (with_reducible repeat (first | refine blk_drewN ?_ _ | refine blk_drew ?_ | refine blk_alloc ?_ _)); exact b2.1) Try.underlying25 rfl kr) rfl ?_; exact ⟨_, by first | rfl | (simp [errW_none, errW_some] <;> rfl) | (simp only [← hji3]; first | rfl | (simp [errW_none, errW_some] <;> rfl)) | (simp [*, errW_none, errW_some] <;> rfl), by (with_reducible repeat (first | apply Kd.V_alloc | apply Kd.V_drewN | apply Kd.V_drew)); exact Kd.V_mono (Kd.V_far (p := ⟨g2, 0, none⟩) (Kd.V_mono a3.1 (fun _ hk => And.intro hk hk.2.2.2)) (fun _ hk => hk.2) (.slice D2 t326.length K2)) (fun _ hk => hk.1.1), by repeat (first | (with_reducible first | exact HB.1 | apply below_alloc | apply pw_below_drewN | apply below_drew1 | refine below_set ?_ e0.1 | refine below_set ?_ e1.1 | refine below_set ?_ e2.1) | exact HB.1)⟩
def bits_LeadingZeros64.f (k : Nat) (a0 : Int) : Option (Int) := (bits_Len64.f k a0).bind fun t628 => (some (wrap64 (64 - t628)))
theorem bits_LeadingZeros64.mono : ∀ a0 k, LeO (bits_LeadingZeros64.f k a0) (bits_LeadingZeros64.f (k + 1) a0) := by
  intro a0 k; unfold bits_LeadingZeros64.f
  repeat' first
      | (with_reducible exact bits_Len64.mono _ _)
      | (with_reducible exact LeO.refl _)
      | (with_reducible exact LeO.none _)
      | (with_reducible refine LeO.ite ?_ ?_)
      | (with_reducible refine LeO.bind ?_ (fun _ => ?_))
      | exact bits_Len64.mono _ _
      | exact LeO.none _
      | refine LeO.ite ?_ ?_
      | refine LeO.bind ?_ (fun _ => ?_)
set_option maxHeartbeats 8000000 in
set_option maxRecDepth 100000 in
theorem bits_LeadingZeros64.calls (k : Nat) (a0 : Int) (r : Int) (w : World) (h : bits_LeadingZeros64.f k a0 = some r) :
    Calls Try.prog 64 #[.int .u64 a0] w fun e w' => e = .returned (.int .i64 r) ∧ Drawn0 w w' := by
  have H : ((bits_Len64.f k a0).bind fun t628 => (some (wrap64 (64 - t628)))) = some r := h; clear h; replace H := Option.bind_eq_some_iff.mp H; obtain ⟨t628, A20, H⟩ := H; replace H : (some (wrap64 (64 - t628))) = some r := H; have A2 := m0 A20; clear A20; obtain rfl := Option.some.inj H
  go_enter Try.func64, Try.ntmps64
  go_wp2_with (first | ((with_reducible refine gate_callee (f := 43) rfl ?_); refine goesL_ (some 4) rfl rfl Try.func43 kr rfl #[.int .u64 a0] rfl gm ?_; (with_reducible refine (bits_Len64.calls k a0 t628 _ A2.1).mono ?_); rintro e w' ⟨rfl, ⟨nd, rfl⟩⟩; refine ⟨_, rfl, ?_⟩))
  go_ret
  exact ⟨by first | rfl | (simp; done) | (simp [*]; done), by repeat (first | exact Drawn0.refl _ | apply Drawn0.step)⟩
end Go.Proofs.Ytebjbmgfbejapaa.F
end

section
namespace Go.Proofs.Ytebjbmgfbejapaa.F
open Go.RowKit Go.Proofs.YtebjbmgfbejapaaW.PrintWords Go.Proofs.YtebjbmgfbejapaaW.PrintLast Go.Proofs.YtebjbmgfbejapaaW.PrintMore Go.Proofs.YtebjbmgfbejapaaX
attribute [local go_sem] max2_int cell_some xrun_add64 xrun_sub64
attribute [local go_sem] max2_int min2_int max_two min_two max_three min_three max_four min_four
set_option linter.unusedVariables false
set_option linter.unusedSimpArgs false
mutual
def bits_Div64.j2 : Nat → Int → Int → Int → Int → Int → Int → Int → Int → Option (Int × Int)
 | 0, _, _, _, _, _, _, _, _ => none
 | k + 1, x2, x8, x9, x10, x11, x13, x14, x15 => if x9 = 0 then (none) else (bits_Div64.l1 k x2 x8 x9 x10 x14 x15 (IntKind.u64.wrap ((IntKind.u64.wrap ((IntKind.u64.wrap ((IntKind.u64.wrap (x11 * 4294967296)) + x13)) - (IntKind.u64.wrap (x15 * x2)))) - (IntKind.u64.wrap ((IntKind.u64.wrap (Int.tdiv (IntKind.u64.wrap ((IntKind.u64.wrap ((IntKind.u64.wrap (x11 * 4294967296)) + x13)) - (IntKind.u64.wrap (x15 * x2)))) x9)) * x9)))) (IntKind.u64.wrap ((IntKind.u64.wrap ((IntKind.u64.wrap (x11 * 4294967296)) + x13)) - (IntKind.u64.wrap (x15 * x2)))) (IntKind.u64.wrap (Int.tdiv (IntKind.u64.wrap ((IntKind.u64.wrap ((IntKind.u64.wrap (x11 * 4294967296)) + x13)) - (IntKind.u64.wrap (x15 * x2)))) x9)))
def bits_Div64.l1 : Nat → Int → Int → Int → Int → Int → Int → Int → Int → Int → Option (Int × Int)
 | 0, _, _, _, _, _, _, _, _, _ => none
 | k + 1, x2, x8, x9, x10, x14, x15, x16, x17, x18 => if x18 ≥ 4294967296 then (bits_Div64.j4 k x2 x8 x9 x10 x14 x15 x16 x17 x18 true) else (bits_Div64.j4 k x2 x8 x9 x10 x14 x15 x16 x17 x18 (decide ((IntKind.u64.wrap (x18 * x10)) > (IntKind.u64.wrap ((IntKind.u64.wrap (4294967296 * x16)) + x14)))))
def bits_Div64.j4 : Nat → Int → Int → Int → Int → Int → Int → Int → Int → Int → Bool → Option (Int × Int)
 | 0, _, _, _, _, _, _, _, _, _, _ => none
 | k + 1, x2, x8, x9, x10, x14, x15, x16, x17, x18, x113 => if x113 = true then (if (IntKind.u64.wrap (x16 + x9)) ≥ 4294967296 then (if 0 ≤ x8 then (some (IntKind.u64.wrap ((IntKind.u64.wrap (x15 * 4294967296)) + (IntKind.u64.wrap (x18 - 1))), shr .u64 (IntKind.u64.wrap ((IntKind.u64.wrap ((IntKind.u64.wrap (x17 * 4294967296)) + x14)) - (IntKind.u64.wrap ((IntKind.u64.wrap (x18 - 1)) * x2)))) x8)) else (none)) else (bits_Div64.l1 k x2 x8 x9 x10 x14 x15 (IntKind.u64.wrap (x16 + x9)) x17 (IntKind.u64.wrap (x18 - 1)))) else (if 0 ≤ x8 then (some (IntKind.u64.wrap ((IntKind.u64.wrap (x15 * 4294967296)) + x18), shr .u64 (IntKind.u64.wrap ((IntKind.u64.wrap ((IntKind.u64.wrap (x17 * 4294967296)) + x14)) - (IntKind.u64.wrap (x18 * x2)))) x8)) else (none))
def bits_Div64.l0 : Nat → Int → Int → Int → Int → Int → Int → Int → Int → Int → Option (Int × Int)
 | 0, _, _, _, _, _, _, _, _, _ => none
 | k + 1, x2, x8, x9, x10, x11, x13, x14, x15, x16 => if x15 ≥ 4294967296 then (bits_Div64.j1 k x2 x8 x9 x10 x11 x13 x14 x15 x16 true) else (bits_Div64.j1 k x2 x8 x9 x10 x11 x13 x14 x15 x16 (decide ((IntKind.u64.wrap (x15 * x10)) > (IntKind.u64.wrap ((IntKind.u64.wrap (4294967296 * x16)) + x13)))))
def bits_Div64.j1 : Nat → Int → Int → Int → Int → Int → Int → Int → Int → Int → Bool → Option (Int × Int)
 | 0, _, _, _, _, _, _, _, _, _, _ => none
 | k + 1, x2, x8, x9, x10, x11, x13, x14, x15, x16, x78 => if x78 = true then (if (IntKind.u64.wrap (x16 + x9)) ≥ 4294967296 then (bits_Div64.j2 k x2 x8 x9 x10 x11 x13 x14 (IntKind.u64.wrap (x15 - 1))) else (bits_Div64.l0 k x2 x8 x9 x10 x11 x13 x14 (IntKind.u64.wrap (x15 - 1)) (IntKind.u64.wrap (x16 + x9)))) else (bits_Div64.j2 k x2 x8 x9 x10 x11 x13 x14 x15)
end
def bits_Div64.f (k : Nat) (a0 : Int) (a1 : Int) (a2 : Int) : Option (Int × Int) := if a2 = 0 then (none) else (if a2 ≤ a0 then (none) else (if a0 = 0 then (some (IntKind.u64.wrap (Int.tdiv a1 a2), Int.tmod a1 a2)) else ((bits_LeadingZeros64.f k a2).bind fun t629 => (if 0 ≤ (IntKind.u64.wrap (t629)) then (if 0 ≤ (IntKind.u64.wrap (64 - (IntKind.u64.wrap (t629)))) then (if ((shl .u64 a2 (IntKind.u64.wrap (t629))) / 4294967296) = 0 then (none) else (bits_Div64.l0 k (shl .u64 a2 (IntKind.u64.wrap (t629))) (IntKind.u64.wrap (t629)) ((shl .u64 a2 (IntKind.u64.wrap (t629))) / 4294967296) (Go.bits .and .u64 (shl .u64 a2 (IntKind.u64.wrap (t629))) 4294967295) (Go.bits .or .u64 (shl .u64 a0 (IntKind.u64.wrap (t629))) (shr .u64 a1 (IntKind.u64.wrap (64 - (IntKind.u64.wrap (t629)))))) ((shl .u64 a1 (IntKind.u64.wrap (t629))) / 4294967296) (Go.bits .and .u64 (shl .u64 a1 (IntKind.u64.wrap (t629))) 4294967295) (IntKind.u64.wrap (Int.tdiv (Go.bits .or .u64 (shl .u64 a0 (IntKind.u64.wrap (t629))) (shr .u64 a1 (IntKind.u64.wrap (64 - (IntKind.u64.wrap (t629)))))) ((shl .u64 a2 (IntKind.u64.wrap (t629))) / 4294967296))) (IntKind.u64.wrap ((Go.bits .or .u64 (shl .u64 a0 (IntKind.u64.wrap (t629))) (shr .u64 a1 (IntKind.u64.wrap (64 - (IntKind.u64.wrap (t629)))))) - (IntKind.u64.wrap ((IntKind.u64.wrap (Int.tdiv (Go.bits .or .u64 (shl .u64 a0 (IntKind.u64.wrap (t629))) (shr .u64 a1 (IntKind.u64.wrap (64 - (IntKind.u64.wrap (t629)))))) ((shl .u64 a2 (IntKind.u64.wrap (t629))) / 4294967296))) * ((shl .u64 a2 (IntKind.u64.wrap (t629))) / 4294967296))))))) else (none)) else (none)))))
theorem bits_Div64.mono_l : ∀ k, (∀ y0 y1 y2 y3 y4 y5 y6 y7, LeO (bits_Div64.j2 k y0 y1 y2 y3 y4 y5 y6 y7) (bits_Div64.j2 (k + 1) y0 y1 y2 y3 y4 y5 y6 y7)) ∧ (∀ y0 y1 y2 y3 y4 y5 y6 y7 y8, LeO (bits_Div64.l1 k y0 y1 y2 y3 y4 y5 y6 y7 y8) (bits_Div64.l1 (k + 1) y0 y1 y2 y3 y4 y5 y6 y7 y8)) ∧ (∀ y0 y1 y2 y3 y4 y5 y6 y7 y8 y9, LeO (bits_Div64.j4 k y0 y1 y2 y3 y4 y5 y6 y7 y8 y9) (bits_Div64.j4 (k + 1) y0 y1 y2 y3 y4 y5 y6 y7 y8 y9)) ∧ (∀ y0 y1 y2 y3 y4 y5 y6 y7 y8, LeO (bits_Div64.l0 k y0 y1 y2 y3 y4 y5 y6 y7 y8) (bits_Div64.l0 (k + 1) y0 y1 y2 y3 y4 y5 y6 y7 y8)) ∧ (∀ y0 y1 y2 y3 y4 y5 y6 y7 y8 y9, LeO (bits_Div64.j1 k y0 y1 y2 y3 y4 y5 y6 y7 y8 y9) (bits_Div64.j1 (k + 1) y0 y1 y2 y3 y4 y5 y6 y7 y8 y9))
 | 0 => ⟨fun _ _ _ _ _ _ _ _ r h => by simp [bits_Div64.j2] at h, fun _ _ _ _ _ _ _ _ _ r h => by simp [bits_Div64.l1] at h, fun _ _ _ _ _ _ _ _ _ _ r h => by simp [bits_Div64.j4] at h, fun _ _ _ _ _ _ _ _ _ r h => by simp [bits_Div64.l0] at h, fun _ _ _ _ _ _ _ _ _ _ r h => by simp [bits_Div64.j1] at h⟩
 | k + 1 => by
  obtain ⟨ih0, ih1, ih2, ih3, ih4⟩ := bits_Div64.mono_l k; refine ⟨?_, ?_, ?_, ?_, ?_⟩
  ·intro y0 y1 y2 y3 y4 y5 y6 y7; unfold bits_Div64.j2
   repeat' first
   | (with_reducible exact ih0 _ _ _ _ _ _ _ _)
   | (with_reducible exact ih1 _ _ _ _ _ _ _ _ _)
   | (with_reducible exact ih2 _ _ _ _ _ _ _ _ _ _)
   | (with_reducible exact ih3 _ _ _ _ _ _ _ _ _)
   | (with_reducible exact ih4 _ _ _ _ _ _ _ _ _ _)
   | (with_reducible exact bits_LeadingZeros64.mono _ _)
   | (with_reducible exact LeO.refl _)
   | (with_reducible exact LeO.none _)
   | (with_reducible refine LeO.ite ?_ ?_)
   | (with_reducible refine LeO.bind ?_ (fun _ => ?_))
   | exact ih0 _ _ _ _ _ _ _ _
   | exact ih1 _ _ _ _ _ _ _ _ _
   | exact ih2 _ _ _ _ _ _ _ _ _ _
   | exact ih3 _ _ _ _ _ _ _ _ _
   | exact ih4 _ _ _ _ _ _ _ _ _ _
   | exact bits_LeadingZeros64.mono _ _
   | exact LeO.none _
   | refine LeO.ite ?_ ?_
   | refine LeO.bind ?_ (fun _ => ?_)
  ·intro y0 y1 y2 y3 y4 y5 y6 y7 y8; unfold bits_Div64.l1
   repeat' first
   | (with_reducible exact ih0 _ _ _ _ _ _ _ _)
   | (with_reducible exact ih1 _ _ _ _ _ _ _ _ _)
   | (with_reducible exact ih2 _ _ _ _ _ _ _ _ _ _)
   | (with_reducible exact ih3 _ _ _ _ _ _ _ _ _)
   | (with_reducible exact ih4 _ _ _ _ _ _ _ _ _ _)
   | (with_reducible exact bits_LeadingZeros64.mono _ _)
   | (with_reducible exact LeO.refl _)
   | (with_reducible exact LeO.none _)
   | (with_reducible refine LeO.ite ?_ ?_)
   | (with_reducible refine LeO.bind ?_ (fun _ => ?_))
   | exact ih0 _ _ _ _ _ _ _ _
   | exact ih1 _ _ _ _ _ _ _ _ _
   | exact ih2 _ _ _ _ _ _ _ _ _ _
   | exact ih3 _ _ _ _ _ _ _ _ _
   | exact ih4 _ _ _ _ _ _ _ _ _ _
   | exact bits_LeadingZeros64.mono _ _
   | exact LeO.none _
   | refine LeO.ite ?_ ?_
   | refine LeO.bind ?_ (fun _ => ?_)
  ·intro y0 y1 y2 y3 y4 y5 y6 y7 y8 y9; unfold bits_Div64.j4
   repeat' first
   | (with_reducible exact ih0 _ _ _ _ _ _ _ _)
   | (with_reducible exact ih1 _ _ _ _ _ _ _ _ _)
   | (with_reducible exact ih2 _ _ _ _ _ _ _ _ _ _)
   | (with_reducible exact ih3 _ _ _ _ _ _ _ _ _)
   | (with_reducible exact ih4 _ _ _ _ _ _ _ _ _ _)
   | (with_reducible exact bits_LeadingZeros64.mono _ _)
   | (with_reducible exact LeO.refl _)
   | (with_reducible exact LeO.none _)
   | (with_reducible refine LeO.ite ?_ ?_)
   | (with_reducible refine LeO.bind ?_ (fun _ => ?_))
   | exact ih0 _ _ _ _ _ _ _ _
   | exact ih1 _ _ _ _ _ _ _ _ _
   | exact ih2 _ _ _ _ _ _ _ _ _ _
   | exact ih3 _ _ _ _ _ _ _ _ _
   | exact ih4 _ _ _ _ _ _ _ _ _ _
   | exact bits_LeadingZeros64.mono _ _
   | exact LeO.none _
   | refine LeO.ite ?_ ?_
   | refine LeO.bind ?_ (fun _ => ?_)
  ·intro y0 y1 y2 y3 y4 y5 y6 y7 y8; unfold bits_Div64.l0
   repeat' first
   | (with_reducible exact ih0 _ _ _ _ _ _ _ _)
   | (with_reducible exact ih1 _ _ _ _ _ _ _ _ _)
   | (with_reducible exact ih2 _ _ _ _ _ _ _ _ _ _)
   | (with_reducible exact ih3 _ _ _ _ _ _ _ _ _)
   | (with_reducible exact ih4 _ _ _ _ _ _ _ _ _ _)
   | (with_reducible exact bits_LeadingZeros64.mono _ _)
   | (with_reducible exact LeO.refl _)
   | (with_reducible exact LeO.none _)
   | (with_reducible refine LeO.ite ?_ ?_)
   | (with_reducible refine LeO.bind ?_ (fun _ => ?_))
   | exact ih0 _ _ _ _ _ _ _ _
   | exact ih1 _ _ _ _ _ _ _ _ _
   | exact ih2 _ _ _ _ _ _ _ _ _ _
   | exact ih3 _ _ _ _ _ _ _ _ _
   | exact ih4 _ _ _ _ _ _ _ _ _ _
   | exact bits_LeadingZeros64.mono _ _
   | exact LeO.none _
   | refine LeO.ite ?_ ?_
   | refine LeO.bind ?_ (fun _ => ?_)
  ·intro y0 y1 y2 y3 y4 y5 y6 y7 y8 y9; unfold bits_Div64.j1
   repeat' first
   | (with_reducible exact ih0 _ _ _ _ _ _ _ _)
   | (with_reducible exact ih1 _ _ _ _ _ _ _ _ _)
   | (with_reducible exact ih2 _ _ _ _ _ _ _ _ _ _)
   | (with_reducible exact ih3 _ _ _ _ _ _ _ _ _)
   | (with_reducible exact ih4 _ _ _ _ _ _ _ _ _ _)
   | (with_reducible exact bits_LeadingZeros64.mono _ _)
   | (with_reducible exact LeO.refl _)
   | (with_reducible exact LeO.none _)
   | (with_reducible refine LeO.ite ?_ ?_)
   | (with_reducible refine LeO.bind ?_ (fun _ => ?_))
   | exact ih0 _ _ _ _ _ _ _ _
   | exact ih1 _ _ _ _ _ _ _ _ _
   | exact ih2 _ _ _ _ _ _ _ _ _ _
   | exact ih3 _ _ _ _ _ _ _ _ _
   | exact ih4 _ _ _ _ _ _ _ _ _ _
   | exact bits_LeadingZeros64.mono _ _
   | exact LeO.none _
   | refine LeO.ite ?_ ?_
   | refine LeO.bind ?_ (fun _ => ?_)
theorem bits_Div64.mono : ∀ a0 a1 a2 k, LeO (bits_Div64.f k a0 a1 a2) (bits_Div64.f (k + 1) a0 a1 a2) := by
 intro a0 a1 a2 k; obtain ⟨ih0, ih1, ih2, ih3, ih4⟩ := bits_Div64.mono_l k; unfold bits_Div64.f
 repeat' first
   | (with_reducible exact ih0 _ _ _ _ _ _ _ _)
   | (with_reducible exact ih1 _ _ _ _ _ _ _ _ _)
   | (with_reducible exact ih2 _ _ _ _ _ _ _ _ _ _)
   | (with_reducible exact ih3 _ _ _ _ _ _ _ _ _)
   | (with_reducible exact ih4 _ _ _ _ _ _ _ _ _ _)
   | (with_reducible exact bits_LeadingZeros64.mono _ _)
   | (with_reducible exact LeO.refl _)
   | (with_reducible exact LeO.none _)
   | (with_reducible refine LeO.ite ?_ ?_)
   | (with_reducible refine LeO.bind ?_ (fun _ => ?_))
   | exact ih0 _ _ _ _ _ _ _ _
   | exact ih1 _ _ _ _ _ _ _ _ _
   | exact ih2 _ _ _ _ _ _ _ _ _ _
   | exact ih3 _ _ _ _ _ _ _ _ _
   | exact ih4 _ _ _ _ _ _ _ _ _ _
   | exact bits_LeadingZeros64.mono _ _
   | exact LeO.none _
   | refine LeO.ite ?_ ?_
   | refine LeO.bind ?_ (fun _ => ?_)
set_option maxHeartbeats 8000000 in
set_option maxRecDepth 100000 in
theorem bits_Div64.calls (k : Nat) (a0 : Int) (a1 : Int) (a2 : Int) (r1 : Int) (r2 : Int) (w : World) (h : bits_Div64.f k a0 a1 a2 = some (r1, r2)) :
  Calls Try.prog 63 #[.int .u64 a0, .int .u64 a1, .int .u64 a2] w fun e w' => e = .returned (.tuple #[.int .u64 r1, .int .u64 r2]) ∧ Drawn0 w w' := by
 have H : (if a2 = 0 then (none) else (if a2 ≤ a0 then (none) else (if a0 = 0 then (some (IntKind.u64.wrap (Int.tdiv a1 a2), Int.tmod a1 a2)) else ((bits_LeadingZeros64.f k a2).bind fun t629 => (if 0 ≤ (IntKind.u64.wrap (t629)) then (if 0 ≤ (IntKind.u64.wrap (64 - (IntKind.u64.wrap (t629)))) then (if ((shl .u64 a2 (IntKind.u64.wrap (t629))) / 4294967296) = 0 then (none) else (bits_Div64.l0 k (shl .u64 a2 (IntKind.u64.wrap (t629))) (IntKind.u64.wrap (t629)) ((shl .u64 a2 (IntKind.u64.wrap (t629))) / 4294967296) (Go.bits .and .u64 (shl .u64 a2 (IntKind.u64.wrap (t629))) 4294967295) (Go.bits .or .u64 (shl .u64 a0 (IntKind.u64.wrap (t629))) (shr .u64 a1 (IntKind.u64.wrap (64 - (IntKind.u64.wrap (t629)))))) ((shl .u64 a1 (IntKind.u64.wrap (t629))) / 4294967296) (Go.bits .and .u64 (shl .u64 a1 (IntKind.u64.wrap (t629))) 4294967295) (IntKind.u64.wrap (Int.tdiv (Go.bits .or .u64 (shl .u64 a0 (IntKind.u64.wrap (t629))) (shr .u64 a1 (IntKind.u64.wrap (64 - (IntKind.u64.wrap (t629)))))) ((shl .u64 a2 (IntKind.u64.wrap (t629))) / 4294967296))) (IntKind.u64.wrap ((Go.bits .or .u64 (shl .u64 a0 (IntKind.u64.wrap (t629))) (shr .u64 a1 (IntKind.u64.wrap (64 - (IntKind.u64.wrap (t629)))))) - (IntKind.u64.wrap ((IntKind.u64.wrap (Int.tdiv (Go.bits .or .u64 (shl .u64 a0 (IntKind.u64.wrap (t629))) (shr .u64 a1 (IntKind.u64.wrap (64 - (IntKind.u64.wrap (t629)))))) ((shl .u64 a2 (IntKind.u64.wrap (t629))) / 4294967296))) * ((shl .u64 a2 (IntKind.u64.wrap (t629))) / 4294967296))))))) else (none)) else (none)))))) = some (r1, r2) := h; clear h
 by_cases c4 : a2 = 0
 ·rw [if_pos c4] at H; exact absurd H (by simp)
 ·rw [if_neg c4] at H; have c4b0 : (a2 == 0) = false := beq_eq_false_iff_ne.mpr c4; have c4b1 : (a2 != 0) = true := bne_iff_ne.mpr c4
  by_cases c5 : a2 ≤ a0
  ·rw [if_pos c5] at H; exact absurd H (by simp)
  ·rw [if_neg c5] at H; have c5b0 : decide (a2 ≤ a0) = false := decide_eq_false c5; clear c5
   by_cases c6 : a0 = 0
   ·rw [if_pos c6] at H; have c6b0 : (a0 == 0) = true := beq_iff_eq.mpr c6; have c6b1 : (a0 != 0) = false := bne_eq_false_iff_eq.mpr c6; clear c6; simp only [Option.some.injEq, Prod.mk.injEq] at H; obtain ⟨rfl, rfl⟩ := H
    go_enter Try.func63, Try.ntmps63
    go_wp2
    repeat (go_quiet (fail); try go_wp2)
    go_ret2
    exact ⟨by first | rfl | (simp; done) | (simp [*]; done), by repeat (first | exact Drawn0.refl _ | apply Drawn0.step)⟩
   ·rw [if_neg c6] at H; have c6b0 : (a0 == 0) = false := beq_eq_false_iff_ne.mpr c6; have c6b1 : (a0 != 0) = true := bne_iff_ne.mpr c6; replace H := Option.bind_eq_some_iff.mp H; obtain ⟨t629, A70, H⟩ := H; (try dsimp only at H); have A7 := m0 A70; clear A70; obtain ⟨ji8, hji8⟩ : ∃ j_ : Int, (IntKind.u64.wrap (t629)) = j_ := ⟨_, rfl⟩; (replace H : (if 0 ≤ (ji8) then (if 0 ≤ (IntKind.u64.wrap (64 - (ji8))) then (if ((shl .u64 a2 (ji8)) / 4294967296) = 0 then (none) else (bits_Div64.l0 k (shl .u64 a2 (ji8)) ji8 ((shl .u64 a2 (ji8)) / 4294967296) (Go.bits .and .u64 (shl .u64 a2 (ji8)) 4294967295) (Go.bits .or .u64 (shl .u64 a0 (ji8)) (shr .u64 a1 (IntKind.u64.wrap (64 - (ji8))))) ((shl .u64 a1 (ji8)) / 4294967296) (Go.bits .and .u64 (shl .u64 a1 (ji8)) 4294967295) (IntKind.u64.wrap (Int.tdiv (Go.bits .or .u64 (shl .u64 a0 (ji8)) (shr .u64 a1 (IntKind.u64.wrap (64 - (ji8))))) ((shl .u64 a2 (ji8)) / 4294967296))) (IntKind.u64.wrap ((Go.bits .or .u64 (shl .u64 a0 (ji8)) (shr .u64 a1 (IntKind.u64.wrap (64 - (ji8))))) - (IntKind.u64.wrap ((IntKind.u64.wrap (Int.tdiv (Go.bits .or .u64 (shl .u64 a0 (ji8)) (shr .u64 a1 (IntKind.u64.wrap (64 - (ji8))))) ((shl .u64 a2 (ji8)) / 4294967296))) * ((shl .u64 a2 (ji8)) / 4294967296))))))) else (none)) else (none)) = some (r1, r2) := by first | (rw [hji8] at H; exact H) | (simp only [hji8] at H ⊢; exact H)); (try rw [hji8] at A7)
    by_cases c9 : 0 ≤ (ji8)
    rotate_left
    ·rw [if_neg c9] at H; exact absurd H (by simp)
    rw [if_pos c9] at H; have c9b0 := eq_true c9; have c9b1 : decide (0 ≤ (ji8)) = true := decide_eq_true c9; clear c9; obtain ⟨ji10, hji10⟩ : ∃ j_ : Int, (shl .u64 a2 (ji8)) = j_ := ⟨_, rfl⟩; (replace H : (if 0 ≤ (IntKind.u64.wrap (64 - (ji8))) then (if ((ji10) / 4294967296) = 0 then (none) else (bits_Div64.l0 k ji10 ji8 ((ji10) / 4294967296) (Go.bits .and .u64 (ji10) 4294967295) (Go.bits .or .u64 (shl .u64 a0 (ji8)) (shr .u64 a1 (IntKind.u64.wrap (64 - (ji8))))) ((shl .u64 a1 (ji8)) / 4294967296) (Go.bits .and .u64 (shl .u64 a1 (ji8)) 4294967295) (IntKind.u64.wrap (Int.tdiv (Go.bits .or .u64 (shl .u64 a0 (ji8)) (shr .u64 a1 (IntKind.u64.wrap (64 - (ji8))))) ((ji10) / 4294967296))) (IntKind.u64.wrap ((Go.bits .or .u64 (shl .u64 a0 (ji8)) (shr .u64 a1 (IntKind.u64.wrap (64 - (ji8))))) - (IntKind.u64.wrap ((IntKind.u64.wrap (Int.tdiv (Go.bits .or .u64 (shl .u64 a0 (ji8)) (shr .u64 a1 (IntKind.u64.wrap (64 - (ji8))))) ((ji10) / 4294967296))) * ((ji10) / 4294967296))))))) else (none)) = some (r1, r2) := by first | (rw [hji10] at H; exact H) | (simp only [hji10] at H ⊢; exact H)); (try rw [hji10] at A7); have hji10_ : (IntKind.u64.wrap (a2 * 2 ^ min (ji8).toNat 64)) = ji10 := hji10; have hji10z : (ji8) ≤ 64 → (IntKind.u64.wrap (a2 * 2 ^ (ji8).toNat)) = ji10 := shl_small hji10; have c11b0 := eq_true (of_decide_eq_true (by first | (with_reducible assumption) | assumption) : 0 ≤ (ji8)); obtain ⟨ji12, hji12⟩ : ∃ j_ : Int, (shl .u64 a0 (ji8)) = j_ := ⟨_, rfl⟩; (replace H : (if 0 ≤ (IntKind.u64.wrap (64 - (ji8))) then (if ((ji10) / 4294967296) = 0 then (none) else (bits_Div64.l0 k ji10 ji8 ((ji10) / 4294967296) (Go.bits .and .u64 (ji10) 4294967295) (Go.bits .or .u64 (ji12) (shr .u64 a1 (IntKind.u64.wrap (64 - (ji8))))) ((shl .u64 a1 (ji8)) / 4294967296) (Go.bits .and .u64 (shl .u64 a1 (ji8)) 4294967295) (IntKind.u64.wrap (Int.tdiv (Go.bits .or .u64 (ji12) (shr .u64 a1 (IntKind.u64.wrap (64 - (ji8))))) ((ji10) / 4294967296))) (IntKind.u64.wrap ((Go.bits .or .u64 (ji12) (shr .u64 a1 (IntKind.u64.wrap (64 - (ji8))))) - (IntKind.u64.wrap ((IntKind.u64.wrap (Int.tdiv (Go.bits .or .u64 (ji12) (shr .u64 a1 (IntKind.u64.wrap (64 - (ji8))))) ((ji10) / 4294967296))) * ((ji10) / 4294967296))))))) else (none)) = some (r1, r2) := by first | (rw [hji12] at H; exact H) | (simp only [hji12] at H ⊢; exact H)); (try rw [hji12] at A7); have hji12_ : (IntKind.u64.wrap (a0 * 2 ^ min (ji8).toNat 64)) = ji12 := hji12; have hji12z : (ji8) ≤ 64 → (IntKind.u64.wrap (a0 * 2 ^ (ji8).toNat)) = ji12 := shl_small hji12; obtain ⟨ji13, hji13⟩ : ∃ j_ : Int, (IntKind.u64.wrap (64 - (ji8))) = j_ := ⟨_, rfl⟩; (replace H : (if 0 ≤ (ji13) then (if ((ji10) / 4294967296) = 0 then (none) else (bits_Div64.l0 k ji10 ji8 ((ji10) / 4294967296) (Go.bits .and .u64 (ji10) 4294967295) (Go.bits .or .u64 (ji12) (shr .u64 a1 (ji13))) ((shl .u64 a1 (ji8)) / 4294967296) (Go.bits .and .u64 (shl .u64 a1 (ji8)) 4294967295) (IntKind.u64.wrap (Int.tdiv (Go.bits .or .u64 (ji12) (shr .u64 a1 (ji13))) ((ji10) / 4294967296))) (IntKind.u64.wrap ((Go.bits .or .u64 (ji12) (shr .u64 a1 (ji13))) - (IntKind.u64.wrap ((IntKind.u64.wrap (Int.tdiv (Go.bits .or .u64 (ji12) (shr .u64 a1 (ji13))) ((ji10) / 4294967296))) * ((ji10) / 4294967296))))))) else (none)) = some (r1, r2) := by first | (rw [hji13] at H; exact H) | (simp only [hji13] at H ⊢; exact H)); (try rw [hji13] at A7)
    by_cases c14 : 0 ≤ (ji13)
    rotate_left
    ·rw [if_neg c14] at H; exact absurd H (by simp)
    rw [if_pos c14] at H; have c14b0 := eq_true c14; have c14b1 : decide (0 ≤ (ji13)) = true := decide_eq_true c14; clear c14; obtain ⟨ji15, hji15⟩ : ∃ j_ : Int, (shr .u64 a1 (ji13)) = j_ := ⟨_, rfl⟩; (replace H : (if ((ji10) / 4294967296) = 0 then (none) else (bits_Div64.l0 k ji10 ji8 ((ji10) / 4294967296) (Go.bits .and .u64 (ji10) 4294967295) (Go.bits .or .u64 (ji12) (ji15)) ((shl .u64 a1 (ji8)) / 4294967296) (Go.bits .and .u64 (shl .u64 a1 (ji8)) 4294967295) (IntKind.u64.wrap (Int.tdiv (Go.bits .or .u64 (ji12) (ji15)) ((ji10) / 4294967296))) (IntKind.u64.wrap ((Go.bits .or .u64 (ji12) (ji15)) - (IntKind.u64.wrap ((IntKind.u64.wrap (Int.tdiv (Go.bits .or .u64 (ji12) (ji15)) ((ji10) / 4294967296))) * ((ji10) / 4294967296))))))) = some (r1, r2) := by first | (rw [hji15] at H; exact H) | (simp only [hji15] at H ⊢; exact H)); (try rw [hji15] at A7); have hji15_ : (a1 / 2 ^ min (ji13).toNat 64) = ji15 := hji15; have hji15z : (ji13) ≤ 64 → (a1 / 2 ^ (ji13).toNat) = ji15 := shr_small hji15; have c16b0 := eq_true (of_decide_eq_true (by first | (with_reducible assumption) | assumption) : 0 ≤ (ji8)); obtain ⟨ji17, hji17⟩ : ∃ j_ : Int, (shl .u64 a1 (ji8)) = j_ := ⟨_, rfl⟩; (replace H : (if ((ji10) / 4294967296) = 0 then (none) else (bits_Div64.l0 k ji10 ji8 ((ji10) / 4294967296) (Go.bits .and .u64 (ji10) 4294967295) (Go.bits .or .u64 (ji12) (ji15)) ((ji17) / 4294967296) (Go.bits .and .u64 (ji17) 4294967295) (IntKind.u64.wrap (Int.tdiv (Go.bits .or .u64 (ji12) (ji15)) ((ji10) / 4294967296))) (IntKind.u64.wrap ((Go.bits .or .u64 (ji12) (ji15)) - (IntKind.u64.wrap ((IntKind.u64.wrap (Int.tdiv (Go.bits .or .u64 (ji12) (ji15)) ((ji10) / 4294967296))) * ((ji10) / 4294967296))))))) = some (r1, r2) := by first | (rw [hji17] at H; exact H) | (simp only [hji17] at H ⊢; exact H)); (try rw [hji17] at A7); have hji17_ : (IntKind.u64.wrap (a1 * 2 ^ min (ji8).toNat 64)) = ji17 := hji17; have hji17z : (ji8) ≤ 64 → (IntKind.u64.wrap (a1 * 2 ^ (ji8).toNat)) = ji17 := shl_small hji17
    by_cases c18 : ((ji10) / 4294967296) = 0
    ·rw [if_pos c18] at H; exact absurd H (by simp)
    ·rw [if_neg c18] at H; have c18b0 : (((ji10) / 4294967296) == 0) = false := beq_eq_false_iff_ne.mpr c18; have c18b1 : (((ji10) / 4294967296) != 0) = true := bne_iff_ne.mpr c18; have HC19 := m0 H; clear H
     go_enter Try.func63, Try.ntmps63
     go_upto_block 0 with (first | (go_at_call 64; (with_reducible refine (bits_LeadingZeros64.calls k a2 t629 _ A7.1).mono ?_); rintro e w' ⟨rfl, ⟨nd, rfl⟩⟩; (try first | exact ⟨rfl, _, World.drewN_drewN _ _ _⟩ | exact ⟨rfl, _, Eq.trans (World.drewN_drewN _ _ _) (congrArg (World.drewN _) (Nat.add_assoc _ _ _))⟩)))
     repeat (go_quiet (first | (go_at_call 64; (with_reducible refine (bits_LeadingZeros64.calls k a2 t629 _ A7.1).mono ?_); rintro e w' ⟨rfl, ⟨nd, rfl⟩⟩; (try first | exact ⟨rfl, _, World.drewN_drewN _ _ _⟩ | exact ⟨rfl, _, Eq.trans (World.drewN_drewN _ _ _) (congrArg (World.drewN _) (Nat.add_assoc _ _ _))⟩))); go_upto_block 0 with (first | (go_at_call 64; (with_reducible refine (bits_LeadingZeros64.calls k a2 t629 _ A7.1).mono ?_); rintro e w' ⟨rfl, ⟨nd, rfl⟩⟩; (try first | exact ⟨rfl, _, World.drewN_drewN _ _ _⟩ | exact ⟨rfl, _, Eq.trans (World.drewN_drewN _ _ _) (congrArg (World.drewN _) (Nat.add_assoc _ _ _))⟩))))
     (try simp only [Act.put, sA, sB, sC])
     go_cut [15] (fun v15 wc => ∃ (kq : Nat) (x15_18 : Int), v15 = .int .u64 x15_18 ∧ Aside0 (bits_Div64.j2 kq ji10 ji8 ((ji10) / 4294967296) (Go.bits .and .u64 (ji10) 4294967295) (Go.bits .or .u64 (ji12) (ji15)) ((ji17) / 4294967296) (Go.bits .and .u64 (ji17) 4294967295) x15_18 = some (r1, r2)) ∧ Aside0 (kq ≤ k) ∧ Drawn0 w wc)
     case first =>
      have H := HC19.1; clear HC19; have H' := m0 H; clear H
      go_wp2
      repeat (go_quiet (fail); try go_wp2)
      go_loopg [15, 16] k (fun kq v15 v16 w' => ∃ (x15_1 : Int) (x16_1 : Int), v15 = .int .u64 x15_1 ∧ v16 = .int .u64 x16_1 ∧ Aside0 (bits_Div64.l0 kq ji10 ji8 ((ji10) / 4294967296) (Go.bits .and .u64 (ji10) 4294967295) (Go.bits .or .u64 (ji12) (ji15)) ((ji17) / 4294967296) (Go.bits .and .u64 (ji17) 4294967295) x15_1 x16_1 = some (r1, r2)) ∧ Aside0 (kq ≤ k) ∧ Drawn0 w w')
      case atStart => exact ⟨(IntKind.u64.wrap (Int.tdiv (Go.bits .or .u64 (ji12) (ji15)) ((ji10) / 4294967296))), (IntKind.u64.wrap ((Go.bits .or .u64 (ji12) (ji15)) - (IntKind.u64.wrap ((IntKind.u64.wrap (Int.tdiv (Go.bits .or .u64 (ji12) (ji15)) ((ji10) / 4294967296))) * ((ji10) / 4294967296))))), (by first | rfl | (simp; done) | (simp only [← hji10, ← hji12, ← hji15] <;> (first | rfl | simp)) | (simp [*]; done)), (by first | rfl | (simp; done) | (simp only [← hji10, ← hji12, ← hji15] <;> (first | rfl | simp)) | (simp [*]; done)), H', ⟨Nat.le_refl _⟩, by repeat (first | exact Drawn0.refl _ | apply Drawn0.step)⟩
      case round =>
       clear H'; (try clear c1); (try clear p2); (try clear c4); (try clear c4b0); (try clear c4b1); (try clear c5); (try clear c5b0); (try clear c6); (try clear c6b0); (try clear c6b1); (try clear c9); (try clear c9b0); (try clear c9b1); (try clear c11); (try clear c11b0); (try clear c14); (try clear c14b0); (try clear c14b1); (try clear c16); (try clear c16b0); (try clear c18); (try clear c18b0); (try clear c18b1); obtain ⟨x15_1, x16_1, rfl, rfl, HA, HK1, ⟨m1, rfl⟩⟩ := hrel; cases gk with
       | zero => exact absurd HA.out (by simp [bits_Div64.l0])
       | succ k1 =>
        have H := HA.out; clear HA; simp only [bits_Div64.l0] at H; have HC20 := m0 H; clear H
        go_upto_region 17 with (fail)
        repeat (go_quiet (fail); go_upto_region 17 with (fail))
        go_cut [78] (fun v78 wc => ∃ (kq : Nat) (x78_19 : Bool), v78 = .bool x78_19 ∧ Aside0 (bits_Div64.j1 kq ji10 ji8 ((ji10) / 4294967296) (Go.bits .and .u64 (ji10) 4294967295) (Go.bits .or .u64 (ji12) (ji15)) ((ji17) / 4294967296) (Go.bits .and .u64 (ji17) 4294967295) x15_1 x16_1 x78_19 = some (r1, r2)) ∧ Aside0 (kq ≤ k1) ∧ Drawn0 w wc)
        case first =>
         have H := HC20.1; clear HC20
         by_cases c21 : x15_1 ≥ 4294967296
         ·rw [if_pos c21] at H; have c21b0 : decide (4294967296 ≤ x15_1) = true := decide_eq_true c21; clear c21; (first | rw [c21b0] | (simp only [i64_w, i32_w]; rw [c21b0]) | skip); have H' := m0 H; clear H
          go_wp2
          repeat (go_quiet (fail); try go_wp2)
          (refine Met.intro ?_; go_step; (repeat apply Exists.intro); refine ⟨?rel, ?frame⟩)
          case frame => first | rfl | (rw [c21b0]; first | done | rfl) | (rw [c18b1]; first | done | rfl) | (rw [c18b0]; first | done | rfl) | (rw [c14b1]; first | done | rfl) | (simp only [c4b0, c4b1, c5b0, c6b0, c6b1, c9b1, c14b1, c18b0, c18b1, c21b0]; first | done | rfl)
          case rel => exact ⟨_, (true), (by first | rfl | (simp; done) | (simp [*]; done)), H', ⟨by have := HK1.out; first | omega | exact Nat.le_refl _⟩, by repeat (first | exact Drawn0.refl _ | apply Drawn0.step)⟩
         ·rw [if_neg c21] at H; have c21b0 : decide (4294967296 ≤ x15_1) = false := decide_eq_false c21; clear c21; (first | rw [c21b0] | (simp only [i64_w, i32_w]; rw [c21b0]) | skip); have H' := m0 H; clear H
          go_wp2
          repeat (go_quiet (fail); try go_wp2)
          (refine Met.intro ?_; go_step; (repeat apply Exists.intro); refine ⟨?rel, ?frame⟩)
          case frame => first | rfl | (rw [c21b0]; first | done | rfl) | (rw [c18b1]; first | done | rfl) | (rw [c18b0]; first | done | rfl) | (rw [c14b1]; first | done | rfl) | (simp only [c4b0, c4b1, c5b0, c6b0, c6b1, c9b1, c14b1, c18b0, c18b1, c21b0]; first | done | rfl)
          case rel => exact ⟨_, (decide ((IntKind.u64.wrap (x15_1 * (Go.bits .and .u64 (ji10) 4294967295))) > (IntKind.u64.wrap ((IntKind.u64.wrap (4294967296 * x16_1)) + ((ji17) / 4294967296))))), (by first | rfl | (simp; done) | (simp only [← hji10, ← hji17] <;> (first | rfl | simp)) | (simp [*]; done)), H', ⟨by have := HK1.out; first | omega | exact Nat.le_refl _⟩, by repeat (first | exact Drawn0.refl _ | apply Drawn0.step)⟩
        case rest =>
         clear HC20; (try clear c1); (try clear c2); (try clear p2); (try clear c4); (try clear c4b0); (try clear c4b1); (try clear c5); (try clear c5b0); (try clear c6); (try clear c6b0); (try clear c6b1); (try clear c9); (try clear c9b0); (try clear c9b1); (try clear c11); (try clear c11b0); (try clear c14); (try clear c14b0); (try clear c14b1); (try clear c16); (try clear c16b0); (try clear c18); (try clear c18b0); (try clear c18b1); (try clear c21); (try clear c21b0); (try clear p2); obtain ⟨kq, x78_19, rfl, HA, HJ19, ⟨mc19, rfl⟩⟩ := hcut; cases kq with
         | zero => exact absurd HA.out (by simp [bits_Div64.j1])
         | succ kj19 =>
          have H := HA.out; clear HA; simp only [bits_Div64.j1] at H
          by_cases c22 : x78_19 = true
          ·subst c22; (have H1 : (if (IntKind.u64.wrap (x16_1 + ((ji10) / 4294967296))) ≥ 4294967296 then (bits_Div64.j2 kj19 ji10 ji8 ((ji10) / 4294967296) (Go.bits .and .u64 (ji10) 4294967295) (Go.bits .or .u64 (ji12) (ji15)) ((ji17) / 4294967296) (Go.bits .and .u64 (ji17) 4294967295) (IntKind.u64.wrap (x15_1 - 1))) else (bits_Div64.l0 kj19 ji10 ji8 ((ji10) / 4294967296) (Go.bits .and .u64 (ji10) 4294967295) (Go.bits .or .u64 (ji12) (ji15)) ((ji17) / 4294967296) (Go.bits .and .u64 (ji17) 4294967295) (IntKind.u64.wrap (x15_1 - 1)) (IntKind.u64.wrap (x16_1 + ((ji10) / 4294967296))))) = some (r1, r2) := by rw [if_pos rfl] at H; exact H); clear H; have H := H1; clear H1
           by_cases c23 : (IntKind.u64.wrap (x16_1 + ((ji10) / 4294967296))) ≥ 4294967296
           ·rw [if_pos c23] at H; have c23b0 : decide (4294967296 ≤ (IntKind.u64.wrap (x16_1 + ((ji10) / 4294967296)))) = true := decide_eq_true c23; clear c23; have H' := m0 H; clear H
            go_wp2
            repeat (go_quiet (fail); try go_wp2)
            (refine Met.intro ?_; go_step; (repeat apply Exists.intro); refine ⟨?rel, ?frame⟩)
            case frame => first | rfl | (rw [c23b0]; first | done | rfl) | (rw [c18b1]; first | done | rfl) | (rw [c18b0]; first | done | rfl) | (rw [c14b1]; first | done | rfl) | (simp only [c4b0, c4b1, c5b0, c6b0, c6b1, c9b1, c14b1, c18b0, c18b1, c23b0]; first | done | rfl)
            case rel => exact ⟨_, (IntKind.u64.wrap (x15_1 - 1)), (by first | rfl | (simp; done) | (simp [*]; done)), H', ⟨by have := HK1.out; have := HJ19.out; first | omega | exact Nat.le_refl _⟩, by repeat (first | exact Drawn0.refl _ | apply Drawn0.step)⟩
           ·rw [if_neg c23] at H; have c23b0 : decide (4294967296 ≤ (IntKind.u64.wrap (x16_1 + ((ji10) / 4294967296)))) = false := decide_eq_false c23; clear c23; have H' := m0 H; clear H
            go_wp2
            repeat (go_quiet (fail); try go_wp2)
            go_roundg kj19
            case measure => have := HK1.out; have := HJ19.out; omega
            case rel => exact ⟨(IntKind.u64.wrap (x15_1 - 1)), (IntKind.u64.wrap (x16_1 + ((ji10) / 4294967296))), (by first | rfl | (simp; done) | (simp [*]; done)), (by first | rfl | (simp; done) | (simp only [← hji10] <;> (first | rfl | simp)) | (simp [*]; done)), H', ⟨by have := HK1.out; have := HJ19.out; omega⟩, by repeat (first | exact Drawn0.refl _ | apply Drawn0.step)⟩
          ·replace c22 := Bool.eq_false_iff.mpr c22; subst c22; (have H1 : (bits_Div64.j2 kj19 ji10 ji8 ((ji10) / 4294967296) (Go.bits .and .u64 (ji10) 4294967295) (Go.bits .or .u64 (ji12) (ji15)) ((ji17) / 4294967296) (Go.bits .and .u64 (ji17) 4294967295) x15_1) = some (r1, r2) := by rw [if_neg (show ¬ (false = true) by decide)] at H; exact H); clear H; have H := H1; clear H1; have H' := m0 H; clear H
           go_wp2
           repeat (go_quiet (fail); try go_wp2)
           (refine Met.intro ?_; go_step; (repeat apply Exists.intro); refine ⟨?rel, ?frame⟩)
           case frame => first | rfl | (rw [c18b1]; first | done | rfl) | (rw [c18b0]; first | done | rfl) | (rw [c14b1]; first | done | rfl) | (rw [c9b1]; first | done | rfl) | (simp only [c4b0, c4b1, c5b0, c6b0, c6b1, c9b1, c14b1, c18b0, c18b1]; first | done | rfl)
           case rel => exact ⟨_, (x15_1), (by first | rfl | (simp; done) | (simp [*]; done)), H', ⟨by have := HK1.out; have := HJ19.out; first | omega | exact Nat.le_refl _⟩, by repeat (first | exact Drawn0.refl _ | apply Drawn0.step)⟩
     case rest =>
      clear HC19; (try clear c1); (try clear c2); (try clear p2); (try clear c4); (try clear c4b0); (try clear c4b1); (try clear c5); (try clear c5b0); (try clear c6); (try clear c6b0); (try clear c6b1); (try clear c9); (try clear c9b0); (try clear c9b1); (try clear c11); (try clear c11b0); (try clear c14); (try clear c14b0); (try clear c14b1); (try clear c16); (try clear c16b0); (try clear c18); (try clear c18b0); (try clear c18b1); (try clear c19); (try clear c21); (try clear c21b0); (try clear c22); (try clear c23); (try clear c23b0); (try clear p2); obtain ⟨kq, x15_18, rfl, HA, HJ18, ⟨mc18, rfl⟩⟩ := hcut; cases kq with
      | zero => exact absurd HA.out (by simp [bits_Div64.j2])
      | succ kj18 =>
       have H := HA.out; clear HA; simp only [bits_Div64.j2] at H
       by_cases c24 : ((ji10) / 4294967296) = 0
       ·rw [if_pos c24] at H; exact absurd H (by simp)
       ·rw [if_neg c24] at H; have c24b0 : (((ji10) / 4294967296) == 0) = false := beq_eq_false_iff_ne.mpr c24; have c24b1 : (((ji10) / 4294967296) != 0) = true := bne_iff_ne.mpr c24; have H' := m0 H; clear H
        go_wp2
        repeat (go_quiet (fail); try go_wp2)
        go_loopg [16, 18] kj18 (fun kq v16 v18 w' => ∃ (x16_2 : Int) (x18_2 : Int), v16 = .int .u64 x16_2 ∧ v18 = .int .u64 x18_2 ∧ Aside0 (bits_Div64.l1 kq ji10 ji8 ((ji10) / 4294967296) (Go.bits .and .u64 (ji10) 4294967295) (Go.bits .and .u64 (ji17) 4294967295) x15_18 x16_2 (IntKind.u64.wrap ((IntKind.u64.wrap ((IntKind.u64.wrap ((Go.bits .or .u64 (ji12) (ji15)) * 4294967296)) + ((ji17) / 4294967296))) - (IntKind.u64.wrap (x15_18 * ji10)))) x18_2 = some (r1, r2)) ∧ Aside0 (kq ≤ kj18) ∧ Drawn0 w w')
        case atStart => exact ⟨(IntKind.u64.wrap ((IntKind.u64.wrap ((IntKind.u64.wrap ((IntKind.u64.wrap ((Go.bits .or .u64 (ji12) (ji15)) * 4294967296)) + ((ji17) / 4294967296))) - (IntKind.u64.wrap (x15_18 * ji10)))) - (IntKind.u64.wrap ((IntKind.u64.wrap (Int.tdiv (IntKind.u64.wrap ((IntKind.u64.wrap ((IntKind.u64.wrap ((Go.bits .or .u64 (ji12) (ji15)) * 4294967296)) + ((ji17) / 4294967296))) - (IntKind.u64.wrap (x15_18 * ji10)))) ((ji10) / 4294967296))) * ((ji10) / 4294967296))))), (IntKind.u64.wrap (Int.tdiv (IntKind.u64.wrap ((IntKind.u64.wrap ((IntKind.u64.wrap ((Go.bits .or .u64 (ji12) (ji15)) * 4294967296)) + ((ji17) / 4294967296))) - (IntKind.u64.wrap (x15_18 * ji10)))) ((ji10) / 4294967296))), (by first | rfl | (simp; done) | (simp only [← hji10, ← hji12, ← hji15, ← hji17] <;> (first | rfl | simp)) | (simp [*]; done)), (by first | rfl | (simp; done) | (simp only [← hji10, ← hji12, ← hji15, ← hji17] <;> (first | rfl | simp)) | (simp [*]; done)), H', ⟨Nat.le_refl _⟩, by repeat (first | exact Drawn0.refl _ | apply Drawn0.step)⟩
        case round =>
         clear H'; (try clear c1); (try clear c2); (try clear p2); (try clear c4); (try clear c4b0); (try clear c4b1); (try clear c5); (try clear c5b0); (try clear c6); (try clear c6b0); (try clear c6b1); (try clear c9); (try clear c9b0); (try clear c9b1); (try clear c11); (try clear c11b0); (try clear c14); (try clear c14b0); (try clear c14b1); (try clear c16); (try clear c16b0); (try clear c18); (try clear c18b0); (try clear c18b1); (try clear c19); (try clear c21); (try clear c21b0); (try clear c22); (try clear c23); (try clear c23b0); (try clear c24); (try clear c24b0); (try clear c24b1); (try clear p2); obtain ⟨x16_2, x18_2, rfl, rfl, HA, HK2, ⟨m2, rfl⟩⟩ := hrel; cases gk with
         | zero => exact absurd HA.out (by simp [bits_Div64.l1])
         | succ k2 =>
          have H := HA.out; clear HA; simp only [bits_Div64.l1] at H; have HC25 := m0 H; clear H
          go_upto_region 24 with (fail)
          repeat (go_quiet (fail); go_upto_region 24 with (fail))
          go_cut [113] (fun v113 wc => ∃ (kq : Nat) (x113_24 : Bool), v113 = .bool x113_24 ∧ Aside0 (bits_Div64.j4 kq ji10 ji8 ((ji10) / 4294967296) (Go.bits .and .u64 (ji10) 4294967295) (Go.bits .and .u64 (ji17) 4294967295) x15_18 x16_2 (IntKind.u64.wrap ((IntKind.u64.wrap ((IntKind.u64.wrap ((Go.bits .or .u64 (ji12) (ji15)) * 4294967296)) + ((ji17) / 4294967296))) - (IntKind.u64.wrap (x15_18 * ji10)))) x18_2 x113_24 = some (r1, r2)) ∧ Aside0 (kq ≤ k2) ∧ Drawn0 w wc)
          case first =>
           have H := HC25.1; clear HC25
           by_cases c26 : x18_2 ≥ 4294967296
           ·rw [if_pos c26] at H; have c26b0 : decide (4294967296 ≤ x18_2) = true := decide_eq_true c26; clear c26; (first | rw [c26b0] | (simp only [i64_w, i32_w]; rw [c26b0]) | skip); have H' := m0 H; clear H
            go_wp2
            repeat (go_quiet (fail); try go_wp2)
            (refine Met.intro ?_; go_step; (repeat apply Exists.intro); refine ⟨?rel, ?frame⟩)
            case frame => first | rfl | (rw [c26b0]; first | done | rfl) | (rw [c24b1]; first | done | rfl) | (rw [c24b0]; first | done | rfl) | (rw [c18b1]; first | done | rfl) | (simp only [c4b0, c4b1, c5b0, c6b0, c6b1, c9b1, c14b1, c18b0, c18b1, c24b0, c24b1, c26b0]; first | done | rfl)
            case rel => exact ⟨_, (true), (by first | rfl | (simp; done) | (simp [*]; done)), H', ⟨by have := HJ18.out; have := HK2.out; first | omega | exact Nat.le_refl _⟩, by repeat (first | exact Drawn0.refl _ | apply Drawn0.step)⟩
           ·rw [if_neg c26] at H; have c26b0 : decide (4294967296 ≤ x18_2) = false := decide_eq_false c26; clear c26; (first | rw [c26b0] | (simp only [i64_w, i32_w]; rw [c26b0]) | skip); have H' := m0 H; clear H
            go_wp2
            repeat (go_quiet (fail); try go_wp2)
            (refine Met.intro ?_; go_step; (repeat apply Exists.intro); refine ⟨?rel, ?frame⟩)
            case frame => first | rfl | (rw [c26b0]; first | done | rfl) | (rw [c24b1]; first | done | rfl) | (rw [c24b0]; first | done | rfl) | (rw [c18b1]; first | done | rfl) | (simp only [c4b0, c4b1, c5b0, c6b0, c6b1, c9b1, c14b1, c18b0, c18b1, c24b0, c24b1, c26b0]; first | done | rfl)
            case rel => exact ⟨_, (decide ((IntKind.u64.wrap (x18_2 * (Go.bits .and .u64 (ji10) 4294967295))) > (IntKind.u64.wrap ((IntKind.u64.wrap (4294967296 * x16_2)) + (Go.bits .and .u64 (ji17) 4294967295))))), (by first | rfl | (simp; done) | (simp only [← hji10, ← hji17] <;> (first | rfl | simp)) | (simp [*]; done)), H', ⟨by have := HJ18.out; have := HK2.out; first | omega | exact Nat.le_refl _⟩, by repeat (first | exact Drawn0.refl _ | apply Drawn0.step)⟩
          case rest =>
           clear HC25; (try clear c1); (try clear c2); (try clear p2); (try clear c4); (try clear c4b0); (try clear c4b1); (try clear c5); (try clear c5b0); (try clear c6); (try clear c6b0); (try clear c6b1); (try clear c9); (try clear c9b0); (try clear c9b1); (try clear c11); (try clear c11b0); (try clear c14); (try clear c14b0); (try clear c14b1); (try clear c16); (try clear c16b0); (try clear c18); (try clear c18b0); (try clear c18b1); (try clear c19); (try clear c21); (try clear c21b0); (try clear c22); (try clear c23); (try clear c23b0); (try clear c24); (try clear c24b0); (try clear c24b1); (try clear c26); (try clear c26b0); (try clear p2); obtain ⟨kq, x113_24, rfl, HA, HJ24, ⟨mc24, rfl⟩⟩ := hcut; cases kq with
           | zero => exact absurd HA.out (by simp [bits_Div64.j4])
           | succ kj24 =>
            have H := HA.out; clear HA; simp only [bits_Div64.j4] at H
            by_cases c27 : x113_24 = true
            ·subst c27; (have H1 : (if (IntKind.u64.wrap (x16_2 + ((ji10) / 4294967296))) ≥ 4294967296 then (if 0 ≤ ji8 then (some (IntKind.u64.wrap ((IntKind.u64.wrap (x15_18 * 4294967296)) + (IntKind.u64.wrap (x18_2 - 1))), shr .u64 (IntKind.u64.wrap ((IntKind.u64.wrap ((IntKind.u64.wrap ((IntKind.u64.wrap ((IntKind.u64.wrap ((IntKind.u64.wrap ((Go.bits .or .u64 (ji12) (ji15)) * 4294967296)) + ((ji17) / 4294967296))) - (IntKind.u64.wrap (x15_18 * ji10)))) * 4294967296)) + (Go.bits .and .u64 (ji17) 4294967295))) - (IntKind.u64.wrap ((IntKind.u64.wrap (x18_2 - 1)) * ji10)))) ji8)) else (none)) else (bits_Div64.l1 kj24 ji10 ji8 ((ji10) / 4294967296) (Go.bits .and .u64 (ji10) 4294967295) (Go.bits .and .u64 (ji17) 4294967295) x15_18 (IntKind.u64.wrap (x16_2 + ((ji10) / 4294967296))) (IntKind.u64.wrap ((IntKind.u64.wrap ((IntKind.u64.wrap ((Go.bits .or .u64 (ji12) (ji15)) * 4294967296)) + ((ji17) / 4294967296))) - (IntKind.u64.wrap (x15_18 * ji10)))) (IntKind.u64.wrap (x18_2 - 1)))) = some (r1, r2) := by rw [if_pos rfl] at H; exact H); clear H; have H := H1; clear H1
             by_cases c28 : (IntKind.u64.wrap (x16_2 + ((ji10) / 4294967296))) ≥ 4294967296
             ·rw [if_pos c28] at H; have c28b0 : decide (4294967296 ≤ (IntKind.u64.wrap (x16_2 + ((ji10) / 4294967296)))) = true := decide_eq_true c28; clear c28
              by_cases c29 : 0 ≤ ji8
              rotate_left
              ·rw [if_neg c29] at H; exact absurd H (by simp)
              rw [if_pos c29] at H; have c29b0 := eq_true c29; have c29b1 : decide (0 ≤ ji8) = true := decide_eq_true c29; clear c29; obtain ⟨ji30, hji30⟩ : ∃ j_ : Int, (shr .u64 (IntKind.u64.wrap ((IntKind.u64.wrap ((IntKind.u64.wrap ((IntKind.u64.wrap ((IntKind.u64.wrap ((IntKind.u64.wrap ((Go.bits .or .u64 (ji12) (ji15)) * 4294967296)) + ((ji17) / 4294967296))) - (IntKind.u64.wrap (x15_18 * ji10)))) * 4294967296)) + (Go.bits .and .u64 (ji17) 4294967295))) - (IntKind.u64.wrap ((IntKind.u64.wrap (x18_2 - 1)) * ji10)))) ji8) = j_ := ⟨_, rfl⟩; (replace H : (some (IntKind.u64.wrap ((IntKind.u64.wrap (x15_18 * 4294967296)) + (IntKind.u64.wrap (x18_2 - 1))), ji30)) = some (r1, r2) := by first | (rw [hji30] at H; exact H) | (simp only [hji30] at H ⊢; exact H)); have hji30_ : ((IntKind.u64.wrap ((IntKind.u64.wrap ((IntKind.u64.wrap ((IntKind.u64.wrap ((IntKind.u64.wrap ((IntKind.u64.wrap ((Go.bits .or .u64 (ji12) (ji15)) * 4294967296)) + ((ji17) / 4294967296))) - (IntKind.u64.wrap (x15_18 * ji10)))) * 4294967296)) + (Go.bits .and .u64 (ji17) 4294967295))) - (IntKind.u64.wrap ((IntKind.u64.wrap (x18_2 - 1)) * ji10)))) / 2 ^ min ji8.toNat 64) = ji30 := hji30; have hji30z : ji8 ≤ 64 → ((IntKind.u64.wrap ((IntKind.u64.wrap ((IntKind.u64.wrap ((IntKind.u64.wrap ((IntKind.u64.wrap ((IntKind.u64.wrap ((Go.bits .or .u64 (ji12) (ji15)) * 4294967296)) + ((ji17) / 4294967296))) - (IntKind.u64.wrap (x15_18 * ji10)))) * 4294967296)) + (Go.bits .and .u64 (ji17) 4294967295))) - (IntKind.u64.wrap ((IntKind.u64.wrap (x18_2 - 1)) * ji10)))) / 2 ^ ji8.toNat) = ji30 := shr_small hji30; simp only [Option.some.injEq, Prod.mk.injEq] at H; obtain ⟨rfl, rfl⟩ := H
              go_wp2
              repeat (go_quiet (fail); try go_wp2)
              go_ret2
              exact ⟨by first | rfl | (simp; done) | (simp only [← hji8, ← hji10, ← hji12, ← hji13, ← hji15, ← hji17, ← hji30] <;> (first | rfl | simp)) | (simp [*]; done), by repeat (first | exact Drawn0.refl _ | apply Drawn0.step)⟩
             ·rw [if_neg c28] at H; have c28b0 : decide (4294967296 ≤ (IntKind.u64.wrap (x16_2 + ((ji10) / 4294967296)))) = false := decide_eq_false c28; clear c28; have H' := m0 H; clear H
              go_wp2
              repeat (go_quiet (fail); try go_wp2)
              go_roundg kj24
              case measure => have := HJ18.out; have := HK2.out; have := HJ24.out; omega
              case rel => exact ⟨(IntKind.u64.wrap (x16_2 + ((ji10) / 4294967296))), (IntKind.u64.wrap (x18_2 - 1)), (by first | rfl | (simp; done) | (simp only [← hji10] <;> (first | rfl | simp)) | (simp [*]; done)), (by first | rfl | (simp; done) | (simp [*]; done)), H', ⟨by have := HJ18.out; have := HK2.out; have := HJ24.out; omega⟩, by repeat (first | exact Drawn0.refl _ | apply Drawn0.step)⟩
            ·replace c27 := Bool.eq_false_iff.mpr c27; subst c27; (have H1 : (if 0 ≤ ji8 then (some (IntKind.u64.wrap ((IntKind.u64.wrap (x15_18 * 4294967296)) + x18_2), shr .u64 (IntKind.u64.wrap ((IntKind.u64.wrap ((IntKind.u64.wrap ((IntKind.u64.wrap ((IntKind.u64.wrap ((IntKind.u64.wrap ((Go.bits .or .u64 (ji12) (ji15)) * 4294967296)) + ((ji17) / 4294967296))) - (IntKind.u64.wrap (x15_18 * ji10)))) * 4294967296)) + (Go.bits .and .u64 (ji17) 4294967295))) - (IntKind.u64.wrap (x18_2 * ji10)))) ji8)) else (none)) = some (r1, r2) := by rw [if_neg (show ¬ (false = true) by decide)] at H; exact H); clear H; have H := H1; clear H1
             by_cases c31 : 0 ≤ ji8
             rotate_left
             ·rw [if_neg c31] at H; exact absurd H (by simp)
             rw [if_pos c31] at H; have c31b0 := eq_true c31; have c31b1 : decide (0 ≤ ji8) = true := decide_eq_true c31; clear c31; obtain ⟨ji32, hji32⟩ : ∃ j_ : Int, (shr .u64 (IntKind.u64.wrap ((IntKind.u64.wrap ((IntKind.u64.wrap ((IntKind.u64.wrap ((IntKind.u64.wrap ((IntKind.u64.wrap ((Go.bits .or .u64 (ji12) (ji15)) * 4294967296)) + ((ji17) / 4294967296))) - (IntKind.u64.wrap (x15_18 * ji10)))) * 4294967296)) + (Go.bits .and .u64 (ji17) 4294967295))) - (IntKind.u64.wrap (x18_2 * ji10)))) ji8) = j_ := ⟨_, rfl⟩; (replace H : (some (IntKind.u64.wrap ((IntKind.u64.wrap (x15_18 * 4294967296)) + x18_2), ji32)) = some (r1, r2) := by first | (rw [hji32] at H; exact H) | (simp only [hji32] at H ⊢; exact H)); have hji32_ : ((IntKind.u64.wrap ((IntKind.u64.wrap ((IntKind.u64.wrap ((IntKind.u64.wrap ((IntKind.u64.wrap ((IntKind.u64.wrap ((Go.bits .or .u64 (ji12) (ji15)) * 4294967296)) + ((ji17) / 4294967296))) - (IntKind.u64.wrap (x15_18 * ji10)))) * 4294967296)) + (Go.bits .and .u64 (ji17) 4294967295))) - (IntKind.u64.wrap (x18_2 * ji10)))) / 2 ^ min ji8.toNat 64) = ji32 := hji32; have hji32z : ji8 ≤ 64 → ((IntKind.u64.wrap ((IntKind.u64.wrap ((IntKind.u64.wrap ((IntKind.u64.wrap ((IntKind.u64.wrap ((IntKind.u64.wrap ((Go.bits .or .u64 (ji12) (ji15)) * 4294967296)) + ((ji17) / 4294967296))) - (IntKind.u64.wrap (x15_18 * ji10)))) * 4294967296)) + (Go.bits .and .u64 (ji17) 4294967295))) - (IntKind.u64.wrap (x18_2 * ji10)))) / 2 ^ ji8.toNat) = ji32 := shr_small hji32; simp only [Option.some.injEq, Prod.mk.injEq] at H; obtain ⟨rfl, rfl⟩ := H
             go_wp2
             repeat (go_quiet (fail); try go_wp2)
             go_ret2
             exact ⟨by first | rfl | (simp; done) | (simp only [← hji8, ← hji10, ← hji12, ← hji13, ← hji15, ← hji17, ← hji32] <;> (first | rfl | simp)) | (simp [*]; done), by repeat (first | exact Drawn0.refl _ | apply Drawn0.step)⟩
end Go.Proofs.Ytebjbmgfbejapaa.F
end

section
namespace Go.Proofs.Ytebjbmgfbejapaa.F
open Go.RowKit Go.Proofs.YtebjbmgfbejapaaW.PrintWords Go.Proofs.YtebjbmgfbejapaaW.PrintLast Go.Proofs.YtebjbmgfbejapaaW.PrintMore Go.Proofs.YtebjbmgfbejapaaX
attribute [local go_sem] max2_int cell_some xrun_add64 xrun_sub64
attribute [local go_sem] max2_int min2_int max_two min_two max_three min_three max_four min_four
set_option linter.unusedVariables false
set_option linter.unusedSimpArgs false
def quot_by.l0 : Nat → List Int → Int → List Int → Int → Int → Option (List Int × Int)
 | 0, _, _, _, _, _ => none
 | k + 1, x0, x1, x6, x7, x8 => if x8 ≥ 0 then (if 0 ≤ x8 then (if x8 < (x0.length : Int) then ((bits_Div64.f k x7 (rd x0 x8) x1).bind fun bt634 => (if x8 < (x6.length : Int) then (quot_by.l0 k x0 x1 (x6.set (x8 : Int).toNat bt634.1) bt634.2 (wrap64 (x8 - 1))) else (none))) else (none)) else (none)) else (some (x6, x7))
def quot_by.f (k : Nat) (l0 : List Int) (a1 : Int) : Option (List Int × Int) := if 0 ≤ (l0.length : Int) then (if ((l0.length : Int) : Int).toNat ≤ 35184372088832 then (quot_by.l0 k l0 a1 (List.replicate ((l0.length : Int) : Int).toNat 0) 0 (wrap64 ((l0.length : Int) - 1))) else (none)) else (none)
theorem quot_by.mono_l : ∀ k, (∀ y0 y1 y2 y3 y4, LeO (quot_by.l0 k y0 y1 y2 y3 y4) (quot_by.l0 (k + 1) y0 y1 y2 y3 y4))
 | 0 => fun _ _ _ _ _ r h => by simp [quot_by.l0] at h
 | k + 1 => by
  have ih0 := quot_by.mono_l k
  ·intro y0 y1 y2 y3 y4; unfold quot_by.l0
   repeat' first
   | (with_reducible exact ih0 _ _ _ _ _)
   | (with_reducible exact bits_Div64.mono _ _ _ _)
   | (with_reducible exact LeO.refl _)
   | (with_reducible exact LeO.none _)
   | (with_reducible refine LeO.ite ?_ ?_)
   | (with_reducible refine LeO.bind ?_ (fun _ => ?_))
   | exact ih0 _ _ _ _ _
   | exact bits_Div64.mono _ _ _ _
   | exact LeO.none _
   | refine LeO.ite ?_ ?_
   | refine LeO.bind ?_ (fun _ => ?_)
theorem quot_by.mono : ∀ a0 a1 k, LeO (quot_by.f k a0 a1) (quot_by.f (k + 1) a0 a1) := by
 intro a0 a1 k; have ih0 := quot_by.mono_l k; unfold quot_by.f
 repeat' first
   | (with_reducible exact ih0 _ _ _ _ _)
   | (with_reducible exact bits_Div64.mono _ _ _ _)
   | (with_reducible exact LeO.refl _)
   | (with_reducible exact LeO.none _)
   | (with_reducible refine LeO.ite ?_ ?_)
   | (with_reducible refine LeO.bind ?_ (fun _ => ?_))
   | exact ih0 _ _ _ _ _
   | exact bits_Div64.mono _ _ _ _
   | exact LeO.none _
   | refine LeO.ite ?_ ?_
   | refine LeO.bind ?_ (fun _ => ?_)
set_option maxHeartbeats 8000000 in
set_option maxRecDepth 100000 in
theorem quot_by.calls (k : Nat) (A0 : Option Addr) (c0 : Nat) (l0 : List Int) (a1 : Int) (r1 : List Int) (r2 : Int) (w : World) (hr0 : Kd.C (Kd.int .u64) w A0 l0.length l0) (hc0 : l0.length ≤ c0) (h : quot_by.f k l0 a1 = some (r1, r2)) :
  Calls Try.prog 55 #[.slice A0 l0.length c0, .int .u64 a1] w fun e w' => ∃ v0_ : Value, e = .returned (.tuple #[v0_, .int .u64 r2]) ∧ Kd.R (Kd.int .u64) 27 w' w.heap.size (fun _ => True) v0_ r1 ∧ Below w.heap.size w w' := by
 have HR0 := m0 hr0; have HC0 := m0 hc0; clear hr0 hc0; have HB := m0 (Below.refl w.heap.size w); have H : (if 0 ≤ (l0.length : Int) then (if ((l0.length : Int) : Int).toNat ≤ 35184372088832 then (quot_by.l0 k l0 a1 (List.replicate ((l0.length : Int) : Int).toNat 0) 0 (wrap64 ((l0.length : Int) - 1))) else (none)) else (none)) = some (r1, r2) := h; clear h
 by_cases c3 : 0 ≤ (l0.length : Int)
 rotate_left
 ·rw [if_neg c3] at H; exact absurd H (by simp)
 rw [if_pos c3] at H; have c3b0 := eq_true c3; have c3b1 : decide (0 ≤ (l0.length : Int)) = true := decide_eq_true c3; clear c3
 by_cases c4 : ((l0.length : Int) : Int).toNat ≤ 35184372088832
 rotate_left
 ·rw [if_neg c4] at H; exact absurd H (by simp)
 rw [if_pos c4] at H; have c4b0 := eq_true c4; have c4b1 : decide (((l0.length : Int) : Int).toNat ≤ 35184372088832) = true := decide_eq_true c4; clear c4; obtain ⟨y630, hy630⟩ : ∃ y_ : List Int, y_ = (List.replicate ((l0.length : Int) : Int).toNat 0) := ⟨_, rfl⟩; (replace H : (quot_by.l0 k l0 a1 y630 0 (wrap64 ((l0.length : Int) - 1))) = some (r1, r2) := by first | (rw [hy630]; with_reducible exact H) | (have H2_ := (Option.bind_some _ _).symm.trans H; rw [hy630]; with_reducible exact H2_) | (have H2_ := (Option.bind_some _ _).symm.trans H; with_reducible exact H2_) | with_reducible exact H | (rw [hy630]; exact H) | exact H); have Ny630 := m0 hy630; clear hy630; have H' := m0 H; clear H
 go_enter Try.func55, Try.ntmps55
 go_wp2_with (first | ((with_reducible refine gate_dst (N := 11) rfl ?_); refine Kd.R_make (Kd.int .u64) _ 27 rfl (N := 11) rfl 22 _ _ rfl (l0.length : Int) rfl rfl Try.underlying22 (.int .u64 0) 8 info27 rfl (by decide) (by omega) 0 (ok := fun _ => True) (okp := fun _ => True) rfl (fun _ hk => hk) trivial (of_decide_eq_true (by first | (with_reducible assumption) | assumption)) (Nat.le_trans (Nat.mul_le_mul_right _ (of_decide_eq_true (by first | (with_reducible assumption) | assumption) : (l0.length : Int).toNat ≤ 35184372088832)) (by omega)) (Below.refl _ _) (Nat.le_refl _) ?_; intro v631 w5 ho6 hb hg_ hnew_; clear hg_ hnew_; (first | rw [← Ny630.out] at ho6 | (simp only [Int.reduceToNat] at ho6; rw [← Ny630.out] at ho6)); have a2 := m0 (Kd.R_lower ho6 (bz HB.1)); replace HB := sa HB hb; clear hb ho6))
 go_loopg [7, 8] k (fun kq v7 v8 w' => ∃ (x6_1 : List Int) (x7_1 : Int) (x8_1 : Int), v7 = .int .u64 x7_1 ∧ v8 = .int .i64 x8_1 ∧ Aside0 (quot_by.l0 kq l0 a1 x6_1 x7_1 x8_1 = some (r1, r2)) ∧ Aside0 (kq ≤ k) ∧ Aside0 (Kd.R (Kd.int .u64) 27 w' w.heap.size (fun _ => True) v631 x6_1) ∧ Aside0 (Below w.heap.size w w'))
 case atStart => exact ⟨(y630), (0), (wrap64 ((l0.length : Int) - 1)), (by first | rfl | (simp; done) | (simp [*]; done)), (by first | rfl | (simp; done) | (simp [*]; done)), H', ⟨Nat.le_refl _⟩, ⟨by (with_reducible repeat (first | apply Kd.R_alloc | apply Kd.R_drewN | apply Kd.R_drew)); exact a2.1⟩, ⟨by repeat (first | (with_reducible first | exact HB.1 | apply below_alloc | apply pw_below_drewN | apply below_drew1) | exact HB.1)⟩⟩
 case round =>
  clear H'; (try clear p2); (try clear c3); (try clear c3b0); (try clear c3b1); (try clear c4); (try clear c4b0); (try clear c4b1); (try clear c5); (try clear p6); obtain ⟨x6_1, x7_1, x8_1, rfl, rfl, HA, HK1, HO_6, HB⟩ := hrel; cases gk with
  | zero => exact absurd HA.out (by simp [quot_by.l0])
  | succ k1 =>
   have H := HA.out; clear HA; simp only [quot_by.l0] at H
   by_cases c7 : x8_1 ≥ 0
   ·rw [if_pos c7] at H; have c7b0 : decide (0 ≤ x8_1) = true := decide_eq_true c7; clear c7
    by_cases c8 : 0 ≤ x8_1
    rotate_left
    ·rw [if_neg c8] at H; exact absurd H (by simp)
    rw [if_pos c8] at H; have c8b0 : decide (0 ≤ x8_1) = true := decide_eq_true c8; clear c8
    by_cases c9 : x8_1 < (l0.length : Int)
    rotate_left
    ·rw [if_neg c9] at H; exact absurd H (by simp)
    rw [if_pos c9] at H; have c9b0 : decide (x8_1 < (l0.length : Int)) = true := decide_eq_true c9; clear c9; replace H := Option.bind_eq_some_iff.mp H; obtain ⟨⟨t634, t635⟩, A100, H⟩ := H; (try dsimp only at H); have A10 := m0 A100; clear A100
    by_cases c11 : x8_1 < (x6_1.length : Int)
    rotate_left
    ·rw [if_neg c11] at H; exact absurd H (by simp)
    rw [if_pos c11] at H; have c11b0 : decide (x8_1 < (x6_1.length : Int)) = true := decide_eq_true c11; clear c11; obtain ⟨y636, hy636⟩ : ∃ y_ : List Int, y_ = (x6_1.set (x8_1 : Int).toNat t634) := ⟨_, rfl⟩; (replace H : (quot_by.l0 k1 l0 a1 y636 t635 (wrap64 (x8_1 - 1))) = some (r1, r2) := by first | (rw [hy636]; with_reducible exact H) | (have H2_ := (Option.bind_some _ _).symm.trans H; rw [hy636]; with_reducible exact H2_) | (have H2_ := (Option.bind_some _ _).symm.trans H; with_reducible exact H2_) | with_reducible exact H | (rw [hy636]; exact H) | exact H); have Ny636 := m0 hy636; clear hy636; have H' := m0 H; clear H; have p633 : 0 ≤ (x8_1 : Int) := of_decide_eq_true (by first | (with_reducible assumption) | assumption); have q633 : x8_1 < (l0.length : Int) := of_decide_eq_true (by first | (with_reducible assumption) | assumption); obtain ⟨ad633, e633, hx633_0⟩ := Kd.at_int HR0.1 x8_1 p633 q633; cases e633; replace hx633_0 := (HB.1.cell (World.block_lt_of_cell? w _ hx633_0)).trans hx633_0; replace p633 := eq_true p633; replace q633 := eq_true q633
    go_wp2_with (first | ((with_reducible refine gate_callee (f := 63) rfl ?_); refine goesL_ (some 28) rfl rfl Try.func63 kr rfl #[.int .u64 x7_1, .int .u64 (rd l0 x8_1), .int .u64 a1] rfl gm ?_; (with_reducible refine (bits_Div64.calls k1 x7_1 (rd l0 x8_1) a1 t634 t635 _ A10.1).mono ?_); rintro e w' ⟨rfl, ⟨nd, rfl⟩⟩; refine ⟨_, rfl, ?_⟩; (try (rw [drewN_self wr]; generalize hq_ : World.drewN wr _ = wr; have n0_ : Aside0 (Kd.R (Kd.int .u64) 27 wr w.heap.size (fun _ => True) v631 x6_1) := ⟨by rw [← hq_]; exact HO_6.out⟩; have n1_ : Aside0 (Below w.heap.size w wr) := ⟨by rw [← hq_]; exact (bf HB)⟩; clear HO_6 HB hq_; have HO_6 := n0_; have HB := n1_; clear n0_ n1_)); have p12 : 0 ≤ (x8_1 : Int) := of_decide_eq_true (by first | (with_reducible assumption) | assumption); have q12 : (x8_1 : Int) < ((x6_1.length : Int) : Int) := of_decide_eq_true (by first | (with_reducible assumption) | assumption); obtain ⟨go12, K0, j0, g0, gl12, cl12, HG12⟩ := Kd.R_form HO_6.out (by omega); (first | cases j0 | (injection j0 with ea_ en_ ec_; (first | subst ea_ | (injection ea_ with ea_; subst ea_)); subst ec_; clear en_)); have GB12 := m0 g0; have GG12 := m0 HG12; clear g0 gl12 HG12; obtain ⟨hx12_0, hf12_0⟩ := Kd.R_celln 0 HO_6.out (x8_1 : Int) p12 q12; replace p12 := eq_true p12; replace q12 := eq_true q12; obtain ⟨hy13_, hz13_⟩ := Kd.R_celln 0 HO_6.out (x8_1 : Int) (of_decide_eq_true (by first | (with_reducible assumption) | assumption)) (of_decide_eq_true (by first | (with_reducible assumption) | assumption)); have HP13 := Kd.R_putg HO_6.out (x8_1 : Int) t634) | ((with_reducible refine gate_store (t := 27) (p := 31) rfl ?_); refine store_event (t := 27) (p := 31) (v := ?vo_w14) (w1 := (wr.setCell ⟨go12, (x8_1 : Int).toNat, none⟩ (.int .u64 t634))) ?hg ?ho ?hn ?hr ?_; (case ho => rfl); (case hg => rfl); (case hn => rfl); (case hr => first | (go_simp; done) | (go_simp; rfl)); intro w14 hw; have hg : wr.grownBy w14 (some go12) := (by rw [hw]; exact HP13.2); have hp_ : Kd.R (Kd.int .u64) 27 w14 w.heap.size (fun _ => True) (.slice (some ⟨go12, 0, none⟩) x6_1.length K0) y636 := (by rw [hw, Ny636.out]; exact HP13.1); clear HP13; replace HO_6 := m0 (hp_); replace HB := m0 ((by rw [hw]; exact below_set (HB.1) GB12.out : Below w.heap.size w w14)); clear hg hw hp_))
    go_roundg k1
    case measure => have := HK1.out; omega
    case rel => exact ⟨(y636), (t635), (wrap64 (x8_1 - 1)), (by first | rfl | (simp; done) | (simp [*]; done)), (by first | rfl | (simp; done) | (simp [*]; done)), H', ⟨by have := HK1.out; omega⟩, ⟨by (with_reducible repeat (first | apply Kd.R_alloc | apply Kd.R_drewN | apply Kd.R_drew)); exact HO_6.out⟩, ⟨by repeat (first | (with_reducible first | exact HB.1 | apply below_alloc | apply pw_below_drewN | apply below_drew1) | exact HB.1)⟩⟩
   ·rw [if_neg c7] at H; have c7b0 : decide (0 ≤ x8_1) = false := decide_eq_false c7; clear c7; simp only [Option.some.injEq, Prod.mk.injEq] at H; obtain ⟨rfl, rfl⟩ := H
    go_wp2
    go_ret2
    exact ⟨_, by first | rfl | (simp [errW_none, errW_some] <;> rfl) | (simp [*, errW_none, errW_some] <;> rfl), by (with_reducible repeat (first | apply Kd.R_alloc | apply Kd.R_drewN | apply Kd.R_drew)); exact HO_6.out, by repeat (first | (with_reducible first | exact HB.1 | apply below_alloc | apply pw_below_drewN | apply below_drew1) | exact HB.1)⟩
def quot_wrong.f (a0 : Int) : Option (Bool) := if a0 < 0 then (some true) else (some (decide (a0 > 262144)))
set_option maxHeartbeats 8000000 in
set_option maxRecDepth 100000 in
theorem quot_wrong.calls (a0 : Int) (r : Bool) (w : World) (h : quot_wrong.f a0 = some r) :
    Calls Try.prog 57 #[.int .i64 a0] w fun e w' => e = .returned (.bool r) ∧ Drawn0 w w' := by
  have H : (if a0 < 0 then (some true) else (some (decide (a0 > 262144)))) = some r := h; clear h
  by_cases c2 : a0 < 0
  · rw [if_pos c2] at H; have c2b0 : decide (a0 < 0) = true := decide_eq_true c2; clear c2; obtain rfl := Option.some.inj H
    go_enter Try.func57, Try.ntmps57
    go_wp2
    go_ret
    exact ⟨by first | rfl | (simp; done) | (simp [*]; done), by repeat (first | exact Drawn0.refl _ | apply Drawn0.step)⟩
  · rw [if_neg c2] at H; have c2b0 : decide (a0 < 0) = false := decide_eq_false c2; clear c2; obtain rfl := Option.some.inj H
    go_enter Try.func57, Try.ntmps57
    go_wp2
    go_ret
    exact ⟨by first | rfl | (simp; done) | (simp [*]; done), by repeat (first | exact Drawn0.refl _ | apply Drawn0.step)⟩
def quot_Shr.l0 : Nat → List Int → Int → Int → Int → Option (List Int × Int)
 | 0, _, _, _, _ => none
 | k + 1, x6, x7, x25, x26 => if x26 < x25 then (if 0 ≤ x26 then (if x26 < (x6.length : Int) then (if 0 ≤ x7 then ((some (x6.set (x26 : Int).toNat (shr .u64 (rd x6 x26) x7) : List Int)).bind fun y647 => (if (wrap64 (x26 + 1)) < (x6.length : Int) then (if 0 ≤ (wrap64 (x26 + 1)) then (if 0 ≤ (IntKind.u64.wrap (64 - x7)) then (quot_Shr.l0 k (y647.set (x26 : Int).toNat (Go.bits .or .u64 (rd y647 x26) (shl .u64 (rd y647 (wrap64 (x26 + 1))) (IntKind.u64.wrap (64 - x7))))) x7 x25 (wrap64 (x26 + 1))) else (none)) else (none)) else (quot_Shr.l0 k y647 x7 x25 (wrap64 (x26 + 1))))) else (none)) else (none)) else (none)) else ((nat_Of.f k x6).bind fun t651 => (some (t651, 0)))
def quot_Shr.f (k : Nat) (l0_0 : List Int) (a1 : Int) : Option (List Int × Int) := (quot_wrong.f a1).bind fun t639 => (if t639 = true then (some (([] : List Int), 2)) else ((nat_Nat_Limbs.f l0_0).bind fun t640 => (if 0 ≤ (mn (wrap64 (Int.tdiv a1 64)) (t640.length : Int)) then (if (mn (wrap64 (Int.tdiv a1 64)) (t640.length : Int)) ≤ (t640.length : Int) then ((some (t640.drop ((mn (wrap64 (Int.tdiv a1 64)) (t640.length : Int)) : Int).toNat : List Int)).bind fun y643 => (quot_Shr.l0 k y643 (IntKind.u64.wrap (Int.tmod a1 64)) (y643.length : Int) 0)) else (none)) else (none))))
theorem quot_Shr.mono_l : ∀ k, (∀ y0 y1 y2 y3, LeO (quot_Shr.l0 k y0 y1 y2 y3) (quot_Shr.l0 (k + 1) y0 y1 y2 y3))
 | 0 => fun _ _ _ _ r h => by simp [quot_Shr.l0] at h
 | k + 1 => by
  have ih0 := quot_Shr.mono_l k
  ·intro y0 y1 y2 y3; unfold quot_Shr.l0
   repeat' first
   | (with_reducible exact ih0 _ _ _ _)
   | (with_reducible exact nat_Of.mono _ _)
   | (with_reducible exact LeO.refl _)
   | (with_reducible exact LeO.none _)
   | (with_reducible refine LeO.ite ?_ ?_)
   | (with_reducible refine LeO.bind ?_ (fun _ => ?_))
   | exact ih0 _ _ _ _
   | exact nat_Of.mono _ _
   | exact LeO.none _
   | refine LeO.ite ?_ ?_
   | refine LeO.bind ?_ (fun _ => ?_)
theorem quot_Shr.mono : ∀ a0 a1 k, LeO (quot_Shr.f k a0 a1) (quot_Shr.f (k + 1) a0 a1) := by
 intro a0 a1 k; have ih0 := quot_Shr.mono_l k; unfold quot_Shr.f
 repeat' first
   | (with_reducible exact ih0 _ _ _ _)
   | (with_reducible exact nat_Of.mono _ _)
   | (with_reducible exact LeO.refl _)
   | (with_reducible exact LeO.none _)
   | (with_reducible refine LeO.ite ?_ ?_)
   | (with_reducible refine LeO.bind ?_ (fun _ => ?_))
   | exact ih0 _ _ _ _
   | exact nat_Of.mono _ _
   | exact LeO.none _
   | refine LeO.ite ?_ ?_
   | refine LeO.bind ?_ (fun _ => ?_)
def quot_Shr.T11 : Bool × List (List Nat × List Nat) := (true, [([], []), ([], []), ([0, 1], [0, 1]), ([2], [2]), ([], []), ([], []), ([5], [5]), ([4, 6], [4, 6]), ([7], [7]), ([], []), ([9], [9]), ([8, 10], [8, 10]), ([3, 11], [3, 11]), ([0, 1, 0, 1, 2, 3, 4, 5, 6, 7, 8, 9, 10, 11, 12], [0, 1]), ([13, 12, 0, 1, 2, 3, 4, 5, 6, 7, 8, 9, 10, 11, 12], [12, 13])])
def quot_Shr.B11 : List Nat := [0, 0, 3, 7, 0, 0, 32, 112, 240, 0, 512, 2032, 4095, 8191, 16383]
theorem quot_Shr.tab11 : rtab .any (opsOf Try.f38 11) = quot_Shr.T11 := by kernel_rfl
theorem quot_Shr.bits11 : waitsOk quot_Shr.T11.2 quot_Shr.B11 = true := by kernel_rfl
set_option maxHeartbeats 8000000 in
set_option maxRecDepth 100000 in
theorem quot_Shr.calls (k : Nat) (A0_0 : Option Addr) (c0_0 : Nat) (l0_0 : List Int) (a1 : Int) (r1 : List Int) (r2 : Int) (w : World) (hr0_0 : Kd.C (Kd.int .u64) w A0_0 l0_0.length l0_0) (hc0_0 : l0_0.length ≤ c0_0) (h : quot_Shr.f k l0_0 a1 = some (r1, r2)) :
  Calls Try.prog 38 #[.agg #[.slice A0_0 l0_0.length c0_0], .int .i64 a1] w fun e w' => ∃ v0_ : Value, e = .returned (.tuple #[.agg #[v0_], .int .i64 r2]) ∧ Kd.V (Kd.int .u64) 27 w' w.heap.size (fun k_ => (w.heap.size ≤ k_)) v0_ r1 ∧ Below w.heap.size w w' := by
 have hu25 := Try.underlying25; have HR0_0 := m0 hr0_0; have HC0_0 := m0 hc0_0; clear hr0_0 hc0_0; have HB := m0 (Below.refl w.heap.size w); have H : ((quot_wrong.f a1).bind fun t639 => (if t639 = true then (some (([] : List Int), 2)) else ((nat_Nat_Limbs.f l0_0).bind fun t640 => (if 0 ≤ (mn (wrap64 (Int.tdiv a1 64)) (t640.length : Int)) then (if (mn (wrap64 (Int.tdiv a1 64)) (t640.length : Int)) ≤ (t640.length : Int) then ((some (t640.drop ((mn (wrap64 (Int.tdiv a1 64)) (t640.length : Int)) : Int).toNat : List Int)).bind fun y643 => (quot_Shr.l0 k y643 (IntKind.u64.wrap (Int.tmod a1 64)) (y643.length : Int) 0)) else (none)) else (none))))) = some (r1, r2) := h; clear h; replace H := Option.bind_eq_some_iff.mp H; obtain ⟨t639, A30, H⟩ := H; (try dsimp only at H); have A3 := m0 A30; clear A30
 by_cases c4 : t639 = true
 ·subst c4; (have H1 : (some (([] : List Int), 2)) = some (r1, r2) := by rw [if_pos rfl] at H; exact H); clear H; have H := H1; clear H1; simp only [Option.some.injEq, Prod.mk.injEq] at H; obtain ⟨rfl, rfl⟩ := H
  go_enter Try.func38, Try.ntmps38
  go_wp2_with (first | ((with_reducible refine gate_dst (N := 2) rfl ?_); refine box_event rz (N := 2) rz (cs := #[.slice A0_0 l0_0.length c0_0]) (t := 25) gs_ ?_; intro g0 hg w5 hbox hb; have b0 := m0 hbox; have G0 := gz_ HB hg; have e0 := gz_ HB hg; replace HB := sa HB hb; clear hb hbox hg) | ((with_reducible refine gate_dst (N := 4) rfl ?_); refine box_event rz (N := 4) rz (cs := #[.slice none 0 0]) (t := 25) gs_ ?_; intro g1 hg w6 hbox hb; have b1 := m0 hbox; have G1 := gz_ HB hg; have e1 := gz_ HB hg; replace HB := sa HB hb; have z0 := n1 b0 hg; have z1 := n2 b0 hg; replace b0 := ba b0 hb; clear hb hbox hg) | ((with_reducible refine gate_callee (f := 57) rfl ?_); refine goesL_ (some 10) rfl rfl Try.func57 kr rfl #[.int .i64 a1] rfl gm ?_; (with_reducible refine (quot_wrong.calls a1 true _ A3.1).mono ?_); rintro e w' ⟨rfl, ⟨nd, rfl⟩⟩; refine ⟨_, rfl, ?_⟩; (try (rw [drewN_self w6]; generalize hq_ : World.drewN w6 _ = w6; have n0_ : Aside0 (w6.heap[g0]? = some (.cells #[.slice A0_0 l0_0.length c0_0] 25 (0, 0))) := ⟨by rw [← hq_]; exact b0.1⟩; have n1_ : Aside0 (w6.heap[g1]? = some (.cells #[.slice none 0 0] 25 (0, 0))) := ⟨by rw [← hq_]; exact b1.1⟩; have n2_ : Aside0 (Below w.heap.size w w6) := ⟨by rw [← hq_]; exact bq⟩; clear b0 b1 HB hq_; have b0 := n0_; have b1 := n1_; have HB := n2_; clear n0_ n1_ n2_; have hygb637_0 : w6.cell? ⟨g0, 0, none⟩ = some (.slice A0_0 l0_0.length c0_0) := bc b0; have hwgb637_0 := blk_frozen b0.1 0; have hygb638_0 : w6.cell? ⟨g1, 0, none⟩ = some (.slice none 0 0) := bc b1; have hwgb638_0 := blk_frozen b1.1 0)); have hnb7 := z1.1; have hnc7 := z0.1; have hcz8_0 : w6.cell? ⟨g1, 0, none⟩ = some (.slice none 0 0) := bc b1; have hfz8_0 := blk_frozen b1.1 0))
  refine bodyPost_ret (results_ct rfl _ _ g1 25 #[.slice none 0 0] (0, 0) _ rfl (by (with_reducible repeat (first | refine blk_drewN ?_ _ | refine blk_drew ?_ | refine blk_alloc ?_ _)); refine blk_put (cs := #[.slice none 0 0]) ?_ 0 _ rfl; (with_reducible repeat (first | refine blk_drewN ?_ _ | refine blk_drew ?_ | refine blk_alloc ?_ _)); exact b1.1) Try.underlying25 rfl kr) rfl ?_; exact ⟨_, by first | rfl | (simp [errW_none, errW_some] <;> rfl) | (simp [*, errW_none, errW_some] <;> rfl), Kd.V_nil _ _ _ _ _, by repeat (first | (with_reducible first | exact HB.1 | apply below_alloc | apply pw_below_drewN | apply below_drew1 | refine below_set ?_ e0.1 | refine below_set ?_ e1.1) | exact HB.1)⟩
 ·replace c4 := Bool.eq_false_iff.mpr c4; subst c4; (have H1 : ((nat_Nat_Limbs.f l0_0).bind fun t640 => (if 0 ≤ (mn (wrap64 (Int.tdiv a1 64)) (t640.length : Int)) then (if (mn (wrap64 (Int.tdiv a1 64)) (t640.length : Int)) ≤ (t640.length : Int) then ((some (t640.drop ((mn (wrap64 (Int.tdiv a1 64)) (t640.length : Int)) : Int).toNat : List Int)).bind fun y643 => (quot_Shr.l0 k y643 (IntKind.u64.wrap (Int.tmod a1 64)) (y643.length : Int) 0)) else (none)) else (none))) = some (r1, r2) := by rw [if_neg (show ¬ (false = true) by decide)] at H; exact H); clear H; have H := H1; clear H1; replace H := Option.bind_eq_some_iff.mp H; obtain ⟨t640, A90, H⟩ := H; (try dsimp only at H); have A9 := m0 A90; clear A90; obtain ⟨ji10, hji10⟩ : ∃ j_ : Int, (mn (wrap64 (Int.tdiv a1 64)) (t640.length : Int)) = j_ := ⟨_, rfl⟩; (replace H : (if 0 ≤ (ji10) then (if (ji10) ≤ (t640.length : Int) then ((some (t640.drop ((ji10) : Int).toNat : List Int)).bind fun y643 => (quot_Shr.l0 k y643 (IntKind.u64.wrap (Int.tmod a1 64)) (y643.length : Int) 0)) else (none)) else (none)) = some (r1, r2) := by first | (rw [hji10] at H; exact H) | (simp only [hji10] at H ⊢; exact H)); (try rw [hji10] at A3); (try rw [hji10] at A9); have hji10_ : (if (t640.length : Int) < (wrap64 (Int.tdiv a1 64)) then (t640.length : Int) else (wrap64 (Int.tdiv a1 64))) = ji10 := hji10
  by_cases c11 : 0 ≤ (ji10)
  rotate_left
  ·rw [if_neg c11] at H; exact absurd H (by simp)
  rw [if_pos c11] at H; have c11b0 := eq_true c11; have c11b1 : decide (0 ≤ (ji10)) = true := decide_eq_true c11; clear c11
  by_cases c12 : (ji10) ≤ (t640.length : Int)
  rotate_left
  ·rw [if_neg c12] at H; exact absurd H (by simp)
  rw [if_pos c12] at H; have c12b0 := eq_true c12; have c12b1 : decide ((ji10) ≤ (t640.length : Int)) = true := decide_eq_true c12; clear c12; obtain ⟨y643, hy643⟩ : ∃ y_ : List Int, y_ = (t640.drop ((ji10) : Int).toNat) := ⟨_, rfl⟩; (replace H : (quot_Shr.l0 k y643 (IntKind.u64.wrap (Int.tmod a1 64)) (y643.length : Int) 0) = some (r1, r2) := by first | (rw [hy643]; with_reducible exact H) | (have H2_ := (Option.bind_some _ _).symm.trans H; rw [hy643]; with_reducible exact H2_) | (have H2_ := (Option.bind_some _ _).symm.trans H; with_reducible exact H2_) | with_reducible exact H | (rw [hy643]; exact H) | exact H); have Ny643 := m0 hy643; clear hy643; have H' := m0 H; clear H
  go_enter Try.func38, Try.ntmps38
  go_wp2_with (first | ((with_reducible refine gate_dst (N := 2) rfl ?_); refine box_event rz (N := 2) rz (cs := #[.slice A0_0 l0_0.length c0_0]) (t := 25) gs_ ?_; intro g0 hg w13 hbox hb; have b0 := m0 hbox; have G0 := gz_ HB hg; have e0 := gz_ HB hg; replace HB := sa HB hb; clear hb hbox hg) | ((with_reducible refine gate_dst (N := 4) rfl ?_); refine box_event rz (N := 4) rz (cs := #[.slice none 0 0]) (t := 25) gs_ ?_; intro g1 hg w14 hbox hb; have b1 := m0 hbox; have G1 := gz_ HB hg; have e1 := gz_ HB hg; replace HB := sa HB hb; have z0 := n1 b0 hg; have z1 := n2 b0 hg; replace b0 := ba b0 hb; clear hb hbox hg) | ((with_reducible refine gate_callee (f := 57) rfl ?_); refine goesL_ (some 10) rfl rfl Try.func57 kr rfl #[.int .i64 a1] rfl gm ?_; (with_reducible refine (quot_wrong.calls a1 false _ A3.1).mono ?_); rintro e w' ⟨rfl, ⟨nd, rfl⟩⟩; refine ⟨_, rfl, ?_⟩; have hnb15 := z0.1; have hnc15 := z1.1; have hcz16_0 : w14.cell? ⟨g0, 0, none⟩ = some (.slice A0_0 l0_0.length c0_0) := bc b0; have hfz16_0 := blk_frozen b0.1 0) | ((with_reducible refine gate_callee (f := 16) rfl ?_); refine goesL_ (some 13) rfl rfl Try.func16 kr rfl #[.agg #[.slice A0_0 l0_0.length c0_0]] rfl gm ?_; (with_reducible refine (nat_Nat_Limbs.calls _ _ l0_0 t640 _ ?side1 ?side2 A9.1).mono ?_); (case side1 => repeat (first | exact (Kd.C_below HR0_0.out bq) | (with_reducible refine Kd.C_alloc ?_ _) | (with_reducible refine Kd.C_drewN ?_ _) | (with_reducible refine Kd.C_drew ?_))); (case side2 => exact HC0_0.out); rintro e w17 ⟨v641, rfl, ho0, hb⟩; refine ⟨_, rfl, ?_⟩; have a2 := m0 (Kd.R_lower (Kd.R_newM (M := fun k_ => (w.heap.size ≤ k_)) ho0 (bz HB.1) (fun k_ h_ => h_)) (bz HB.1)); replace b0 := ba b0 hb; replace b1 := ba b1 hb; replace HB := sa HB hb; clear hb ho0; obtain ⟨D0, K0, j0⟩ := Kd.R_slice a2.1; subst j0; have n_ := m0 (Kd.R_mono (ok' := (fun k_ => (w.heap.size ≤ k_))) a2.1 (fun k_ hk => hk.1)); clear a2; have a2 := n_; clear n_; have q19 : ((ji10) : Int) ≤ ((t640.length : Int) : Int) := of_decide_eq_true (by first | (with_reducible assumption) | assumption); obtain ⟨i019, hi019, _, hsz19, _⟩ := info_parts info27; have hcut19 := cut_from (P := Try.prog) 22 27 .i64 Try.underlying22 hi019 1 hsz19 D0 t640.length K0 (ji10) (of_decide_eq_true (by first | (with_reducible assumption) | assumption)) q19; have hr19 := Kd.Q_drop (k := ((ji10) : Int).toNat) (Kd.Q_of_R a2.1) (by omega); obtain ⟨A19, hA19⟩ : ∃ A1, A1 = (if K0 = ((ji10) : Int).toNat then D0 else (D0 : Option Addr).map (·.add (((ji10) : Int).toNat * 1))) := ⟨_, rfl⟩; obtain ⟨c19, hc19⟩ : ∃ c1, c1 = K0 - ((ji10) : Int).toNat := ⟨_, rfl⟩; have hy19 : y643.length = t640.length - ((ji10) : Int).toNat := (by rw [Ny643.out, List.length_drop]); rw [← Ny643.out] at hr19; rw [← hy19, ← hA19, ← hc19] at hcut19; replace hr19 : Kd.Q (Kd.int .u64) 27 w17 w.heap.size (fun k_ => (w.heap.size ≤ k_)) (.slice A19 y643.length c19) y643 := (by rw [hA19, hc19, hy19]; exact hr19); have HE19 : Aside0 ((Value.slice A19 y643.length c19).ownBlock = (.slice D0 t640.length K0 : Value).ownBlock) := ⟨by rw [hA19]; split <;> (cases (D0 : Option Addr) <;> first | rfl | simp [Value.ownBlock, add_block])⟩; clear hy19 hi019 hsz19 a2 hA19 hc19; have a3 := m0 hr19; clear hr19; replace q19 := eq_true q19))
  go_loopg [26] k (fun kq v26 w' => ∃ (x6_1 : List Int) (x26_1 : Int), v26 = .int .i64 x26_1 ∧ Aside0 (quot_Shr.l0 kq x6_1 (IntKind.u64.wrap (Int.tmod a1 64)) (y643.length : Int) x26_1 = some (r1, r2)) ∧ Aside0 (kq ≤ k) ∧ Aside0 (Kd.Q (Kd.int .u64) 27 w' w.heap.size (fun k_ => (w.heap.size ≤ k_)) (.slice A19 y643.length c19) x6_1) ∧ Aside0 (w'.heap[g0]? = some (.cells #[(.slice A0_0 l0_0.length c0_0)] 25 (0, 0))) ∧ Aside0 (w'.heap[g1]? = some (.cells #[(.slice none 0 0)] 25 (0, 0))) ∧ Aside0 (Below w.heap.size w w'))
  case atStart => exact ⟨(y643), (0), (by first | rfl | (simp; done) | (simp [*]; done)), H', ⟨Nat.le_refl _⟩, ⟨by (with_reducible repeat (first | apply Kd.Q_alloc | apply Kd.Q_drewN | apply Kd.Q_drew)); exact a3.1⟩, ⟨by (with_reducible repeat (first | refine blk_drewN ?_ _ | refine blk_drew ?_ | refine blk_alloc ?_ _)); exact b0.1⟩, ⟨by (with_reducible repeat (first | refine blk_drewN ?_ _ | refine blk_drew ?_ | refine blk_alloc ?_ _)); exact b1.1⟩, ⟨by repeat (first | (with_reducible first | exact HB.1 | apply below_alloc | apply pw_below_drewN | apply below_drew1 | refine below_set ?_ e0.1 | refine below_set ?_ e1.1) | exact HB.1)⟩⟩
  case round =>
   clear H'; (try clear c1); (try clear q1); (try clear p2); (try clear c3); (try clear c4); (try clear c5); (try clear p6); (try clear c7); (try clear c11); (try clear c11b0); (try clear c11b1); (try clear c12); (try clear c12b0); (try clear c12b1); (try clear c15); (try clear c16); (try clear c19); (try clear q19); (try clear hcz16_0); (try clear hcz8_0); (try clear hfz16_0); (try clear hfz8_0); (try clear q19); obtain ⟨x6_1, x26_1, rfl, HA, HK1, HO_6, b0, b1, HB⟩ := hrel; have hl6_1 := (Kd.Q_reads' HO_6.out).1; rw [hl6_1] at HO_6; (try simp only [hl6_1]); (try simp only [hl6_1] at b0); (try simp only [hl6_1] at b1); cases gk with
   | zero => exact absurd HA.out (by simp [quot_Shr.l0])
   | succ k1 =>
    have H := HA.out; clear HA; simp only [quot_Shr.l0] at H
    by_cases c20 : x26_1 < (y643.length : Int)
    ·rw [if_pos c20] at H; have c20b0 : decide (x26_1 < (y643.length : Int)) = true := decide_eq_true c20; have c20b0x := c20b0; (try simp only [hl6_1] at c20b0x); clear c20
     by_cases c21 : 0 ≤ x26_1
     rotate_left
     ·rw [if_neg c21] at H; exact absurd H (by simp)
     rw [if_pos c21] at H; have c21b0 : decide (0 ≤ x26_1) = true := decide_eq_true c21; clear c21
     by_cases c22 : x26_1 < (x6_1.length : Int)
     rotate_left
     ·rw [if_neg c22] at H; exact absurd H (by simp)
     rw [if_pos c22] at H; have c22b0 : decide (x26_1 < (x6_1.length : Int)) = true := decide_eq_true c22; have c22b0x := c22b0; (try simp only [hl6_1] at c22b0x); clear c22; obtain ⟨ji23, hji23⟩ : ∃ j_ : Int, (IntKind.u64.wrap (Int.tmod a1 64)) = j_ := ⟨_, rfl⟩; replace H : (if 0 ≤ (ji23) then ((some (x6_1.set (x26_1 : Int).toNat (shr .u64 (rd x6_1 x26_1) (ji23)) : List Int)).bind fun y647 => (if (wrap64 (x26_1 + 1)) < (x6_1.length : Int) then (if 0 ≤ (wrap64 (x26_1 + 1)) then (if 0 ≤ (IntKind.u64.wrap (64 - (ji23))) then (quot_Shr.l0 k1 (y647.set (x26_1 : Int).toNat (Go.bits .or .u64 (rd y647 x26_1) (shl .u64 (rd y647 (wrap64 (x26_1 + 1))) (IntKind.u64.wrap (64 - (ji23)))))) (ji23) (y643.length : Int) (wrap64 (x26_1 + 1))) else (none)) else (none)) else (quot_Shr.l0 k1 y647 (ji23) (y643.length : Int) (wrap64 (x26_1 + 1))))) else (none)) = some (r1, r2) := by first | (rw [hji23] at H; exact H) | (simp only [hji23] at H ⊢; exact H)
     by_cases c24 : 0 ≤ (ji23)
     rotate_left
     ·rw [if_neg c24] at H; exact absurd H (by simp)
     rw [if_pos c24] at H; have c24b0 := eq_true c24; have c24b1 : decide (0 ≤ (ji23)) = true := decide_eq_true c24; clear c24; obtain ⟨ji25, hji25⟩ : ∃ j_ : Int, (shr .u64 (rd x6_1 x26_1) (ji23)) = j_ := ⟨_, rfl⟩; (replace H : ((some (x6_1.set (x26_1 : Int).toNat (ji25) : List Int)).bind fun y647 => (if (wrap64 (x26_1 + 1)) < (x6_1.length : Int) then (if 0 ≤ (wrap64 (x26_1 + 1)) then (if 0 ≤ (IntKind.u64.wrap (64 - (ji23))) then (quot_Shr.l0 k1 (y647.set (x26_1 : Int).toNat (Go.bits .or .u64 (rd y647 x26_1) (shl .u64 (rd y647 (wrap64 (x26_1 + 1))) (IntKind.u64.wrap (64 - (ji23)))))) (ji23) (y643.length : Int) (wrap64 (x26_1 + 1))) else (none)) else (none)) else (quot_Shr.l0 k1 y647 (ji23) (y643.length : Int) (wrap64 (x26_1 + 1))))) = some (r1, r2) := by first | (rw [hji25] at H; exact H) | (simp only [hji25] at H ⊢; exact H)); have hji25_ : ((rd x6_1 x26_1) / 2 ^ min (ji23).toNat 64) = ji25 := hji25; have hji25z : (ji23) ≤ 64 → ((rd x6_1 x26_1) / 2 ^ (ji23).toNat) = ji25 := shr_small hji25; obtain ⟨y647, hy647⟩ : ∃ y_ : List Int, y_ = (x6_1.set (x26_1 : Int).toNat (ji25)) := ⟨_, rfl⟩; (replace H : (if (wrap64 (x26_1 + 1)) < (x6_1.length : Int) then (if 0 ≤ (wrap64 (x26_1 + 1)) then (if 0 ≤ (IntKind.u64.wrap (64 - (ji23))) then (quot_Shr.l0 k1 (y647.set (x26_1 : Int).toNat (Go.bits .or .u64 (rd y647 x26_1) (shl .u64 (rd y647 (wrap64 (x26_1 + 1))) (IntKind.u64.wrap (64 - (ji23)))))) (ji23) (y643.length : Int) (wrap64 (x26_1 + 1))) else (none)) else (none)) else (quot_Shr.l0 k1 y647 (ji23) (y643.length : Int) (wrap64 (x26_1 + 1)))) = some (r1, r2) := by first | (rw [hy647]; with_reducible exact H) | (have H2_ := (Option.bind_some _ _).symm.trans H; rw [hy647]; with_reducible exact H2_) | (have H2_ := (Option.bind_some _ _).symm.trans H; with_reducible exact H2_) | with_reducible exact H | (rw [hy647]; exact H) | exact H); have Ny647 := m0 hy647; clear hy647
     by_cases c27 : (wrap64 (x26_1 + 1)) < (x6_1.length : Int)
     ·rw [if_pos c27] at H; have c27b0 : decide ((wrap64 (x26_1 + 1)) < (x6_1.length : Int)) = true := decide_eq_true c27; have c27b0x := c27b0; (try simp only [hl6_1] at c27b0x); clear c27; obtain ⟨ji28, hji28⟩ : ∃ j_ : Int, (wrap64 (x26_1 + 1)) = j_ := ⟨_, rfl⟩; (replace H : (if 0 ≤ (ji28) then (if 0 ≤ (IntKind.u64.wrap (64 - (ji23))) then (quot_Shr.l0 k1 (y647.set (x26_1 : Int).toNat (Go.bits .or .u64 (rd y647 x26_1) (shl .u64 (rd y647 (ji28)) (IntKind.u64.wrap (64 - (ji23)))))) (ji23) (y643.length : Int) ji28) else (none)) else (none)) = some (r1, r2) := by first | (rw [hji28] at H; exact H) | (simp only [hji28] at H ⊢; exact H)); (try rw [hji28] at c27b0); have hji28w : (IntKind.i64.wrap (x26_1 + 1)) = ji28 := (i64_w _).trans hji28
      by_cases c29 : 0 ≤ (ji28)
      rotate_left
      ·rw [if_neg c29] at H; exact absurd H (by simp)
      rw [if_pos c29] at H; have c29b0 : decide (0 ≤ (ji28)) = true := decide_eq_true c29; clear c29; obtain ⟨ji30, hji30⟩ : ∃ j_ : Int, (IntKind.u64.wrap (64 - (ji23))) = j_ := ⟨_, rfl⟩; replace H : (if 0 ≤ (ji30) then (quot_Shr.l0 k1 (y647.set (x26_1 : Int).toNat (Go.bits .or .u64 (rd y647 x26_1) (shl .u64 (rd y647 (ji28)) (ji30)))) (ji23) (y643.length : Int) ji28) else (none)) = some (r1, r2) := by first | (rw [hji30] at H; exact H) | (simp only [hji30] at H ⊢; exact H)
      by_cases c31 : 0 ≤ (ji30)
      rotate_left
      ·rw [if_neg c31] at H; exact absurd H (by simp)
      rw [if_pos c31] at H; have c31b0 := eq_true c31; have c31b1 : decide (0 ≤ (ji30)) = true := decide_eq_true c31; clear c31; obtain ⟨ji32, hji32⟩ : ∃ j_ : Int, (shl .u64 (rd y647 (ji28)) (ji30)) = j_ := ⟨_, rfl⟩; (replace H : (quot_Shr.l0 k1 (y647.set (x26_1 : Int).toNat (Go.bits .or .u64 (rd y647 x26_1) (ji32))) (ji23) (y643.length : Int) ji28) = some (r1, r2) := by first | (rw [hji32] at H; exact H) | (simp only [hji32] at H ⊢; exact H)); have hji32_ : (IntKind.u64.wrap ((rd y647 (ji28)) * 2 ^ min (ji30).toNat 64)) = ji32 := hji32; have hji32z : (ji30) ≤ 64 → (IntKind.u64.wrap ((rd y647 (ji28)) * 2 ^ (ji30).toNat)) = ji32 := shl_small hji32; obtain ⟨y650, hy650⟩ : ∃ y_ : List Int, y_ = (y647.set (x26_1 : Int).toNat (Go.bits .or .u64 (rd y647 x26_1) (ji32))) := ⟨_, rfl⟩; (replace H : (quot_Shr.l0 k1 y650 (ji23) (y643.length : Int) ji28) = some (r1, r2) := by first | (rw [hy650]; with_reducible exact H) | (have H2_ := (Option.bind_some _ _).symm.trans H; rw [hy650]; with_reducible exact H2_) | (have H2_ := (Option.bind_some _ _).symm.trans H; with_reducible exact H2_) | with_reducible exact H | (rw [hy650]; exact H) | exact H); have Ny650 := m0 hy650; clear hy650; have H' := m0 H; clear H; have p646 : 0 ≤ (x26_1 : Int) := of_decide_eq_true (by first | (with_reducible assumption) | assumption); have q646 : x26_1 < (x6_1.length : Int) := of_decide_eq_true (by first | (with_reducible assumption) | assumption); obtain ⟨ad646, e646, hx646_0⟩ := Kd.at_int (Kd.Q_reads' HO_6.out).2.2 x26_1 p646 q646; cases e646; replace p646 := eq_true p646; replace q646 := eq_true q646; have p26 : 0 ≤ (x26_1 : Int) := of_decide_eq_true (by first | (with_reducible assumption) | assumption); have q26 : (x26_1 : Int) < ((x6_1.length : Int) : Int) := of_decide_eq_true (by first | (with_reducible assumption) | assumption); obtain ⟨go26, oo26, K1, j1, g2, gl26, cl26, HG26⟩ := Kd.Q_form HO_6.out (by omega); (first | cases j1 | (injection j1 with ea_ en_ ec_; (first | subst ea_ | (injection ea_ with ea_; subst ea_)); subst ec_; clear en_)); have GB26 := m0 g2; have GG26 := m0 HG26; clear g2 gl26 HG26; (first | simp only [add_at] at hx646_0 | skip); obtain ⟨hx26_0, hf26_0⟩ := Kd.Q_cell 0 HO_6.out (x26_1 : Int) p26 q26; replace p26 := eq_true p26; replace q26 := eq_true q26; have HP34 := Kd.Q_putg HO_6.out (x26_1 : Int) (of_decide_eq_true (by first | (with_reducible assumption) | assumption)) (by have h_ : (x26_1 : Int) < ((x6_1.length : Int) : Int) := of_decide_eq_true (by first | (with_reducible assumption) | assumption); first | exact h_ | (have e_ := (Kd.Q_reads' HO_6.out).1; omega) | simpa using h_) ji25
      try go_wp2_with (first | ((with_reducible refine gate_store (t := 27) (p := 35) rfl ?_); refine store_event (t := 27) (p := 35) (v := ?vo_w35) (w1 := (wr.setCell ⟨go26, oo26 + (x26_1 : Int).toNat, none⟩ (.int .u64 ji25))) ?hg ?ho ?hn ?hr ?_; (case ho => rfl); (case hg => rfl); (case hn => rfl); (case hr => first | (go_simp; done) | (go_simp; rfl)); intro w35 hw; have hg : wr.grownBy w35 (some go26) := (by rw [hw]; exact HP34.2); have hp_ : Kd.Q (Kd.int .u64) 27 w35 w.heap.size (fun k_ => (w.heap.size ≤ k_)) (.slice (some ⟨go26, oo26, none⟩) x6_1.length c19) y647 := (by rw [hw, Ny647.out]; exact HP34.1); clear HP34; replace b0 := m0 (blk_grown (g := g0) (o := .cells #[.slice A0_0 l0_0.length c0_0] 25 (0, 0)) b0.1 hg (Kd.Q_ne HO_6.out b0.1 (by decide))); replace b1 := m0 (blk_grown (g := g1) (o := .cells #[.slice none 0 0] 25 (0, 0)) b1.1 hg (Kd.Q_ne HO_6.out b1.1 (by decide))); replace HO_6 := m0 (hp_); replace HB := m0 ((by rw [hw]; exact below_set (HB.1) GB26.out : Below w.heap.size w w35)); clear hg hw hp_))
      replace HO_6 := m0 (Kd.Q_drew HO_6.out); replace b0 := bd b0; replace b1 := bd b1; replace HB := sd HB; have p648 : 0 ≤ (x26_1 : Int) := of_decide_eq_true (by first | (with_reducible assumption) | assumption); have q648 : x26_1 < (y647.length : Int) := (by have h_ : (x26_1 : Int) < ((x6_1.length : Int) : Int) := of_decide_eq_true (by first | (with_reducible assumption) | assumption); first | (have e_ := (Kd.Q_reads' HO_6.out).1; omega) | simpa only [Ny647.out, List.length_set] using h_); have ql648 : ((x26_1 : Int) < ((x6_1.length : Int) : Int)) = True := eq_true (of_decide_eq_true (by first | (with_reducible assumption) | assumption)); obtain ⟨ad648, e648, hx648_0⟩ := Kd.at_int (Kd.Q_reads' HO_6.out).2.2 x26_1 p648 q648; obtain rfl : (⟨go26, oo26, none⟩ : Addr) = ad648 := (by injection e648); (first | simp only [add_plain] at hx648_0 | simp only [add_at] at hx648_0 | simp only [Addr.add, Nat.zero_add] at hx648_0 | skip); replace p648 := eq_true p648; replace q648 := eq_true q648; have p649 : 0 ≤ ((ji28) : Int) := of_decide_eq_true (by first | (with_reducible assumption) | assumption); have q649 : (ji28) < (y647.length : Int) := (by have h_ : ((ji28) : Int) < ((x6_1.length : Int) : Int) := of_decide_eq_true (by first | (with_reducible assumption) | assumption); first | (have e_ := (Kd.Q_reads' HO_6.out).1; omega) | simpa only [Ny647.out, List.length_set] using h_); have ql649 : (((ji28) : Int) < ((x6_1.length : Int) : Int)) = True := eq_true (of_decide_eq_true (by first | (with_reducible assumption) | assumption)); obtain ⟨ad649, e649, hx649_0⟩ := Kd.at_int (Kd.Q_reads' HO_6.out).2.2 (ji28) p649 q649; obtain rfl : (⟨go26, oo26, none⟩ : Addr) = ad649 := (by injection e649); (first | simp only [add_plain] at hx649_0 | simp only [add_at] at hx649_0 | simp only [Addr.add, Nat.zero_add] at hx649_0 | skip); replace p649 := eq_true p649; replace q649 := eq_true q649; have p33 : 0 ≤ (x26_1 : Int) := of_decide_eq_true (by first | (with_reducible assumption) | assumption); have q33 : (x26_1 : Int) < ((x6_1.length : Int) : Int) := of_decide_eq_true (by first | (with_reducible assumption) | assumption); obtain ⟨hx33_0, hf33_0⟩ := Kd.Q_cell 0 HO_6.out (x26_1 : Int) p33 q33; replace p33 := eq_true p33; replace q33 := eq_true q33; have HP37 := (Kd.Q_putg HO_6.out (x26_1 : Int) (of_decide_eq_true (by first | (with_reducible assumption) | assumption)) (by have h_ : (x26_1 : Int) < ((x6_1.length : Int) : Int) := of_decide_eq_true (by first | (with_reducible assumption) | assumption); first | exact h_ | (have e_ := (Kd.Q_reads' HO_6.out).1; omega) | simpa using h_) (Go.bits .or .u64 (rd y647 x26_1) (ji32))).1; rw [← Ny650.out] at HP37; have HQ37 := m0 HP37; clear HP37; refine start_ (n := 15) (S := fun w' => w'.cell? ⟨go26, oo26 + (x26_1).toNat, none⟩ = some (.int .u64 (rd y647 x26_1)) ∧ w'.cell? ⟨go26, oo26 + ((ji28)).toNat, none⟩ = some (.int .u64 (rd y647 (ji28)))) (ds := [14]) (fl 0 15 []) kr rfl rfl ⟨hx648_0, hx649_0⟩ (fun hHeld => ?_); refine with_tabW quot_Shr.tab11 quot_Shr.bits11 (fun HT_ HW_ => ?_)
      generalize w35.drew = w36 at HO_6 b0 b1 HB HQ37 hf33_0 hx33_0 hx648_0 hx649_0 hHeld ⊢
      refine pure_ (i := 0) (N := some 41) (v := ?_) (a' := ?_) (fl 1 15 []) rfl rfl (any_of HT_.1 kr) (fun _ _ _ h => h) (Or.inl ⟨by rfl, ?_⟩) ?_ ?_; rotate_left
      ·intro w'; go_simp; with_reducible rfl
      rotate_left
      ·simp only [Act.put, sA, sB, sC, i64_w, i32_w]; rfl
      refine pure_ (i := 1) (N := some 42) (v := ?_) (a' := ?_) (fl 2 15 []) rfl rfl (any_of HT_.1 kr) (fun _ _ _ h => h) (Or.inl ⟨by rfl, ?_⟩) ?_ ?_; rotate_left
      ·intro w'; go_simp; with_reducible rfl
      rotate_left
      ·simp only [Act.put, sA, sB, sC, i64_w, i32_w]; rfl
      refine pure_ (i := 2) (N := some 43) (v := ?_) (a' := ?_) (fl 3 15 []) rfl rfl (any_of HT_.1 kr) (fun _ _ _ h => h) (Or.inl ⟨by rfl, ?_⟩) ?_ ?_; rotate_left
      ·intro w'; go_simp; with_reducible rfl
      rotate_left
      ·simp only [Act.put, sA, sB, sC, i64_w, i32_w]; rfl
      refine pure_ (i := 4) (N := some 45) (v := ?_) (a' := ?_) (fl 3 15 [4]) rfl rfl (any_of HT_.1 kr) (fun _ _ _ h => h) (Or.inl ⟨by rfl, ?_⟩) ?_ ?_; rotate_left
      ·intro w'; go_simp; with_reducible rfl
      rotate_left
      ·simp only [Act.put, sA, sB, sC, i64_w, i32_w]; rfl
      refine pure_ (i := 5) (N := some 46) (v := ?_) (a' := ?_) (fl 3 15 [4, 5]) rfl rfl (any_of HT_.1 kr) (fun _ _ _ h => h) (Or.inl ⟨by rfl, ?_⟩) ?_ ?_; rotate_left
      ·intro w'; go_simp; with_reducible rfl
      rotate_left
      ·simp only [Act.put, sA, sB, sC, i64_w, i32_w]; rfl
      refine pure_ (i := 6) (N := some 47) (v := ?_) (a' := ?_) (fl 3 15 [4, 5, 6]) rfl rfl (any_of HT_.1 kr) (fun _ _ _ h => h) (Or.inl ⟨by rfl, ?_⟩) ?_ ?_; rotate_left
      ·intro w'; go_simp; with_reducible rfl
      rotate_left
      ·simp only [Act.put, sA, sB, sC, i64_w, i32_w]; rfl
      refine pure_ (i := 7) (N := some 48) (v := ?_) (a' := ?_) (fl 3 15 [4, 5, 6, 7]) rfl rfl (any_of HT_.1 kr) (fun _ _ _ h => h) (Or.inl ⟨by rfl, ?_⟩) ?_ ?_; rotate_left
      ·intro w'; go_simp; with_reducible rfl
      rotate_left
      ·simp only [Act.put, sA, sB, sC, i64_w, i32_w]; rfl
      refine pure_ (i := 9) (N := some 50) (v := ?_) (a' := ?_) (fl 3 15 [4, 5, 6, 7, 9]) rfl rfl (any_of HT_.1 kr) (fun _ _ _ h => h) (Or.inl ⟨by rfl, ?_⟩) ?_ ?_; rotate_left
      ·intro w'; go_simp; with_reducible rfl
      rotate_left
      ·simp only [Act.put, sA, sB, sC, i64_w, i32_w]; rfl
      refine pure_ (i := 10) (N := some 51) (v := ?_) (a' := ?_) (fl 3 15 [4, 5, 6, 7, 9, 10]) rfl rfl (any_of HT_.1 kr) (fun _ _ _ h => h) (Or.inl ⟨by rfl, ?_⟩) ?_ ?_; rotate_left
      ·intro w'; go_simp; with_reducible rfl
      rotate_left
      ·simp only [Act.put, sA, sB, sC, i64_w, i32_w]; rfl
      refine take_ (i := 3) (N := some 44) (v := ?_) (a' := ?_) (fl 8 15 [9, 10]) rfl rfl (take_ofW HT_.1 HW_.1 kr) (fun _ _ _ h => h) (Or.inl ⟨by rfl, ?_⟩) hHeld ?_ ?_; rotate_left
      ·rintro w' ⟨s0, s1⟩; go_simp; with_reducible rfl
      rotate_left
      ·simp only [Act.put, sA, sB, sC, i64_w, i32_w]; rfl
      refine take_ (i := 8) (N := some 49) (v := ?_) (a' := ?_) (fl 11 15 []) rfl rfl (take_ofW HT_.1 HW_.1 kr) (fun _ _ _ h => h) (Or.inl ⟨by rfl, ?_⟩) hHeld ?_ ?_; rotate_left
      ·rintro w' ⟨s0, s1⟩; go_simp; with_reducible rfl
      rotate_left
      ·simp only [Act.put, sA, sB, sC, i64_w, i32_w]; rfl
      refine pure_ (i := 11) (N := some 52) (v := ?_) (a' := ?_) (fl 12 15 []) rfl rfl (any_of HT_.1 kr) (fun _ _ _ h => h) (Or.inl ⟨by rfl, ?_⟩) ?_ ?_; rotate_left
      ·intro w'; go_simp; with_reducible rfl
      rotate_left
      ·simp only [Act.put, sA, sB, sC, i64_w, i32_w]; rfl
      refine pure_ (i := 12) (N := some 53) (v := ?_) (a' := ?_) (fl 13 15 []) rfl rfl (any_of HT_.1 kr) (fun _ _ _ h => h) (Or.inl ⟨by rfl, ?_⟩) ?_ ?_; rotate_left
      ·intro w'; go_simp; with_reducible rfl
      rotate_left
      ·simp only [Act.put, sA, sB, sC, i64_w, i32_w]; rfl
      refine pure_ (i := 13) (N := some 54) (v := ?_) (a' := ?_) (fl 14 15 []) rfl rfl (any_of HT_.1 kr) (fun _ _ _ h => h) (Or.inl ⟨by rfl, ?_⟩) ?_ ?_; rotate_left
      ·intro w'; go_simp; with_reducible rfl
      rotate_left
      ·simp only [Act.put, sA, sB, sC, i64_w, i32_w]; rfl
      refine last_ (i := 14) (N := none) (fl 15 15 []) rfl rfl (one_of HT_.1 kr) (by decide) (fun K hK => ?_); refine skip_ (w1 := ?_) (by rfl) rfl ?_ ?_; rotate_left
      ·go_simp; rfl
      refine hK.out _ _ ?_; clear hK K; refine done_ (done_of HT_.1 kr) ?_
      try go_wp2
      (try simp only [← hl6_1]); (try simp only [← hji23] at H' ⊢)
      go_roundg k1
      case measure => have := HK1.out; omega
      case rel => exact ⟨(y650), (ji28), (by first | rfl | (simp; done) | (simp only [← hji28] <;> (first | rfl | simp)) | (simp [*]; done)), H', ⟨by have := HK1.out; omega⟩, ⟨by (try simp only [hl6_1]); (with_reducible repeat (first | apply Kd.Q_alloc | apply Kd.Q_drewN | apply Kd.Q_drew)); exact HQ37.out⟩, ⟨by (try simp only [hl6_1]); (with_reducible repeat (first | refine blk_drewN ?_ _ | refine blk_drew ?_ | refine blk_alloc ?_ _)); refine blk_far ?_ (by have h_ := Kd.Q_ne HO_6.out b0.1 (by decide); intro e_; exact h_ (by rw [e_]; rfl)) _; (with_reducible repeat (first | refine blk_drewN ?_ _ | refine blk_drew ?_ | refine blk_alloc ?_ _)); exact b0.1⟩, ⟨by (try simp only [hl6_1]); (with_reducible repeat (first | refine blk_drewN ?_ _ | refine blk_drew ?_ | refine blk_alloc ?_ _)); refine blk_far ?_ (by have h_ := Kd.Q_ne HO_6.out b1.1 (by decide); intro e_; exact h_ (by rw [e_]; rfl)) _; (with_reducible repeat (first | refine blk_drewN ?_ _ | refine blk_drew ?_ | refine blk_alloc ?_ _)); exact b1.1⟩, ⟨by repeat (first | (with_reducible first | exact HB.1 | apply below_alloc | apply pw_below_drewN | apply below_drew1 | refine below_set ?_ GB26.out | refine below_set ?_ e0.1 | refine below_set ?_ e1.1) | exact HB.1)⟩⟩
     ·rw [if_neg c27] at H; have c27b0 : decide ((wrap64 (x26_1 + 1)) < (x6_1.length : Int)) = false := decide_eq_false c27; have c27b0x := c27b0; (try simp only [hl6_1] at c27b0x); clear c27; have H' := m0 H; clear H; have p646 : 0 ≤ (x26_1 : Int) := of_decide_eq_true (by first | (with_reducible assumption) | assumption); have q646 : x26_1 < (x6_1.length : Int) := of_decide_eq_true (by first | (with_reducible assumption) | assumption); obtain ⟨ad646, e646, hx646_0⟩ := Kd.at_int (Kd.Q_reads' HO_6.out).2.2 x26_1 p646 q646; cases e646; replace p646 := eq_true p646; replace q646 := eq_true q646; have p26 : 0 ≤ (x26_1 : Int) := of_decide_eq_true (by first | (with_reducible assumption) | assumption); have q26 : (x26_1 : Int) < ((x6_1.length : Int) : Int) := of_decide_eq_true (by first | (with_reducible assumption) | assumption); obtain ⟨go26, oo26, K1, j1, g2, gl26, cl26, HG26⟩ := Kd.Q_form HO_6.out (by omega); (first | cases j1 | (injection j1 with ea_ en_ ec_; (first | subst ea_ | (injection ea_ with ea_; subst ea_)); subst ec_; clear en_)); have GB26 := m0 g2; have GG26 := m0 HG26; clear g2 gl26 HG26; (first | simp only [add_at] at hx646_0 | skip); obtain ⟨hx26_0, hf26_0⟩ := Kd.Q_cell 0 HO_6.out (x26_1 : Int) p26 q26; replace p26 := eq_true p26; replace q26 := eq_true q26; have HP38 := Kd.Q_putg HO_6.out (x26_1 : Int) (of_decide_eq_true (by first | (with_reducible assumption) | assumption)) (by have h_ : (x26_1 : Int) < ((x6_1.length : Int) : Int) := of_decide_eq_true (by first | (with_reducible assumption) | assumption); first | exact h_ | (have e_ := (Kd.Q_reads' HO_6.out).1; omega) | simpa using h_) ji25
      go_wp2_with (first | ((with_reducible refine gate_store (t := 27) (p := 35) rfl ?_); refine store_event (t := 27) (p := 35) (v := ?vo_w39) (w1 := (wr.setCell ⟨go26, oo26 + (x26_1 : Int).toNat, none⟩ (.int .u64 ji25))) ?hg ?ho ?hn ?hr ?_; (case ho => rfl); (case hg => rfl); (case hn => rfl); (case hr => first | (go_simp; done) | (go_simp; rfl)); intro w39 hw; have hg : wr.grownBy w39 (some go26) := (by rw [hw]; exact HP38.2); have hp_ : Kd.Q (Kd.int .u64) 27 w39 w.heap.size (fun k_ => (w.heap.size ≤ k_)) (.slice (some ⟨go26, oo26, none⟩) x6_1.length c19) y647 := (by rw [hw, Ny647.out]; exact HP38.1); clear HP38; replace b0 := m0 (blk_grown (g := g0) (o := .cells #[.slice A0_0 l0_0.length c0_0] 25 (0, 0)) b0.1 hg (Kd.Q_ne HO_6.out b0.1 (by decide))); replace b1 := m0 (blk_grown (g := g1) (o := .cells #[.slice none 0 0] 25 (0, 0)) b1.1 hg (Kd.Q_ne HO_6.out b1.1 (by decide))); replace HO_6 := m0 (hp_); replace HB := m0 ((by rw [hw]; exact below_set (HB.1) GB26.out : Below w.heap.size w w39)); clear hg hw hp_))
      (try simp only [← hl6_1]); (try simp only [← hji23] at H' ⊢)
      go_roundg k1
      case measure => have := HK1.out; omega
      case rel => exact ⟨(y647), (wrap64 (x26_1 + 1)), (by first | rfl | (simp; done) | (simp [*]; done)), H', ⟨by have := HK1.out; omega⟩, ⟨by (try simp only [hl6_1]); (with_reducible repeat (first | apply Kd.Q_alloc | apply Kd.Q_drewN | apply Kd.Q_drew)); exact HO_6.out⟩, ⟨by (try simp only [hl6_1]); (with_reducible repeat (first | refine blk_drewN ?_ _ | refine blk_drew ?_ | refine blk_alloc ?_ _)); exact b0.1⟩, ⟨by (try simp only [hl6_1]); (with_reducible repeat (first | refine blk_drewN ?_ _ | refine blk_drew ?_ | refine blk_alloc ?_ _)); exact b1.1⟩, ⟨by repeat (first | (with_reducible first | exact HB.1 | apply below_alloc | apply pw_below_drewN | apply below_drew1 | refine below_set ?_ e0.1 | refine below_set ?_ e1.1) | exact HB.1)⟩⟩
    ·rw [if_neg c20] at H; have c20b0 : decide (x26_1 < (y643.length : Int)) = false := decide_eq_false c20; have c20b0x := c20b0; (try simp only [hl6_1] at c20b0x); clear c20; replace H := Option.bind_eq_some_iff.mp H; obtain ⟨t651, A400, H⟩ := H; (try dsimp only at H); have A40 := m0 A400; clear A400; simp only [Option.some.injEq, Prod.mk.injEq] at H; obtain ⟨rfl, rfl⟩ := H
     go_wp2_with (first | ((with_reducible refine gate_callee (f := 14) rfl ?_); refine goesL_ (some 57) rfl rfl Try.func14 kr rfl #[.slice A19 x6_1.length c19] rfl gm ?_; (with_reducible refine (nat_Of.calls k1 _ _ x6_1 t651 _ ?side1 ?side2 A40.1).mono ?_); (case side1 => repeat (first | exact (Kd.Q_reads' HO_6.out).2.2 | (with_reducible refine Kd.C_alloc ?_ _) | (with_reducible refine Kd.C_drewN ?_ _) | (with_reducible refine Kd.C_drew ?_))); (case side2 => exact (Kd.Q_reads' HO_6.out).2.1); rintro e w41 ⟨v652, rfl, ho0, hb⟩; refine ⟨_, rfl, ?_⟩; have a4 := m0 (Kd.V_lower (Kd.V_mono (ok' := fun k_ => (w.heap.size ≤ k_) ∧ some k_ ≠ (.slice A19 x6_1.length c19 : Value).ownBlock ∧ k_ ≠ g0 ∧ k_ ≠ g1) ho0 (fun k_ hk_ => ⟨(Nat.le_trans (bz HB.1) hk_), (Kd.fresh' (Kd.Q_lt (by (with_reducible repeat (first | apply Kd.Q_alloc | apply Kd.Q_drewN | apply Kd.Q_drew)); exact HO_6.out)) k_ hk_), fb b0.1 k_ hk_, fb b1.1 k_ hk_⟩)) (bz HB.1)); replace HO_6 := m0 (Kd.Q_below (by (with_reducible repeat (first | apply Kd.Q_alloc | apply Kd.Q_drewN | apply Kd.Q_drew)); exact HO_6.out) hb); replace b0 := ba b0 hb; replace b1 := ba b1 hb; replace HB := sa HB hb; clear hb ho0; obtain ⟨D1, K2, j2⟩ := Kd.V_slice a4.1; subst j2; have hnb43 := z1.1; have hnc43 := z0.1; have hcz44_0 : w41.cell? ⟨g1, 0, none⟩ = some (.slice none 0 0) := bc b1; have hfz44_0 := blk_frozen b1.1 0))
     refine bodyPost_ret (results_ct rfl _ _ g1 25 #[.slice D1 t651.length K2] (0, 0) _ rfl (by (with_reducible repeat (first | refine blk_drewN ?_ _ | refine blk_drew ?_ | refine blk_alloc ?_ _)); refine blk_put (cs := #[.slice none 0 0]) ?_ 0 _ rfl; (with_reducible repeat (first | refine blk_drewN ?_ _ | refine blk_drew ?_ | refine blk_alloc ?_ _)); exact b1.1) Try.underlying25 rfl kr) rfl ?_; exact ⟨_, by first | rfl | (simp [errW_none, errW_some] <;> rfl) | (simp only [← hji10]; first | rfl | (simp [errW_none, errW_some] <;> rfl)) | (simp [*, errW_none, errW_some] <;> rfl), by (with_reducible repeat (first | apply Kd.V_alloc | apply Kd.V_drewN | apply Kd.V_drew)); exact Kd.V_mono (Kd.V_far (p := ⟨g1, 0, none⟩) (Kd.V_mono a4.1 (fun _ hk => And.intro hk hk.2.2.2)) (fun _ hk => hk.2) (.slice D1 t651.length K2)) (fun _ hk => hk.1.1), by repeat (first | (with_reducible first | exact HB.1 | apply below_alloc | apply pw_below_drewN | apply below_drew1 | refine below_set ?_ e0.1 | refine below_set ?_ e1.1) | exact HB.1)⟩
end Go.Proofs.Ytebjbmgfbejapaa.F
end
