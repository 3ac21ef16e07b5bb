import Derived.Test.YtebjbmgfbejapaaProg
import Derived.Test.YtebjbmgfbejapaaC210WWords
import Derived.Test.YtebjbmgfbejapaaC210WLast
import Derived.Test.YtebjbmgfbejapaaC210WTab
import Derived.Test.YtebjbmgfbejapaaC210WQPut
import Derived.Test.YtebjbmgfbejapaaC210WApart
import Derived.Test.YtebjbmgfbejapaaC210WFoot
import Derived.Test.YtebjbmgfbejapaaC210WKept
import Derived.Test.YtebjbmgfbejapaaC210WShare
import Derived.Test.YtebjbmgfbejapaaC210WN
import Derived.Test.YtebjbmgfbejapaaC210WAt
import Derived.Laws.StructEq
import Derived.Test.YtebjbmgfbejapaaC210WRepsOne
import Derived.Test.YtebjbmgfbejapaaC210WInv
import Derived.Test.YtebjbmgfbejapaaC210WInvWords
import Derived.Test.YtebjbmgfbejapaaC210WGuard
import Derived.Test.YtebjbmgfbejapaaC210WMore
import Derived.Laws.Externs
import Derived.WalkKit
import Derived.Tactics
import Derived.KernelRfl
import Derived.RowKit3
namespace Go.Proofs.YtebjbmgfbejapaaX
open Go.RowKit Go.Proofs.YtebjbmgfbejapaaW.PrintWords Go.Proofs.YtebjbmgfbejapaaW.PrintLast Go.Proofs.YtebjbmgfbejapaaW.PrintMore
set_option linter.unusedVariables false
set_option linter.unusedSimpArgs false
def add64s (x y c : Int) : Int := (((x.toNat + y.toNat + c.toNat) % 18446744073709551616 : Nat) : Int)
def add64c (x y c : Int) : Int := (((x.toNat + y.toNat + c.toNat) / 18446744073709551616 : Nat) : Int)
def sub64d (x y c : Int) : Int := (((x.toNat + 18446744073709551616 - y.toNat - c.toNat) % 18446744073709551616 : Nat) : Int)
def sub64b (x y c : Int) : Int := ((if x.toNat < y.toNat + c.toNat then 1 else 0 : Nat) : Int)
def sub64Row : Array Value → Sem Value := fun args => do
  let (x, y, b) ← Extern.MathBitsCarry.three "Sub64" args
  pure (Extern.MathBitsCarry.pair ((x + Extern.MathBitsCarry.m64 - y - b) % Extern.MathBitsCarry.m64) (if x < y + b then 1 else 0))
theorem carry_cases {c : Int} {p : Int → Prop} (h : c ≤ 1) (h0 : p 0) (h1 : p 1) (hn : ∀ n, p (Int.negSucc n)) : p c := by
  match c, h with
  | Int.ofNat 0, _ => exact h0
  | Int.ofNat 1, _ => exact h1
  | Int.ofNat (n + 2), h => exact absurd h (by simp; omega)
  | Int.negSucc n, _ => exact hn n
theorem add64_entry {P : Program} (x y c : Int) (h : c ≤ 1) (w : World) :
    (add64Entry #[.int .u64 x, .int .u64 y, .int .u64 c]).run P w = .ok (.tuple #[.int .u64 (add64s x y c), .int .u64 (add64c x y c)]) w :=
  carry_cases (p := fun c => (add64Entry #[.int .u64 x, .int .u64 y, .int .u64 c]).run P w = .ok (.tuple #[.int .u64 (add64s x y c), .int .u64 (add64c x y c)]) w) h rfl rfl (fun _ => rfl)
theorem sub64_entry {P : Program} (x y c : Int) (h : c ≤ 1) (w : World) :
    (sub64Row #[.int .u64 x, .int .u64 y, .int .u64 c]).run P w = .ok (.tuple #[.int .u64 (sub64d x y c), .int .u64 (sub64b x y c)]) w :=
  carry_cases (p := fun c => (sub64Row #[.int .u64 x, .int .u64 y, .int .u64 c]).run P w = .ok (.tuple #[.int .u64 (sub64d x y c), .int .u64 (sub64b x y c)]) w) h rfl rfl (fun _ => rfl)
theorem xrun_add64 (x y c : Int) (h : c ≤ 1) (w : World) : (callFunc 48 #[.int .u64 x, .int .u64 y, .int .u64 c]).run Try.prog w = .ok (.value (.tuple #[.int .u64 (add64s x y c), .int .u64 (add64c x y c)])) w := by
  rw [run_callFunc_extern Try.func48 (by kernel_rfl) (by kernel_rfl) (by kernel_rfl) (e := add64Entry) (by kernel_rfl), add64_entry x y c h]
  rfl
theorem xrun_sub64 (x y c : Int) (h : c ≤ 1) (w : World) : (callFunc 50 #[.int .u64 x, .int .u64 y, .int .u64 c]).run Try.prog w = .ok (.value (.tuple #[.int .u64 (sub64d x y c), .int .u64 (sub64b x y c)])) w := by
  rw [run_callFunc_extern Try.func50 (by kernel_rfl) (by kernel_rfl) (by kernel_rfl) (e := sub64Row) (by kernel_rfl), sub64_entry x y c h]
  rfl
structure XD where
  pre : List Int
  post : List Int
  size : Nat
def XW (k : IntKind) (D : XD) (e : Nat) (w : World) (base : Nat) (ok : Nat → Prop) (v : Value) (xs : List Int) : Prop :=
  (∀ b, v.ownBlock = some b → ok b) ∧ ∃ g cap cur, v = .slice (some ⟨g, D.pre.length, none⟩) xs.length cap ∧ base ≤ g ∧ w.heap[g]? = some (.cells cur e (0, 0)) ∧ 0 < xs.length ∧ xs.length ≤ cap ∧ D.pre.length + cap ≤ D.size ∧ cur.size = D.size ∧ D.size ≤ maxLen ∧
    cur.toList.take (D.pre.length + xs.length + D.post.length) = nums k (D.pre ++ xs ++ D.post) ∧ D.pre.length + xs.length + D.post.length ≤ D.size
section
variable {k : IntKind} {D : XD} {e : Nat} {w w1 : World} {base : Nat} {ok ok' : Nat → Prop} {v : Value} {xs : List Int}
theorem XW_mono (h : XW k D e w base ok v xs) (hok : ∀ b, ok b → ok' b) : XW k D e w base ok' v xs := ⟨fun b hb => hok b (h.1 b hb), h.2⟩
theorem XW_move (h : XW k D e w base ok v xs) (hm : ∀ b, b < w.heap.size → w1.heap[b]? = w.heap[b]?) : XW k D e w1 base ok v xs := by
  obtain ⟨h0, g, cap, cur, hv, hb, hg, r⟩ := h
  exact ⟨h0, g, cap, cur, hv, hb, (hm g (blk_lt hg)).trans hg, r⟩
theorem XW_below (h : XW k D e w base ok v xs) (hb : Below w.heap.size w w1) : XW k D e w1 base ok v xs := XW_move h (fun b hlt => hb.block b hlt)
theorem XW_alloc (h : XW k D e w base ok v xs) (o : Obj) : XW k D e (w.alloc o) base ok v xs := XW_below h (below_alloc (Below.refl _ _) o)
theorem XW_drew (h : XW k D e w base ok v xs) : XW k D e w.drew base ok v xs := XW_below h (below_drew (Below.refl _ _))
theorem XW_drewN (h : XW k D e w base ok v xs) (m : Nat) : XW k D e (w.drewN m) base ok v xs := XW_below h (pw_below_drewN (Below.refl _ _) m)
theorem XW_slice (h : XW k D e w base ok v xs) : ∃ A c, v = .slice A xs.length c := by
  obtain ⟨_, g, cap, cur, hv, _⟩ := h
  exact ⟨_, _, hv⟩
theorem XW_ne (h : XW k D e w base ok v xs) {g t : Nat} {cells : Array Value} (hb : w.heap[g]? = some (.cells cells t (0, 0))) (ht : e ≠ t) : some g ≠ v.ownBlock := by
  obtain ⟨_, g', cap, cur, rfl, _, hg, _⟩ := h
  intro he
  have : g = g' := by simpa [Value.ownBlock] using he
  subst this
  rw [hg] at hb
  injection hb with hb
  injection hb with _ hb
  exact ht hb
theorem XW_form (h : XW k D e w base ok v xs) (_ : 0 < xs.length) : ∃ g cap, v = .slice (some ⟨g, D.pre.length, none⟩) xs.length cap ∧ base ≤ g ∧ g < w.heap.size ∧ ∃ cells, w.heap[g]? = some (.cells cells e (0, 0)) := by
  obtain ⟨_, g, cap, cur, hv, hb, hg, _⟩ := h
  exact ⟨g, cap, hv, hb, blk_lt hg, cur, hg⟩
theorem xw_add (g o j : Nat) : (⟨g, o, none⟩ : Addr).add j = ⟨g, o + j, none⟩ := by
  unfold Addr.add
  split <;> simp_all
theorem xw_at {cur : Array Value} {pre xs post : List Int} (ht : cur.toList.take (pre.length + xs.length + post.length) = nums k (pre ++ xs ++ post)) (j : Nat) (hj : j < xs.length) : cur[pre.length + j]? = some (.int k (xs.getD j 0)) := by
  have h1 : (cur.toList.take (pre.length + xs.length + post.length))[pre.length + j]? = cur.toList[pre.length + j]? := by
    rw [List.getElem?_take_of_lt (by omega)]
  rw [← Array.getElem?_toList, ← h1, ht]
  unfold nums
  rw [List.getElem?_map, List.append_assoc, List.getElem?_append_right (by omega), Nat.add_sub_cancel_left, List.getElem?_append_left hj, List.getD_eq_getElem?_getD, List.getElem?_eq_getElem hj]
  rfl
theorem XW_celln (_ : Int) {g n cap : Nat} (h : XW k D e w base ok (.slice (some ⟨g, D.pre.length, none⟩) n cap) xs) (i : Int) (h0 : 0 ≤ i) (hi : i < n) : w.cell? ⟨g, D.pre.length + i.toNat, none⟩ = some (.int k (rd xs i)) ∧ w.frozen? ⟨g, D.pre.length + i.toNat, none⟩ = false := by
  obtain ⟨_, g', cap', cur, hv, hb, hg, h1, h2, h3, h4, h5, ht, hz⟩ := h
  injection hv with ha hn hc
  injection ha with ha
  injection ha with ha
  subst ha hn hc
  refine ⟨?_, ?_⟩
  · have := xw_at ht i.toNat (by omega)
    simp only [World.cell?, hg, this]
    rfl
  · simp only [World.frozen?, hg]
    simp
theorem XW_reads' {A : Option Addr} {n c : Nat} (h : XW k D e w base ok (.slice A n c) xs) : n = xs.length ∧ n ≤ c ∧ Kd.C (Kd.int k) w A xs.length xs := by
  obtain ⟨h0, g', cap', cur, hv, hb, hg, h1, h2, h3, h4, h5, ht, hz⟩ := h
  injection hv with ha hn hc
  subst ha hn hc
  refine ⟨rfl, h2, rfl, by unfold maxLen at h5; omega, fun _ => ⟨_, rfl, fun j p hj => ⟨[.int k p], rfl, rfl, fun i u hi => ?_⟩⟩⟩
  have hj1 : j < xs.length := (List.getElem?_eq_some_iff.1 hj).1
  have h6 := xw_at ht j hj1
  have hp : xs.getD j 0 = p := by rw [List.getD_eq_getElem?_getD, hj]; rfl
  rw [hp] at h6
  have hi0 : i = 0 := by
    have := (List.getElem?_eq_some_iff.1 hi).1
    simp at this
    exact this
  subst hi0
  have hu : Value.int k p = u := by simpa using hi
  subst hu
  rw [xw_add]
  have hs : (Kd.int k).sz = 1 := rfl
  simp only [World.cell?, hg, hs, Nat.mul_one, Nat.add_zero, h6]
  rfl
theorem XW_putg {g n cap : Nat} (h : XW k D e w base ok (.slice (some ⟨g, D.pre.length, none⟩) n cap) xs) (i : Int) (x : Int) (h0 : 0 ≤ i) (hi : i < xs.length) : XW k D e (w.setCell ⟨g, D.pre.length + i.toNat, none⟩ (.int k x)) base ok (.slice (some ⟨g, D.pre.length, none⟩) n cap) (xs.set i.toNat x) ∧ w.grownBy (w.setCell ⟨g, D.pre.length + i.toNat, none⟩ (.int k x)) (some g) := by
  obtain ⟨hok, g', cap', cur, hv, hb, hg, h1, h2, h3, h4, h5, ht, hz⟩ := h
  injection hv with ha hn hc
  injection ha with ha
  injection ha with ha
  subst ha hn hc
  refine ⟨⟨hok, g, cap, cur.setIfInBounds (D.pre.length + i.toNat) (.int k x), by rw [List.length_set], hb, ?_, by rw [List.length_set]; exact h1, by rw [List.length_set]; exact h2, h3, by rw [Array.size_setIfInBounds]; exact h4, h5, ?_, by rw [List.length_set]; exact hz⟩, ?_⟩
  · simp only [World.setCell, Array.getElem?_modify, hg]
    simp
  · rw [List.length_set, Array.toList_setIfInBounds, List.take_set, ht]
    unfold nums
    rw [← List.map_set, List.append_assoc, List.set_append_right _ _ (by omega), Nat.add_sub_cancel_left, List.set_append_left _ _ (by omega), List.append_assoc]
  · exact ⟨rfl, rfl, rfl, by simp [World.setCell], fun b hlt hne => Below.heap_setCell w _ _ b (fun e1 => hne (by rw [e1]))⟩
theorem XW_of_R {g n cap : Nat} {L : List Int} (h : Kd.R (Kd.int k) e w base ok (.slice (some ⟨g, 0, none⟩) n cap) L) (lo hi : Nat) (h1 : lo < hi) (h2 : hi ≤ L.length) :
    ∃ size, cap = size ∧ ∀ cap', hi - lo ≤ cap' → lo + cap' ≤ size → XW k ⟨L.take lo, L.drop hi, size⟩ e w base ok (.slice (some ⟨g, lo, none⟩) (hi - lo) cap') ((L.take hi).drop lo) := by
  have ho := Kd.own_of_R h
  obtain ⟨hl, h3 | ⟨g', cap0, cur, hv, hb, hh, hnc, hcm, hcs, ht⟩⟩ := ho
  · injection h3.1 with h4
    cases h4
  · injection hv with ha hn hc
    injection ha with ha
    injection ha with ha
    subst ha hc
    have hlen : ((L.take hi).drop lo).length = hi - lo := by rw [List.length_drop, List.length_take]; omega
    have hpre : (L.take lo).length = lo := by rw [List.length_take]; omega
    have hpost : (L.drop hi).length = L.length - hi := List.length_drop
    have hall : L.take lo ++ (L.take hi).drop lo ++ L.drop hi = L := by
      have e1 : L.take lo = (L.take hi).take lo := by rw [List.take_take, Nat.min_eq_left (by omega)]
      rw [e1, List.take_append_drop, List.take_append_drop]
    refine ⟨cap, rfl, fun cap' hc1 hc2 => ⟨fun b hb' => h.1 b (by simpa [Value.ownBlock] using hb'), g, cap', cur, by rw [hpre, hlen], hb, hh, by omega, by omega, ?_, by simpa using hcs, hcm, ?_, ?_⟩⟩
    · show (L.take lo).length + cap' ≤ cap
      rw [hpre]; exact hc2
    · show cur.toList.take ((L.take lo).length + ((L.take hi).drop lo).length + (L.drop hi).length) = nums k (L.take lo ++ (L.take hi).drop lo ++ L.drop hi)
      rw [hall, hpre, hlen, hpost, show lo + (hi - lo) + (L.length - hi) = L.length * 1 by omega]
      exact ht
    · show (L.take lo).length + ((L.take hi).drop lo).length + (L.drop hi).length ≤ cap
      rw [hpre, hlen, hpost]; omega
theorem XW_to_R {g n cap c lo : Nat} {pre post xs : List Int} (h : XW k ⟨pre, post, cap⟩ e w base ok (.slice (some ⟨g, lo, none⟩) n c) xs) : Kd.R (Kd.int k) e w base ok (.slice (some ⟨g, 0, none⟩) (pre ++ xs ++ post).length cap) (pre ++ xs ++ post) := by
  obtain ⟨hok, g', cap', cur, hv, hb, hg, h1, h2, h3, h4, h5, ht, hz⟩ := h
  injection hv with ha hn hc
  injection ha with ha
  injection ha with ha
  subst ha
  have hlen : (pre ++ xs ++ post).length = pre.length + xs.length + post.length := by simp only [List.length_append]
  refine Kd.R_of_own ⟨by simp [encs], .inr ⟨g, cap, cur, rfl, hb, hg, by rw [hlen]; exact hz, h5, by simpa using h4, ?_⟩⟩ (fun b hb' => hok b (by simpa [Value.ownBlock] using hb'))
  rw [hlen, Nat.mul_one]
  exact ht
end
theorem cut_cap {P : Program} (t e : TypeId) (kh km : IntKind) {i : TypeInfo} (ht : P.underlying t = some (.slice e)) (hi : P.info? e = some i) (A : Option Addr) (n c : Nat) (j : Int) (h0 : 0 ≤ j) (hm : j ≤ n) (hc : n ≤ c) :
    ∀ W : World, (Instr.slice t (.slice A n c) none (some (.int kh j)) (some (.int km j))).run P W = .ok (.slice A j.toNat j.toNat) W := by
  intro W
  have hel : P.elem t = e := by simp [Program.elem, ht]
  have hu : P.underlying t = some (.slice (P.elem t)) := by rw [hel]; exact ht
  have ha : (A.map fun x => x.add 0) = A := by cases A <;> simp [Addr.add]
  rw [run_slice_hm W t A n c hu kh km j j h0 (Int.le_refl _) (by omega), hel]
  simp [sizeOf, typeInfo, hi, sliced, Result.andThen, ha]
theorem run_eq_nil {P : Program} (w : World) {t e : TypeId} (a : Option Addr) (n c : Nat) (ht : P.underlying t = some (.slice e)) : (binOp .eql t (.slice a n c) (.slice none 0 0)).run P w = .ok (.bool a.isNone) w := by
  have h : ∀ d : Nat, (Op.equalIn (d + 1) t (.slice a n c) (.slice none 0 0)).run P w = .ok a.isNone w := fun d => by cases a <;> simp [Op.equalIn, run_underlying ht]
  simp only [binOp]
  simp [Op.equal, Op.maxDepth, h 9999]
def xwin (v : Value) (lo hi : Int) : Value := match v with
  | .slice (some a) _ c => .slice (some (a.add lo.toNat)) (hi.toNat - lo.toNat) (c - lo.toNat)
  | v => v
theorem xwin_slice (g n c : Nat) (lo hi : Int) : xwin (.slice (some ⟨g, 0, none⟩) n c) lo hi = .slice (some ⟨g, lo.toNat, none⟩) (hi.toNat - lo.toNat) (c - lo.toNat) := by
  unfold xwin
  simp only [add_plain]
theorem win_from {P : Program} {k : IntKind} {w : World} {base : Nat} {ok : Nat → Prop} {A : Option Addr} {n c : Nat} {L : List Int} (t e : TypeId) (kl : IntKind) {i : TypeInfo} (ht : P.underlying t = some (.slice e)) (hi : P.info? e = some i) (hsz : i.size = 1)
    (h : Kd.R (Kd.int k) e w base ok (.slice A n c) L) (lo m : Int) (h0 : 0 ≤ lo) (h1 : lo < m) (hm : m = (n : Int)) :
    ∀ W : World, (Instr.slice t (.slice A n c) (some (.int kl lo)) none none).run P W = .ok (xwin (.slice A n c) lo m) W := by
  intro W
  subst hm
  obtain ⟨hn, hc, _⟩ := Kd.R_reads' h
  obtain ⟨g, cap, hv, _⟩ := Kd.R_form h (by omega)
  injection hv with ha _ _
  subst ha
  have e1 : ¬ c = lo.toNat := by omega
  rw [cut_from t e kl ht hi 1 hsz (some ⟨g, 0, none⟩) n c lo h0 (by omega) W, xwin_slice, if_neg e1]
  simp only [Option.map, Nat.mul_one, add_plain, Int.toNat_natCast]
theorem win_mid {P : Program} {k : IntKind} {w : World} {base : Nat} {ok : Nat → Prop} {A : Option Addr} {n c : Nat} {L : List Int} (t e : TypeId) (kl kh : IntKind) {i : TypeInfo} (ht : P.underlying t = some (.slice e)) (hi : P.info? e = some i) (hsz : i.size = 1)
    (h : Kd.R (Kd.int k) e w base ok (.slice A n c) L) (lo m : Int) (h0 : 0 ≤ lo) (h1 : lo < m) (hm : m ≤ (n : Int)) :
    ∀ W : World, (Instr.slice t (.slice A n c) (some (.int kl lo)) (some (.int kh m)) none).run P W = .ok (xwin (.slice A n c) lo m) W := by
  intro W
  obtain ⟨hn, hc, _⟩ := Kd.R_reads' h
  obtain ⟨g, cap, hv, _⟩ := Kd.R_form h (by omega)
  injection hv with ha _ _
  subst ha
  have e1 : ¬ c = lo.toNat := by omega
  rw [cut_mid t e kl kh ht hi 1 hsz (some ⟨g, 0, none⟩) n c lo m h0 (by omega) hm hc W, xwin_slice, if_neg e1]
  simp only [Option.map, Nat.mul_one, add_plain]
class Fw (W W' : World) : Prop where
  le : Below W.heap.size W W'
instance fw_refl (W : World) : Fw W W := ⟨Below.refl _ _⟩
instance fw_alloc (W W' : World) (o : Obj) [h : Fw W W'] : Fw W (W'.alloc o) := ⟨below_alloc h.le o⟩
instance fw_drewN (W W' : World) (n : Nat) [h : Fw W W'] : Fw W (W'.drewN n) := ⟨pw_below_drewN h.le n⟩
instance fw_drew (W W' : World) [h : Fw W W'] : Fw W W'.drew := ⟨below_drew h.le⟩
theorem vb {α : Type} {d : Kd α} {e base : Nat} {W W' w1 : World} {ok : Nat → Prop} {v : Value} {xs : List α} [f : Fw W W'] (h : Kd.V d e W base ok v xs) (hb : Below W'.heap.size W' w1) : Kd.V d e w1 base ok v xs := Kd.V_below (Kd.V_below h f.le) hb
theorem rb {α : Type} {d : Kd α} {e base : Nat} {W W' w1 : World} {ok : Nat → Prop} {v : Value} {xs : List α} [f : Fw W W'] (h : Kd.R d e W base ok v xs) (hb : Below W'.heap.size W' w1) : Kd.R d e w1 base ok v xs := Kd.R_below (Kd.R_below h f.le) hb
theorem bb {g : Nat} {o : Obj} {W W' w1 : World} [f : Fw W W'] (h : W.heap[g]? = some o) (hb : Below W'.heap.size W' w1) : w1.heap[g]? = some o := blk_below (blk_below h f.le) hb
theorem cv {α : Type} {d : Kd α} {e base n c : Nat} {W W' : World} {ok : Nat → Prop} {A : Option Addr} {xs : List α} [f : Fw W W'] (h : Kd.V d e W base ok (.slice A n c) xs) : Kd.C d W' A xs.length xs := (Kd.V_reads' (Kd.V_below h f.le)).2.2
theorem cr {α : Type} {d : Kd α} {e base n c : Nat} {W W' : World} {ok : Nat → Prop} {A : Option Addr} {xs : List α} [f : Fw W W'] (h : Kd.R d e W base ok (.slice A n c) xs) : Kd.C d W' A xs.length xs := (Kd.R_reads' (Kd.R_below h f.le)).2.2
theorem bs {w W W' w2 : World} [f : Fw W W'] (h : Below w.heap.size w W) (hb : Below W'.heap.size W' w2) : Below w.heap.size w w2 := below_step (below_step h f.le) hb
theorem bz {w W W' : World} [f : Fw W W'] (h : Below w.heap.size w W) : w.heap.size ≤ W'.heap.size := below_size (below_step h f.le)
theorem fb {g : Nat} {o : Obj} {W W' : World} [f : Fw W W'] (h : W.heap[g]? = some o) : ∀ k, W'.heap.size ≤ k → k ≠ g := Kd.freshB (blk_below h f.le)
def fl (a m : Nat) (ex : List Nat) : Array Bool := ((List.range m).map fun i => decide (i < a) || ex.contains i).toArray
theorem cell_some {w : World} {a b : Addr} {v : Value} : ((w.setCell b v).cell? a).isSome = (w.cell? a).isSome := by
  unfold World.cell? World.setCell
  simp only [Array.getElem?_modify]
  by_cases h : b.block = a.block
  · rw [if_pos h]
    rcases hw : w.heap[a.block]? with _ | o
    · rfl
    · cases o with
      | cells c e fr =>
        simp only [Option.map_some]
        by_cases hs : a.spot.isSome
        · simp [hs]
        · simp only [if_neg hs]
          by_cases hb : b.spot.isSome
          · simp [hb]
          · simp only [if_neg hb, Array.getElem?_setIfInBounds]
            by_cases ho : b.off = a.off
            · rw [if_pos ho]
              by_cases hz : b.off < c.size
              · rw [if_pos hz, ho] at *
                rw [Array.getElem?_eq_getElem (by omega)]
                rfl
              · rw [if_neg hz, Array.getElem?_eq_none (by omega)]
            · rw [if_neg ho]
      | _ => rfl
  · rw [if_neg h]
end Go.Proofs.YtebjbmgfbejapaaX
