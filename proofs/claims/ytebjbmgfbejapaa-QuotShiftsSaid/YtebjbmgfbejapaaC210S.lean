import Derived.Test.YtebjbmgfbejapaaC210X
namespace Go.Proofs.YtebjbmgfbejapaaX
open Go.RowKit Go.Proofs.YtebjbmgfbejapaaW.PrintWords Go.Proofs.YtebjbmgfbejapaaW.PrintLast Go.Proofs.YtebjbmgfbejapaaW.PrintMore
theorem and2 {p1 r g : Prop} (h : p1 ∧ r) (k : p1 → r → g) : g := k h.1 h.2
theorem and2A {p1 r g : Prop} (h : p1 ∧ r) (k : Aside0 p1 → r → g) : g := k ⟨h.1⟩ h.2
theorem and4A {p1 p2 p3 r g : Prop} (h : p1 ∧ p2 ∧ p3 ∧ r) (k : Aside0 p1 → Aside0 p2 → Aside0 p3 → r → g) : g := k ⟨h.1⟩ ⟨h.2.1⟩ ⟨h.2.2.1⟩ h.2.2.2
theorem and5A {p1 p2 p3 p4 r g : Prop} (h : p1 ∧ p2 ∧ p3 ∧ p4 ∧ r) (k : Aside0 p1 → Aside0 p2 → Aside0 p3 → Aside0 p4 → r → g) : g := k ⟨h.1⟩ ⟨h.2.1⟩ ⟨h.2.2.1⟩ ⟨h.2.2.2.1⟩ h.2.2.2.2
theorem and6A {p1 p2 p3 p4 p5 r g : Prop} (h : p1 ∧ p2 ∧ p3 ∧ p4 ∧ p5 ∧ r) (k : Aside0 p1 → Aside0 p2 → Aside0 p3 → Aside0 p4 → Aside0 p5 → r → g) : g := k ⟨h.1⟩ ⟨h.2.1⟩ ⟨h.2.2.1⟩ ⟨h.2.2.2.1⟩ ⟨h.2.2.2.2.1⟩ h.2.2.2.2.2
theorem and7A {p1 p2 p3 p4 p5 p6 r g : Prop} (h : p1 ∧ p2 ∧ p3 ∧ p4 ∧ p5 ∧ p6 ∧ r) (k : Aside0 p1 → Aside0 p2 → Aside0 p3 → Aside0 p4 → Aside0 p5 → Aside0 p6 → r → g) : g := k ⟨h.1⟩ ⟨h.2.1⟩ ⟨h.2.2.1⟩ ⟨h.2.2.2.1⟩ ⟨h.2.2.2.2.1⟩ ⟨h.2.2.2.2.2.1⟩ h.2.2.2.2.2.2
theorem and8 {p1 p2 p3 p4 p5 p6 p7 r g : Prop} (h : p1 ∧ p2 ∧ p3 ∧ p4 ∧ p5 ∧ p6 ∧ p7 ∧ r) (k : p1 → p2 → p3 → p4 → p5 → p6 → p7 → r → g) : g := k h.1 h.2.1 h.2.2.1 h.2.2.2.1 h.2.2.2.2.1 h.2.2.2.2.2.1 h.2.2.2.2.2.2.1 h.2.2.2.2.2.2.2
theorem and8A {p1 p2 p3 p4 p5 p6 p7 r g : Prop} (h : p1 ∧ p2 ∧ p3 ∧ p4 ∧ p5 ∧ p6 ∧ p7 ∧ r) (k : Aside0 p1 → Aside0 p2 → Aside0 p3 → Aside0 p4 → Aside0 p5 → Aside0 p6 → Aside0 p7 → r → g) : g := k ⟨h.1⟩ ⟨h.2.1⟩ ⟨h.2.2.1⟩ ⟨h.2.2.2.1⟩ ⟨h.2.2.2.2.1⟩ ⟨h.2.2.2.2.2.1⟩ ⟨h.2.2.2.2.2.2.1⟩ h.2.2.2.2.2.2.2
theorem ex1_ {a0 : Type} {P : a0 → Prop} {g : Prop} (h : ∃ x0, P x0) (k : ∀ x0, P x0 → g) : g := let ⟨x0, z⟩ := h; k x0 z
theorem ex8_ {a0 a1 a2 a3 a4 a5 a6 a7 : Type} {P : a0 → a1 → a2 → a3 → a4 → a5 → a6 → a7 → Prop} {g : Prop} (h : ∃ x0 x1 x2 x3 x4 x5 x6 x7, P x0 x1 x2 x3 x4 x5 x6 x7) (k : ∀ x0 x1 x2 x3 x4 x5 x6 x7, P x0 x1 x2 x3 x4 x5 x6 x7 → g) : g := let ⟨x0, x1, x2, x3, x4, x5, x6, x7, z⟩ := h; k x0 x1 x2 x3 x4 x5 x6 x7 z
theorem ab0 {x : Bool} {P : Prop} (h : x = false) (k : x = true) : P := absurd (h.symm.trans k) (by decide)
@[reducible] def OB (A : Option Addr) (l : List Int) (c k : Nat) : Prop := some k ≠ (Value.slice A l.length c).ownBlock
theorem m0 {p : Prop} (h : p) : Aside0 p := ⟨h⟩
section
variable {α : Type} {d : Kd α} {e base : Nat} {w W W' w1 : World} {ok : Nat → Prop} {v : Value} {xs : List α} {g gb n c : Nat} {o : Obj} {A : Option Addr} {t : TypeId} {cs cs' : Array Value} {u : Value}
theorem va [f : Fw W W'] (h : Aside0 (Kd.V d e W base ok v xs)) (hb : Below W'.heap.size W' w1) : Aside0 (Kd.V d e w1 base ok v xs) := ⟨vb h.out hb⟩
theorem ra [f : Fw W W'] (h : Aside0 (Kd.R d e W base ok v xs)) (hb : Below W'.heap.size W' w1) : Aside0 (Kd.R d e w1 base ok v xs) := ⟨rb h.out hb⟩
theorem ba [f : Fw W W'] (h : Aside0 (W.heap[g]? = some o)) (hb : Below W'.heap.size W' w1) : Aside0 (w1.heap[g]? = some o) := ⟨bb h.out hb⟩
theorem bf [f : Fw W W'] (h : Aside0 (Below w.heap.size w W)) : Below w.heap.size w W' := below_step h.out f.le
theorem sa [f : Fw W W'] (h : Aside0 (Below w.heap.size w W)) (hb : Below W'.heap.size W' w1) : Aside0 (Below w.heap.size w w1) := ⟨bs h.out hb⟩
theorem vd (h : Aside0 (Kd.V d e W base ok v xs)) : Aside0 (Kd.V d e W.drew base ok v xs) := ⟨Kd.V_drew h.out⟩
theorem rd_ (h : Aside0 (Kd.R d e W base ok v xs)) : Aside0 (Kd.R d e W.drew base ok v xs) := ⟨Kd.R_drew h.out⟩
theorem bd (h : Aside0 (W.heap[g]? = some o)) : Aside0 (W.drew.heap[g]? = some o) := ⟨blk_drew h.out⟩
theorem sd (h : Aside0 (Below base w W)) : Aside0 (Below base w W.drew) := ⟨below_drew1 h.out⟩
theorem ve (h : Aside0 (Kd.V d e W base ok v xs)) (hg : g = W.heap.size) (hb : Below W.heap.size W w1) : Aside0 (Kd.V d e w1 base (fun k => ok k ∧ k ≠ g) v xs) := ⟨Kd.V_below (Kd.V_elderB h.out g (Nat.le_of_eq hg.symm)) hb⟩
theorem gz_ [f : Fw W W'] (h : Aside0 (Below w.heap.size w W)) (hg : g = W'.heap.size) : Aside0 (w.heap.size ≤ g) := ⟨hg ▸ bz h.out⟩
theorem n1 [f : Fw W W'] (h : Aside0 (W.heap[g]? = some o)) (hg : gb = W'.heap.size) : Aside0 (g ≠ gb) := ⟨hg ▸ Nat.ne_of_lt (Nat.lt_of_lt_of_le (blk_lt h.out) f.le.size)⟩
theorem n2 [f : Fw W W'] (h : Aside0 (W.heap[g]? = some o)) (hg : gb = W'.heap.size) : Aside0 (gb ≠ g) := ⟨hg ▸ Nat.ne_of_gt (Nat.lt_of_lt_of_le (blk_lt h.out) f.le.size)⟩
theorem bc (h : Aside0 (W.heap[g]? = some (.cells cs t (0, 0)))) (q : cs[0]? = some v := by rfl) : W.cell? ⟨g, 0, none⟩ = some v := (blk_cell h.out 0).trans q
theorem vl_ (h : Aside0 (Kd.V d e W base ok (.slice A n c) xs)) : n ≤ c := (Kd.V_reads' h.out).2.1
theorem rl_ (h : Aside0 (Kd.R d e W base ok (.slice A n c) xs)) : n ≤ c := (Kd.R_reads' h.out).2.1
theorem bw {p : Addr} [f : Fw W W'] (h : Aside0 (W.heap[g]? = some (.cells cs t (0, 0)))) (hp : Aside0 (g ≠ p.block)) : (W'.setCell p u).heap[g]? = some (.cells cs t (0, 0)) := blk_far (blk_below h.out f.le) hp.out u
theorem bp [f : Fw W W'] (h : Aside0 (W.heap[g]? = some (.cells cs t (0, 0)))) (q : cs.setIfInBounds 0 u = cs') : (W'.setCell ⟨g, 0, none⟩ u).heap[g]? = some (.cells cs' t (0, 0)) := blk_put (blk_below h.out f.le) 0 u q
theorem vt [f : Fw W W'] (h : Aside0 (Below w.heap.size w W)) (ho : Kd.V d e w1 W'.heap.size ok v xs) : Aside0 (Kd.V d e w1 w.heap.size (fun _ => True) v xs) := ⟨Kd.V_lower (Kd.V_mono ho (fun _ _ => trivial)) (bz h.out)⟩
theorem bq (h : Below w.heap.size w W := by repeat (first | (with_reducible first | exact Aside0.out (by assumption) | apply below_alloc | apply pw_below_drewN | apply below_drew1 | refine below_set ?_ (Aside0.out (by assumption))))) : Below w.heap.size w W := h
end
theorem gm {p : Prop} (h : p := by (try simp only [List.map_toArray, List.map_cons, List.map_nil]); first | done | rfl | (simp only [List.length_drop, List.length_take]; rfl)) : p := h
theorem sA {α : Type} (l : List α) (i : Nat) (a : α) : l.toArray.setIfInBounds i a = (l.set i a).toArray := List.setIfInBounds_toArray ..
theorem sB {α : Type} (a b : α) (l : List α) : (a :: l).set 0 b = b :: l := rfl
theorem sC {α : Type} (a b : α) (l : List α) (n : Nat) : (a :: l).set (n + 1) b = a :: l.set n b := rfl
theorem nf_ {p : Prop} (h : p := by first | (simp only [putAll, Act.put, sA, sB, sC]; done) | (simp only [putAll, Act.put, sA, sB, sC]; rfl)) : p := h
theorem rz {p : Prop} (h : p := by rfl) : p := h
theorem gs_ {p : Prop} (h : p := by first | (go_simp; done) | (go_simp; rfl)) : p := h
theorem kr {p : Prop} (h : p := by kernel_rfl) : p := h
@[reducible] def VS (e : Nat) (W w : World) (ok : Nat → Prop) (A : Option Addr) (c : Nat) (l : List Int) : Prop := Kd.V (Kd.int .u64) e W w.heap.size ok (.slice A l.length c) l
@[reducible] def VV (e : Nat) (W w : World) (ok : Nat → Prop) (v : Value) (l : List Int) : Prop := Kd.V (Kd.int .u64) e W w.heap.size ok v l
@[reducible] def N2 (a0 a1 k : Nat) : Prop := k ≠ a0 ∧ k ≠ a1
@[reducible] def O2 (A : Option Addr) (l : List Int) (c a0 a1 k : Nat) : Prop := OB A l c k ∧ k ≠ a0 ∧ k ≠ a1
@[reducible] def N3 (a0 a1 a2 k : Nat) : Prop := k ≠ a0 ∧ k ≠ a1 ∧ k ≠ a2
@[reducible] def N4 (a0 a1 a2 a3 k : Nat) : Prop := k ≠ a0 ∧ k ≠ a1 ∧ k ≠ a2 ∧ k ≠ a3
@[reducible] def N5 (a0 a1 a2 a3 a4 k : Nat) : Prop := k ≠ a0 ∧ k ≠ a1 ∧ k ≠ a2 ∧ k ≠ a3 ∧ k ≠ a4
@[reducible] def N6 (a0 a1 a2 a3 a4 a5 k : Nat) : Prop := k ≠ a0 ∧ k ≠ a1 ∧ k ≠ a2 ∧ k ≠ a3 ∧ k ≠ a4 ∧ k ≠ a5
@[reducible] def N7 (a0 a1 a2 a3 a4 a5 a6 k : Nat) : Prop := k ≠ a0 ∧ k ≠ a1 ∧ k ≠ a2 ∧ k ≠ a3 ∧ k ≠ a4 ∧ k ≠ a5 ∧ k ≠ a6
@[reducible] def N8 (a0 a1 a2 a3 a4 a5 a6 a7 k : Nat) : Prop := k ≠ a0 ∧ k ≠ a1 ∧ k ≠ a2 ∧ k ≠ a3 ∧ k ≠ a4 ∧ k ≠ a5 ∧ k ≠ a6 ∧ k ≠ a7
@[reducible] def N9 (a0 a1 a2 a3 a4 a5 a6 a7 a8 k : Nat) : Prop := k ≠ a0 ∧ k ≠ a1 ∧ k ≠ a2 ∧ k ≠ a3 ∧ k ≠ a4 ∧ k ≠ a5 ∧ k ≠ a6 ∧ k ≠ a7 ∧ k ≠ a8
@[reducible] def O9 (A : Option Addr) (l : List Int) (c a0 a1 a2 a3 a4 a5 a6 a7 a8 k : Nat) : Prop := OB A l c k ∧ k ≠ a0 ∧ k ≠ a1 ∧ k ≠ a2 ∧ k ≠ a3 ∧ k ≠ a4 ∧ k ≠ a5 ∧ k ≠ a6 ∧ k ≠ a7 ∧ k ≠ a8
end Go.Proofs.YtebjbmgfbejapaaX
