import Derived.Test.YtebjbmgfbejapaaC2637X
namespace Go.Proofs.YtebjbmgfbejapaaX
open Go.RowKit Go.Proofs.YtebjbmgfbejapaaW.PrintWords Go.Proofs.YtebjbmgfbejapaaW.PrintLast Go.Proofs.YtebjbmgfbejapaaW.PrintMore
theorem and7A {p1 p2 p3 p4 p5 p6 r g : Prop} (h : p1 ∧ p2 ∧ p3 ∧ p4 ∧ p5 ∧ p6 ∧ r) (k : Aside0 p1 → Aside0 p2 → Aside0 p3 → Aside0 p4 → Aside0 p5 → Aside0 p6 → r → g) : g := k ⟨h.1⟩ ⟨h.2.1⟩ ⟨h.2.2.1⟩ ⟨h.2.2.2.1⟩ ⟨h.2.2.2.2.1⟩ ⟨h.2.2.2.2.2.1⟩ h.2.2.2.2.2.2
theorem and8 {p1 p2 p3 p4 p5 p6 p7 r g : Prop} (h : p1 ∧ p2 ∧ p3 ∧ p4 ∧ p5 ∧ p6 ∧ p7 ∧ r) (k : p1 → p2 → p3 → p4 → p5 → p6 → p7 → r → g) : g := k h.1 h.2.1 h.2.2.1 h.2.2.2.1 h.2.2.2.2.1 h.2.2.2.2.2.1 h.2.2.2.2.2.2.1 h.2.2.2.2.2.2.2
theorem and8A {p1 p2 p3 p4 p5 p6 p7 r g : Prop} (h : p1 ∧ p2 ∧ p3 ∧ p4 ∧ p5 ∧ p6 ∧ p7 ∧ r) (k : Aside0 p1 → Aside0 p2 → Aside0 p3 → Aside0 p4 → Aside0 p5 → Aside0 p6 → Aside0 p7 → r → g) : g := k ⟨h.1⟩ ⟨h.2.1⟩ ⟨h.2.2.1⟩ ⟨h.2.2.2.1⟩ ⟨h.2.2.2.2.1⟩ ⟨h.2.2.2.2.2.1⟩ ⟨h.2.2.2.2.2.2.1⟩ h.2.2.2.2.2.2.2
theorem ex1_ {a0 : Type} {P : a0 → Prop} {g : Prop} (h : ∃ x0, P x0) (k : ∀ x0, P x0 → g) : g := let ⟨x0, z⟩ := h; k x0 z
theorem ex8_ {a0 a1 a2 a3 a4 a5 a6 a7 : Type} {P : a0 → a1 → a2 → a3 → a4 → a5 → a6 → a7 → Prop} {g : Prop} (h : ∃ x0 x1 x2 x3 x4 x5 x6 x7, P x0 x1 x2 x3 x4 x5 x6 x7) (k : ∀ x0 x1 x2 x3 x4 x5 x6 x7, P x0 x1 x2 x3 x4 x5 x6 x7 → g) : g := let ⟨x0, x1, x2, x3, x4, x5, x6, x7, z⟩ := h; k x0 x1 x2 x3 x4 x5 x6 x7 z
theorem ab0 {x : Bool} {P : Prop} (h : x = false) (k : x = true) : P := absurd (h.symm.trans k) (by decide)
@[reducible] def OB (A : Option Addr) (l : List Int) (c k : Nat) : Prop := some k ≠ (Value.slice A l.length c).ownBlock
end Go.Proofs.YtebjbmgfbejapaaX
