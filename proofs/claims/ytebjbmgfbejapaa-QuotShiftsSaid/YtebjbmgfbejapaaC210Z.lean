import Derived.Test.YtebjbmgfbejapaaC210X
import Derived.ScopeJumps
import Derived.WalkMore
import Derived.Deep.LoopGhost
namespace Go.Proofs.YtebjbmgfbejapaaX
open Go.RowKit Go.Proofs.YtebjbmgfbejapaaW.PrintWords Go.Proofs.YtebjbmgfbejapaaW.PrintLast Go.Proofs.YtebjbmgfbejapaaW.PrintMore
set_option linter.unusedVariables false
theorem wp_scope_label {P : Program} {Q : Exit → Act → World → Prop} {a : Act} {w : World} {c r : Code} (l : Nat) (I : Nat → Act → World → Prop) (hf : findLabel c l = some (Code.skip.seq r))
    (pass : ∀ n a w, I n a w → ∀ K : Act → World → Prop, (∀ m a' w', m < n → I m a' w' → K a' w') → r.wp P (Exit.jump l K Q) a w)
    (first : ∀ J : Act → World → Prop, (∀ n a w, I n a w → r.wp P (Exit.jump l J Q) a w) → c.wp P (Exit.jump l J Q) a w) : (Code.scope c).wp P Q a w := by
  refine wp_scope_jumps l (fun a w => ∃ n, I n a w) (fun a w => leastOf (fun n => I n a w)) hf ?_ ?_
  · exact first _ (fun n a w h => pass n a w h _ (fun m a' w' _ h' => ⟨m, h'⟩))
  · intro a w h
    refine wp_seq (wp_skip ?_)
    exact pass (leastOf (fun n => I n a w)) a w (leastOf_spec h).1 _ (fun m a' w' hm hI => ⟨⟨m, hI⟩, Nat.lt_of_le_of_lt ((leastOf_spec ⟨m, hI⟩).2 m hI) hm⟩)
theorem jump_goto {l : Nat} {K : Act → World → Prop} {Q : Exit → Act → World → Prop} {a : Act} {w : World} (h : K a w) : Exit.jump l K Q (.goto l) a w := ⟨rfl, h⟩
theorem jump_ret {l : Nat} {K : Act → World → Prop} {Q : Exit → Act → World → Prop} {a : Act} {w : World} (h : Q .ret a w) : Exit.jump l K Q .ret a w := h
theorem xw_add2 (a : Addr) (m n : Nat) : (a.add m).add n = a.add (m + n) := by
  unfold Addr.add
  by_cases h1 : m = 0
  · subst h1
    simp
  · by_cases h2 : n = 0
    · subst h2
      simp [h1]
    · have h3 : ¬ m + n = 0 := by omega
      simp [h1, h2, Nat.add_assoc]
theorem C_win {k : IntKind} {w : World} {A : Option Addr} {L : List Int} (h : Kd.C (Kd.int k) w A L.length L) (lo hi : Nat) (h1 : lo < hi) (h2 : hi ≤ L.length) :
    ∃ ad, A = some ad ∧ Kd.C (Kd.int k) w (some (ad.add lo)) ((L.take hi).drop lo).length ((L.take hi).drop lo) := by
  obtain ⟨ad, e, _⟩ := Kd.at_int h 0 (by omega) (by omega)
  subst e
  have hlen : ((L.take hi).drop lo).length = hi - lo := by rw [List.length_drop, List.length_take]; omega
  refine ⟨ad, rfl, rfl, by have := h.2.1; rw [hlen]; omega, fun _ => ⟨_, rfl, fun j p hj => ⟨[.int k p], rfl, rfl, fun i u hi' => ?_⟩⟩⟩
  have hj1 : j < ((L.take hi).drop lo).length := (List.getElem?_eq_some_iff.1 hj).1
  have hi0 : i = 0 := by
    have := (List.getElem?_eq_some_iff.1 hi').1
    simp at this
    exact this
  subst hi0
  have hu : Value.int k p = u := by simpa using hi'
  subst hu
  obtain ⟨ad', e', hc⟩ := Kd.at_int h ((lo + j : Nat) : Int) (by omega) (by omega)
  obtain rfl : ad = ad' := by injection e'
  have hs : (Kd.int k).sz = 1 := rfl
  rw [xw_add2, hs, Nat.mul_one, Nat.add_zero]
  rw [Int.toNat_natCast] at hc
  rw [hc]
  have hp : rd L ((lo + j : Nat) : Int) = p := by
    rw [List.getElem?_drop, List.getElem?_take_of_lt (by omega)] at hj
    unfold rd
    rw [Int.toNat_natCast, List.getD_eq_getElem?_getD, hj]
    rfl
  rw [hp]
end Go.Proofs.YtebjbmgfbejapaaX
