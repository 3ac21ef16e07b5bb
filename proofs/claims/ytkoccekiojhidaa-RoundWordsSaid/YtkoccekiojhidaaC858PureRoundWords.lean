import Derived.Test.YtkoccekiojhidaaC858JM7
import Derived.Test.YtkoccekiojhidaaC858D
namespace Go.Proofs.Ytkoccekiojhidaa.Pure
open Go.RowKit Go.Proofs.Ytkoccekiojhidaa.F Go.Proofs.YtkoccekiojhidaaW.PrintWords Go.Proofs.YtkoccekiojhidaaW.PrintLast Go.Proofs.YtkoccekiojhidaaM
set_option linter.unusedVariables false
def W5:List ByteArray:=[⟨#[100,111,119,110]⟩,⟨#[117,112]⟩,⟨#[104,97,108,102,45,117,112]⟩,⟨#[104,97,108,102,45,100,111,119,110]⟩,⟨#[104,97,108,102,45,101,118,101,110]⟩]
def w5 (i:Nat):ByteArray:=rdOf ByteArray.empty W5 (i:Int)
def IsAt (s:ByteArray) (j:Int):Prop:=∀ i:Nat,i < 5→((w5 i).toList=s.toList ↔ (i:Int)=j)
theorem w5_at : ∀ i:Nat,i < 5→IsAt (w5 i) i:=by
  have h : ∀ i:Fin 5,∀ i':Fin 5,((w5 i').toList=(w5 i).toList ↔ ((i':Nat):Int)=((i:Nat):Int)):=by decide +kernel
  intro i hi i' hi'
  exact h ⟨i,hi⟩ ⟨i',hi'⟩
theorem idx_ev {s:ByteArray} {j:Int} (h:IsAt s j) : ∀ t i:Nat,i + t=5→(j = -1∨(i:Int)≤j∧j < 5)→Ev (fun k=>slices_Index_string_string.l0 k W5 s 5 (i:Int)) j:=by
  intro t
  induction t with
  | zero =>
    intro i hi hj
    obtain rfl:i=5:=by omega
    refine Ev.unroll ?_
    simp only [slices_Index_string_string.l0]
    refine Ev.neg (by omega) (Ev.const ?_)
    congr 1
    omega
  | succ t ih =>
    intro i hi hj
    have hi5:i < 5:=by omega
    have hw:wrap64 ((i:Int) + 1)=((i + 1:Nat):Int):=by unfold wrap64;omega
    have hh:=h i hi5
    refine Ev.unroll ?_
    simp only [slices_Index_string_string.l0]
    refine Ev.pos (by omega) (Ev.pos (by omega) (Ev.pos (by show (i:Int) < 5;omega) ?_))
    by_cases e:(i:Int)=j
    · exact Ev.pos (hh.2 e).symm (Ev.const (by rw [e]))
    · refine Ev.neg (fun x=>e (hh.1 x.symm)) ?_
      rw [hw]
      exact ih (i + 1) (by omega) (by omega)
theorem of_ev {s:ByteArray} {j:Int} (h:IsAt s j) (hj:j = -1∨0≤j∧j < 5):Ev (fun k=>round_Of.f k s) (mx j 0,decide (j ≥ 0)):=by
  unfold round_Of.f
  refine Ev.bindc (x:=W5) rfl (Ev.bind (a:=j) ?_ (Ev.const rfl))
  exact idx_ev h 5 0 rfl hj
theorem word_ev : ∀ i:Nat,i < 5→round_Mode_Word.f (i:Int)=some (w5 i):=by
  have h : ∀ i:Fin 5,round_Mode_Word.f ((i:Nat):Int)=some (w5 i):=by decide +kernel
  intro i hi
  exact h ⟨i,hi⟩
theorem empty_text:((⟨#[]⟩:ByteArray).toList == ([]:List UInt8))=true:=by decide +kernel
theorem mx_zero {j:Int}:mx j 0=if j ≥ 0 then j else 0:=by unfold mx;split <;> split <;> omega
theorem words_l0 {s:ByteArray} {n j:Int} (h:IsAt s j) (hj:j = -1∨0≤j∧j < 5) : ∀ t i:Nat,i + t=5→Ev (fun k=>chattellaw06_RoundWords.l0 k s n (if j < (i:Int) then j else -1) W5 5 (i:Int)) true:=by
  intro t
  induction t with
  | zero =>
    intro i hi
    obtain rfl:i=5:=by omega
    rw [if_pos (by omega)]
    refine Ev.unroll ?_
    simp only [chattellaw06_RoundWords.l0]
    refine Ev.neg (by omega) (Ev.bind (of_ev h hj) (Ev.bind wakes6 (Ev.pos rfl (Ev.pos (by simp) (Ev.pos rfl ?_)))))
    have out:n < 0∨¬ n < 5→round_Mode_Word.f n=some (⟨#[]⟩:ByteArray):=by
      intro ho
      unfold round_Mode_Word.f round_Mode_good.f
      by_cases h0:n ≥ 0
      · rw [if_pos h0,Option.bind_some,decide_eq_false (by omega),if_neg (by decide)]
      · rw [if_neg h0,Option.bind_some,if_neg (by decide)]
    by_cases h0:n ≥ 0
    · refine Ev.pos h0 ?_
      by_cases h1:n < 5
      · exact Ev.pos h1 (Ev.const rfl)
      · exact Ev.neg h1 (Ev.bindc (out (.inr h1)) (Ev.const (congrArg some empty_text)))
    · exact Ev.neg h0 (Ev.bindc (out (.inl (by omega))) (Ev.const (congrArg some empty_text)))
  | succ t ih =>
    intro i hi
    have hi5:i < 5:=by omega
    have hw:wrap64 ((i:Int) + 1)=((i + 1:Nat):Int):=by unfold wrap64;omega
    have hc:=ih (i + 1) (by omega)
    rw [← hw] at hc
    have ho:=of_ev (w5_at i hi5) (by omega)
    have e1:mx (i:Int) 0=(i:Int):=by rw [mx_zero,if_pos (by omega)]
    have e2:decide ((i:Int) ≥ 0)=true:=decide_eq_true (by omega)
    rw [e1,e2] at ho
    refine Ev.unroll ?_
    simp only [chattellaw06_RoundWords.l0]
    refine Ev.pos (by omega) (Ev.pos (by omega) (Ev.pos (by show (i:Int) < 5;omega) ?_))
    refine Ev.bind (a:=((i:Int),true)) ho (Ev.pos rfl (Ev.pos rfl (Ev.bindc (word_ev i hi5) ?_)))
    have e3:((w5 i).toList != (rdOf ByteArray.empty W5 (i:Int)).toList)=false:=by
      show ((w5 i).toList != (w5 i).toList)=false
      simp
    rw [e3]
    refine Ev.unroll ?_
    simp only [chattellaw06_RoundWords.j1]
    refine Ev.neg (by decide) ?_
    have hh:=h i hi5
    by_cases e:(i:Int)=j
    · refine Ev.pos (hh.2 e) ?_
      rw [if_pos (by omega),← e] at hc
      exact hc
    · refine Ev.neg (fun x=>e (hh.1 x)) ?_
      have:(if j < (i:Int) then j else -1)=(if j < ((i + 1:Nat):Int) then j else -1):=by
        split <;> split <;> omega
      rw [this]
      rw [hw] at hc ⊢
      exact hc
theorem some_at (s:ByteArray) : ∃ j:Int,(j = -1∨0≤j∧j < 5)∧IsAt s j:=by
  by_cases h : ∃ i:Nat,i < 5∧(w5 i).toList=s.toList
  · obtain ⟨i,hi,e⟩:=h
    refine ⟨i,by omega,fun i' hi'=>?_⟩
    rw [← e]
    exact w5_at i hi i' hi'
  · refine ⟨-1, .inl rfl,fun i hi=>⟨fun e=>absurd ⟨i,hi,e⟩ h,fun e=>by omega⟩⟩
theorem RoundWords:chattellaw06_RoundWords.Pure:=by
  intro s n _ _
  obtain ⟨j,hj,h⟩:=some_at s
  have hl:=words_l0 (n:=n) h hj 5 0 rfl
  rw [show (if j < ((0:Nat):Int) then j else -1)=(-1:Int) by split <;> omega] at hl
  refine Ev.rounds ?_
  unfold chattellaw06_RoundWords.f
  exact Ev.bindc (x:=W5) rfl hl
end Go.Proofs.Ytkoccekiojhidaa.Pure
