-- Joined of: M0 M1 PureCountWords
import Derived.Test.YtelfpflfikaloaaC591WMore
import Derived.Test.YtelfpflfikaloaaC591D
import Derived.Laws.Bits64b
section
namespace Go.Proofs.YtelfpflfikaloaaM
open Go.RowKit Go.Proofs.YtelfpflfikaloaaW.PrintWords Go.Proofs.YtelfpflfikaloaaW.PrintLast Go.Proofs.YtelfpflfikaloaaW.PrintMore
set_option linter.unusedVariables false
set_option linter.unusedSimpArgs false
def wf (B:Int) (l:List Int):Prop:=∀ x ∈ l,0≤x∧x < B
def vl (B:Int):List Int→Int
  | []=>0
  | x :: xs=>x + B * vl B xs
theorem wf_cons {B x:Int} {l:List Int}:wf B (x :: l) ↔ (0≤x∧x < B)∧wf B l:=by
  unfold wf
  simp only [List.mem_cons,forall_eq_or_imp]
theorem wf_take {B:Int} {l:List Int} (h:wf B l) (n:Nat):wf B (l.take n):=fun x hx=>h x (List.mem_of_mem_take hx)
theorem vl_append (B:Int) (a b:List Int):vl B (a ++ b)=vl B a + B ^ a.length * vl B b:=by
  induction a with
  | nil=>simp [vl]
  | cons x a ih =>
    simp only [List.cons_append,vl,ih,List.length_cons,Int.pow_succ]
    grind
theorem vl_nonneg {B:Int} (hB:0 < B) {l:List Int} (h:wf B l):0≤vl B l:=by
  induction l with
  | nil=>exact Int.le_refl 0
  | cons x l ih =>
    obtain ⟨h1,h2⟩:=wf_cons.1 h
    have:=Int.mul_nonneg (Int.le_of_lt hB) (ih h2)
    simp only [vl]
    omega
theorem vl_take_succ (B:Int) (l:List Int) (i:Nat):vl B (l.take (i + 1))=vl B (l.take i) + B ^ i * l.getD i 0:=by
  rcases Nat.lt_or_ge i l.length with hi|hi
  · rw [List.take_succ_eq_append_getElem hi,vl_append,List.length_take,Nat.min_eq_left (Nat.le_of_lt hi),List.getD_eq_getElem?_getD,List.getElem?_eq_getElem hi]
    simp [vl]
  · rw [List.take_of_length_le hi,List.take_of_length_le (by omega),List.getD_eq_getElem?_getD,List.getElem?_eq_none hi]
    simp
theorem vl_take_ge (B:Int) (l:List Int) (i:Nat) (h:l.length≤i):vl B (l.take i)=vl B l:=by rw [List.take_of_length_le h]
theorem getD_set_ne (l:List Int) (i j:Nat) (x d:Int) (h:i≠j):(l.set i x).getD j d=l.getD j d:=by
  rw [List.getD_eq_getElem?_getD,List.getElem?_set_ne h,List.getD_eq_getElem?_getD]
def dg (B n:Nat):List Int:=if h:n=0∨B < 2 then [] else ((n % B:Nat):Int) :: dg B (n / B)
termination_by n
decreasing_by exact Nat.div_lt_self (by omega) (by omega)
theorem dg_zero (B:Nat):dg B 0 = []:=by rw [dg];simp
theorem dg_pos {B n:Nat} (hB:2≤B) (hn:n≠0):dg B n=((n % B:Nat):Int) :: dg B (n / B):=by
  rw [dg,dif_neg (by omega)]
theorem dg_of {B:Nat} (hB:2≤B) {l:List Int} (h:wf (B:Int) l) (hl : ∀ (hne:l≠[]),l.getLast hne≠0):dg B (vl (B:Int) l).toNat=l:=by
  induction l with
  | nil=>simp [vl,dg_zero]
  | cons x l ih =>
    obtain ⟨h1,h2⟩:=wf_cons.1 h
    have hv:=vl_nonneg (B:=(B:Int)) (by omega) h2
    have ih':=ih h2 (fun hne=>by
      have:=hl (List.cons_ne_nil x l)
      rwa [List.getLast_cons hne] at this)
    obtain ⟨X,rfl⟩:=Int.eq_ofNat_of_zero_le h1.1
    obtain ⟨V,hV⟩:=Int.eq_ofNat_of_zero_le hv
    rw [hV] at ih'
    simp only [Int.toNat_natCast] at ih'
    have e1:(vl (B:Int) ((X:Int) :: l)).toNat=X + B * V:=by
      simp only [vl,hV]
      omega
    have hX:X < B:=by omega
    have hne:X + B * V≠0:=by
      intro h0
      have hX0:X=0:=by omega
      have hV0:V=0:=by
        have h3:B * V=0:=by omega
        rcases Nat.mul_eq_zero.1 h3 with h4|h4
        · omega
        · exact h4
      subst hV0
      rw [dg_zero] at ih'
      subst ih'
      have:=hl (List.cons_ne_nil _ _)
      simp at this
      omega
    rw [e1,dg_pos hB hne,Nat.add_mul_mod_self_left,Nat.mod_eq_of_lt hX,Nat.add_mul_div_left _ _ (by omega),Nat.div_eq_of_lt hX,Nat.zero_add,ih']
theorem wrap_id {x:Int} (h : -9223372036854775808≤x∧x≤9223372036854775807):wrap64 x=x:=by unfold wrap64;omega
theorem rd_nat (l:List Int) (i:Nat):rd l (i:Int)=l.getD i 0:=by unfold rd;rw [Int.toNat_natCast]
end Go.Proofs.YtelfpflfikaloaaM
end

section
namespace Go.Proofs.YtelfpflfikaloaaM
open Go.RowKit Go.Proofs.YtelfpflfikaloaaW.PrintWords Go.Proofs.YtelfpflfikaloaaW.PrintLast Go.Proofs.YtelfpflfikaloaaW.PrintMore Go.Proofs.YtelfpflfikaloaaX Go.Proofs.Ytelfpflfikaloaa.F
set_option linter.unusedVariables false
set_option linter.unusedSimpArgs false
theorem Ev.unroll {α:Type} {g:Nat→Option α} {r:α} (h:Ev (fun k=>g (k + 1)) r):Ev g r:=Ev.step (fun _=>rfl) h
theorem Ev.pos {α:Type} {a b:Nat→Option α} {r:α} {c:Prop} [Decidable c] (h:c) (e:Ev a r):Ev (fun k=>if c then a k else b k) r:=by
  simp only [if_pos h];exact e
theorem Ev.neg {α:Type} {a b:Nat→Option α} {r:α} {c:Prop} [Decidable c] (h : ¬ c) (e:Ev b r):Ev (fun k=>if c then a k else b k) r:=by
  simp only [if_neg h];exact e
theorem Ev.const {α:Type} {a:Option α} {r:α} (h:a=some r):Ev (fun _=>a) r:=⟨0,fun _ _=>h⟩
theorem Ev.bindc {α β:Type} {a:Option α} {x:α} {f:Nat→α→Option β} {r:β} (h:a=some x) (e:Ev (fun k=>f k x) r):Ev (fun k=>a.bind (f k)) r:=by
  subst h;exact e
theorem Ev.lt {α:Type} {g:Nat→Option α} {r:α} (n:Nat) (h : ∀ k,n < k→g k=some r):Ev g r:=⟨n + 1,fun k hk=>h k hk⟩
theorem clone_eq (l:List Int) (h:l.length < 17592186044416):slices_Clone_uint64_uint64.f l=some l:=by
  unfold slices_Clone_uint64_uint64.f
  simp [h]
abbrev W:Nat:=18446744073709551616
theorem W2:2≤W:=by decide
def lim (n:Nat):List Int:=dg W n
abbrev wfW (l:List Int):Prop:=wf ((W:Nat):Int) l
abbrev vW (l:List Int):Int:=vl ((W:Nat):Int) l
theorem trimmed_l0 (x:List Int) (hx:wfW x) (hl:x.length < 4611686018427387904) : ∀ n:Nat,n≤x.length→vW (x.take n)=vW x→∀ k,n < k→nat_trimmed.l0 k x (n:Int)=some (lim (vW x).toNat):=by
  intro n
  induction n with
  | zero =>
    intro hn hv k hk
    obtain ⟨k,rfl⟩ : ∃ m,k=m + 1:=⟨k - 1,by omega⟩
    simp only [nat_trimmed.l0]
    rw [if_neg (by omega),if_pos (by omega),if_pos (by omega)]
    have:vW x=0:=by rw [← hv];rfl
    rw [this]
    show some (x.take 0)=some (dg W 0)
    rw [dg_zero]
    rfl
  | succ n ih =>
    intro hn hv k hk
    obtain ⟨k,rfl⟩ : ∃ m,k=m + 1:=⟨k - 1,by omega⟩
    have e1:wrap64 (((n + 1:Nat):Int) - 1)=(n:Int):=by rw [wrap_id (by omega)];omega
    simp only [nat_trimmed.l0]
    rw [if_pos (by omega),e1,if_pos (by omega),if_pos (by omega),rd_nat]
    by_cases h0:x.getD n 0=0
    · rw [if_pos h0]
      refine ih (by omega) ?_ k (by omega)
      rw [← hv]
      show vl _ _=vl _ _
      rw [vl_take_succ,h0,Int.mul_zero,Int.add_zero]
    · rw [if_neg h0,if_pos (by omega),if_pos (by omega),Int.toNat_natCast]
      have h1:=dg_of W2 (wf_take hx (n + 1)) (fun hne=>by
        have h2:(x.take (n + 1)).getLast hne=x.getD n 0:=by
          have h3:(x.take (n + 1)).length=n + 1:=by rw [List.length_take];omega
          rw [List.getLast_eq_getElem,List.getElem_take,List.getD_eq_getElem?_getD,List.getElem?_eq_getElem (by omega)]
          simp [h3]
        rw [h2];exact h0)
      rw [← h1]
      show some (lim _)=_
      rw [show vl ((W:Nat):Int) (x.take (n + 1))=vW x from hv]
theorem trimmed_ev (x:List Int) (hx:wfW x) (hl:x.length < 4611686018427387904):Ev (fun k=>nat_trimmed.f k x) (lim (vW x).toNat):=by
  refine Ev.lt x.length (fun k hk=>?_)
  unfold nat_trimmed.f
  exact trimmed_l0 x hx hl x.length (Nat.le_refl _) (vl_take_ge _ _ _ (Nat.le_refl _)) k hk
theorem of_ev (l:List Int) (hx:wfW l) (h:l.length < 17592186044416):Ev (fun k=>nat_Of.f k l) (lim (vW l).toNat):=by
  unfold nat_Of.f
  rw [clone_eq l h]
  exact Ev.bind (f:=fun _ t=>some t) (trimmed_ev l hx (by omega)) (Ev.now _)
theorem add64 {x y c:Int} (hx:0≤x) (hy:0≤y) (hc:0≤c):add64s x y c=(x + y + c) % 18446744073709551616∧add64c x y c=(x + y + c) / 18446744073709551616:=by
  unfold add64s add64c
  omega
structure AddInv (a b x:List Int) (c:Int) (n i:Nat):Prop where
  w:wfW x
  len:x.length=n
  c0:0≤c∧c≤1
  z : ∀ j,i≤j→x.getD j 0=0
  v:vW x + c * ((W:Nat):Int) ^ i=vW (a.take i) + vW (b.take i)
end Go.Proofs.YtelfpflfikaloaaM
end

section
namespace Go.Proofs.Ytelfpflfikaloaa.Pure
open Go.RowKit Go.Proofs.Ytelfpflfikaloaa.F Go.Proofs.YtelfpflfikaloaaW.PrintWords Go.Proofs.YtelfpflfikaloaaW.PrintLast Go.Proofs.YtelfpflfikaloaaM
set_option linter.unusedVariables false
theorem wakes11:Ev (fun k=>chattellaw11_wakes.f k) true:=Ev.of (fun k=>chattellaw11_wakes.mono k) (k:=60) (by decide +kernel)
def W3:List ByteArray:=[⟨#[116,104,105,114,116,121]⟩,⟨#[102,105,120,101,100]⟩,⟨#[97,99,116,117,97,108]⟩]
def w3 (i:Nat):ByteArray:=rdOf ByteArray.empty W3 (i:Int)
def IsAt (s:ByteArray) (j:Int):Prop:=∀ i:Nat,i < 3→((w3 i).toList=s.toList ↔ (i:Int)=j)
theorem w3_at : ∀ i:Nat,i < 3→IsAt (w3 i) i:=by
  have h : ∀ i:Fin 3,∀ i':Fin 3,((w3 i').toList=(w3 i).toList ↔ ((i':Nat):Int)=((i:Nat):Int)):=by decide +kernel
  intro i hi i' hi'
  exact h ⟨i,hi⟩ ⟨i',hi'⟩
theorem idx_ev {s:ByteArray} {j:Int} (h:IsAt s j) : ∀ t i:Nat,i + t=3→(j = -1∨(i:Int)≤j∧j < 3)→Ev (fun k=>slices_Index_string_string.l0 k W3 s 3 (i:Int)) j:=by
  intro t
  induction t with
  | zero =>
    intro i hi hj
    obtain rfl:i=3:=by omega
    refine Ev.unroll ?_
    simp only [slices_Index_string_string.l0]
    refine Ev.neg (by omega) (Ev.const ?_)
    congr 1
    omega
  | succ t ih =>
    intro i hi hj
    have hi3:i < 3:=by omega
    have hw:wrap64 ((i:Int) + 1)=((i + 1:Nat):Int):=by unfold wrap64;omega
    have hh:=h i hi3
    refine Ev.unroll ?_
    simp only [slices_Index_string_string.l0]
    refine Ev.pos (by omega) (Ev.pos (by omega) (Ev.pos (by show (i:Int) < 3;omega) ?_))
    by_cases e:(i:Int)=j
    · exact Ev.pos (hh.2 e).symm (Ev.const (by rw [e]))
    · refine Ev.neg (fun x=>e (hh.1 x.symm)) ?_
      rw [hw]
      exact ih (i + 1) (by omega) (by omega)
theorem of_ev {s:ByteArray} {j:Int} (h:IsAt s j) (hj:j = -1∨0≤j∧j < 3):Ev (fun k=>count_Of.f k s) (mx j 0,decide (j ≥ 0)):=by
  unfold count_Of.f
  refine Ev.bindc (x:=W3) rfl (Ev.bind (a:=j) ?_ (Ev.const rfl))
  exact idx_ev h 3 0 rfl hj
theorem word_ev : ∀ i:Nat,i < 3→count_Basis_Word.f (i:Int)=some (w3 i):=by
  have h : ∀ i:Fin 3,count_Basis_Word.f ((i:Nat):Int)=some (w3 i):=by decide +kernel
  intro i hi
  exact h ⟨i,hi⟩
theorem empty_text:((⟨#[]⟩:ByteArray).toList == ([]:List UInt8))=true:=by decide +kernel
theorem mx_zero {j:Int}:mx j 0=if j ≥ 0 then j else 0:=by unfold mx;split <;> split <;> omega
theorem words_l0 {s:ByteArray} {n j:Int} (h:IsAt s j) (hj:j = -1∨0≤j∧j < 3) : ∀ t i:Nat,i + t=3→Ev (fun k=>chattellaw11_CountWords.l0 k s n (if j < (i:Int) then j else -1) W3 3 (i:Int)) true:=by
  intro t
  induction t with
  | zero =>
    intro i hi
    obtain rfl:i=3:=by omega
    rw [if_pos (by omega)]
    refine Ev.unroll ?_
    simp only [chattellaw11_CountWords.l0]
    refine Ev.neg (by omega) (Ev.bind (of_ev h hj) (Ev.bind wakes11 (Ev.pos rfl (Ev.pos (by simp) (Ev.pos rfl ?_)))))
    have out:n < 0∨¬ n < 3→count_Basis_Word.f n=some (⟨#[]⟩:ByteArray):=by
      intro ho
      unfold count_Basis_Word.f count_Basis_good.f
      by_cases h0:n ≥ 0
      · rw [if_pos h0,Option.bind_some,decide_eq_false (by omega),if_neg (by decide)]
      · rw [if_neg h0,Option.bind_some,if_neg (by decide)]
    by_cases h0:n ≥ 0
    · refine Ev.pos h0 ?_
      by_cases h1:n < 3
      · exact Ev.pos h1 (Ev.const rfl)
      · exact Ev.neg h1 (Ev.bindc (out (.inr h1)) (Ev.const (congrArg some empty_text)))
    · exact Ev.neg h0 (Ev.bindc (out (.inl (by omega))) (Ev.const (congrArg some empty_text)))
  | succ t ih =>
    intro i hi
    have hi3:i < 3:=by omega
    have hw:wrap64 ((i:Int) + 1)=((i + 1:Nat):Int):=by unfold wrap64;omega
    have hc:=ih (i + 1) (by omega)
    rw [← hw] at hc
    have ho:=of_ev (w3_at i hi3) (by omega)
    have e1:mx (i:Int) 0=(i:Int):=by rw [mx_zero,if_pos (by omega)]
    have e2:decide ((i:Int) ≥ 0)=true:=decide_eq_true (by omega)
    rw [e1,e2] at ho
    refine Ev.unroll ?_
    simp only [chattellaw11_CountWords.l0]
    refine Ev.pos (by omega) (Ev.pos (by omega) (Ev.pos (by show (i:Int) < 3;omega) ?_))
    refine Ev.bind (a:=((i:Int),true)) ho (Ev.pos rfl (Ev.pos rfl (Ev.bindc (word_ev i hi3) ?_)))
    have e3:((w3 i).toList != (rdOf ByteArray.empty W3 (i:Int)).toList)=false:=by
      show ((w3 i).toList != (w3 i).toList)=false
      simp
    rw [e3]
    refine Ev.unroll ?_
    simp only [chattellaw11_CountWords.j1]
    refine Ev.neg (by decide) ?_
    have hh:=h i hi3
    by_cases e:(i:Int)=j
    · refine Ev.pos (hh.2 e) ?_
      rw [if_pos (by omega),← e] at hc
      exact hc
    · refine Ev.neg (fun x=>e (hh.1 x)) ?_
      have:(if j < (i:Int) then j else -1)=(if j < ((i + 1:Nat):Int) then j else -1):=by
        split <;> split <;> omega
      rw [this]
      rw [hw] at hc ⊢
      exact hc
theorem some_at (s:ByteArray) : ∃ j:Int,(j = -1∨0≤j∧j < 3)∧IsAt s j:=by
  by_cases h : ∃ i:Nat,i < 3∧(w3 i).toList=s.toList
  · obtain ⟨i,hi,e⟩:=h
    refine ⟨i,by omega,fun i' hi'=>?_⟩
    rw [← e]
    exact w3_at i hi i' hi'
  · refine ⟨-1, .inl rfl,fun i hi=>⟨fun e=>absurd ⟨i,hi,e⟩ h,fun e=>by omega⟩⟩
theorem CountWords:chattellaw11_CountWords.Pure:=by
  intro s n _ _
  obtain ⟨j,hj,h⟩:=some_at s
  have hl:=words_l0 (n:=n) h hj 3 0 rfl
  rw [show (if j < ((0:Nat):Int) then j else -1)=(-1:Int) by split <;> omega] at hl
  refine Ev.rounds ?_
  unfold chattellaw11_CountWords.f
  exact Ev.bindc (x:=W3) rfl hl
end Go.Proofs.Ytelfpflfikaloaa.Pure
end
