import Derived.Test.YtakidmbnkkhojaaGreatCaf9JM5
import Derived.Test.YtakidmbnkkhojaaGreatCaf9Sp14
namespace Go.Proofs.YtakidmbnkkhojaaGreatM
open Go.RowKit Go.Proofs.YtakidmbnkkhojaaGreat
set_option linter.unusedVariables false
set_option linter.unusedSimpArgs false
def lstD (a:D3) (L:List D3):D3:=L.foldl (fun _ x=>x) a
theorem chain_snoc (y:D3) : ∀ (L:List D3) (a:D3),chainD a (L ++ [y])=chainD a L ++ (if y=lstD a L then [] else [(lstD a L,y)])
  | [],a=>by by_cases h:y=a <;> simp [chainD,lstD,h]
  | x :: L,a=>by
    have ih:=chain_snoc y L x
    show chainD a (x :: (L ++ [y]))=_
    unfold chainD
    split
    · rw [ih];rfl
    · rw [ih];rfl
theorem lastD_snoc (a y:D3) (L:List D3):lstD a (L ++ [y])=y:=by simp [lstD]
theorem take_snoc (d:Array D3) (m:Nat) (h:m < d.size):d.toList.take (m + 1)=d.toList.take m ++ [d[m]!]:=by
  rw [List.take_add_one]
  simp [h]
theorem chain_compactUpTo (a:D3) (d:Array D3) : ∀ m,m≤d.size→chainD a (Lib.compactUpTo d m)=chainD a (d.toList.take m)∧lstD a (Lib.compactUpTo d m)=lstD a (d.toList.take m)
  | 0,_=>by simp [Lib.compactUpTo]
  | m + 1,h=>by
    obtain ⟨h1,h2⟩:=chain_compactUpTo a d m (by omega)
    rw [Lib.compactUpTo_succ,take_snoc d m (by omega)]
    by_cases hk:Lib.keeps d m=true
    · rw [if_pos hk,chain_snoc,chain_snoc,h1,h2,lastD_snoc,lastD_snoc]
      exact ⟨rfl,rfl⟩
    · rw [if_neg hk,List.append_nil,chain_snoc,lastD_snoc,h1,h2]
      have hm:0 < m∧d[m]! = d[m - 1]!:=by
        have hk' : ¬ (m=0∨d[m]!≠d[m - 1]!):=fun h=>hk (decide_eq_true h)
        exact ⟨Nat.pos_of_ne_zero fun e=>hk' (.inl e),Classical.byContradiction fun e=>hk' (.inr e)⟩
      obtain ⟨j,rfl⟩ : ∃ j,m=j + 1:=⟨m - 1,by omega⟩
      have e:d[j + 1]! = d[j]!:=hm.2
      rw [take_snoc d j (by omega),lastD_snoc,e,if_pos rfl,List.append_nil]
      exact ⟨rfl,rfl⟩
theorem chain_compact (a:D3) (L:List D3):chainD a (Lib.compact L)=chainD a L:=by
  have:=(chain_compactUpTo a L.toArray L.length (by simp)).1
  unfold Lib.compact
  rw [this,List.take_of_length_le (by simp)]
theorem cmp_self (a:D3) : ¬ cmpD a a < 0:=by
  rw [cmpD_lt];omega
theorem lt_of_le_ne {a b:D3} (h:leD a b) (hn:a≠b):cmpD a b < 0:=by
  unfold leD at h
  by_cases h2:cmpD a b < 0
  · exact h2
  · exfalso
    rw [cmpD_le] at h
    rw [cmpD_lt] at h2
    obtain ⟨a1,a2,a3⟩:=a
    obtain ⟨b1,b2,b3⟩:=b
    simp only at h h2
    apply hn
    have e1:a1=b1:=by omega
    have e2:a2=b2:=by omega
    have e3:a3=b3:=by omega
    rw [e1,e2,e3]
theorem le_of_lt {a b:D3} (h:cmpD a b < 0):leD a b:=by unfold leD;omega
theorem le_rfl (a:D3):leD a a:=by unfold leD;rw [cmpD_le];omega
theorem not_lt_of_le {a b:D3} (h:leD a b) : ¬ cmpD b a < 0:=by
  unfold leD at h
  rw [cmpD_le] at h
  rw [cmpD_lt]
  omega
theorem le_of_not_lt {a b:D3} (h : ¬ cmpD b a < 0):leD a b:=by
  unfold leD
  rw [cmpD_lt] at h
  rw [cmpD_le]
  omega
theorem gt_lt {a b:D3}:cmpD a b > 0 ↔ cmpD b a < 0:=by rw [cmpD_gt,cmpD_lt];omega
theorem lt_trans {a b c:D3} (h:cmpD a b < 0) (h2:leD b c):cmpD a c < 0:=by
  unfold leD at h2
  rw [cmpD_lt] at *
  rw [cmpD_le] at h2
  omega
def nxtD (a n:D3) (l:List D3):D3:=l.foldl (fun n x=>if cmpD a x < 0∧cmpD x n < 0 then x else n) n
theorem nxt_spec (a:D3) : ∀ (l:List D3) (n0:D3),(nxtD a n0 l=n0∨(nxtD a n0 l ∈ l∧cmpD a (nxtD a n0 l) < 0))∧leD (nxtD a n0 l) n0∧∀ x ∈ l,cmpD a x < 0→leD (nxtD a n0 l) x
  | [],n0=>⟨.inl rfl,le_rfl _,fun x hx=>absurd hx (by simp)⟩
  | y :: l,n0=>by
    have e:nxtD a n0 (y :: l)=nxtD a (if cmpD a y < 0∧cmpD y n0 < 0 then y else n0) l:=rfl
    rw [e]
    by_cases h:cmpD a y < 0∧cmpD y n0 < 0
    · rw [if_pos h]
      obtain ⟨h1,h2,h3⟩:=nxt_spec a l y
      refine ⟨.inr ?_,leD_trans h2 (le_of_lt h.2),fun x hx hax=>?_⟩
      · rcases h1 with h1|⟨h1,h4⟩
        · rw [h1];exact ⟨List.mem_cons_self ..,h.1⟩
        · exact ⟨List.mem_cons_of_mem _ h1,h4⟩
      · rcases List.mem_cons.1 hx with rfl|hx
        · exact h2
        · exact h3 x hx hax
    · rw [if_neg h]
      obtain ⟨h1,h2,h3⟩:=nxt_spec a l n0
      refine ⟨?_,h2,fun x hx hax=>?_⟩
      · rcases h1 with h1|⟨h1,h4⟩
        · exact .inl h1
        · exact .inr ⟨List.mem_cons_of_mem _ h1,h4⟩
      · rcases List.mem_cons.1 hx with rfl|hx
        · exact leD_trans h2 (le_of_not_lt fun h4=>h ⟨hax,h4⟩)
        · exact h3 x hx hax
theorem nxt_first {a b x:D3} {S cuts:List D3} (hS:(x :: S).Pairwise leD) (hax:cmpD a x < 0) (hm : ∀ y,(y ∈ x :: S∧cmpD a y < 0) ↔ (y ∈ cuts∧cmpD a y < 0∧cmpD y b < 0)):nxtD a b cuts=x:=by
  obtain ⟨h1,h2,h3⟩:=nxt_spec a cuts b
  have hx:=(hm x).1 ⟨List.mem_cons_self ..,hax⟩
  have h4:leD (nxtD a b cuts) x:=h3 x hx.1 hax
  have h5:cmpD (nxtD a b cuts) b < 0:=by
    by_cases h:cmpD (nxtD a b cuts) b < 0
    · exact h
    · exact absurd hx.2.2 (fun h6=>h (by
        have:=leD_trans h4 (le_of_lt h6)
        rcases h1 with h1|h1
        · rw [h1] at h4;exact absurd hx.2.2 (not_lt_of_le h4)
        · exact lt_of_le_ne this (fun e=>by rw [e] at h4;exact absurd hx.2.2 (not_lt_of_le h4))))
  rcases h1 with h1|⟨h1,h6⟩
  · rw [h1] at h5;exact absurd h5 (cmp_self b)
  · have h7:=((hm _).2 ⟨h1,h6,h5⟩).1
    rcases List.mem_cons.1 h7 with h7|h7
    · exact h7
    · exact leD_antisymm h4 ((List.pairwise_cons.1 hS).1 _ h7)
theorem nxt_none {a b:D3} {cuts:List D3} (hm : ∀ y,¬ (y ∈ cuts∧cmpD a y < 0∧cmpD y b < 0)):nxtD a b cuts=b:=by
  obtain ⟨h1,h2,h3⟩:=nxt_spec a cuts b
  rcases h1 with h1|⟨h1,h6⟩
  · exact h1
  · by_cases e:nxtD a b cuts=b
    · exact e
    · exact absurd ⟨h1,h6,lt_of_le_ne h2 e⟩ (hm _)
end Go.Proofs.YtakidmbnkkhojaaGreatM
