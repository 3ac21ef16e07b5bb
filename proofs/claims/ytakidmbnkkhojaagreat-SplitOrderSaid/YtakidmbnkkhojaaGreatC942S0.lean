import Derived.Test.YtakidmbnkkhojaaGreatC942JM5
import Derived.Test.YtakidmbnkkhojaaGreatC942Sp14
namespace Go.Proofs.YtakidmbnkkhojaaGreatM
open Go.RowKit Go.Proofs.YtakidmbnkkhojaaGreat
set_option linter.unusedVariables false
set_option linter.unusedSimpArgs false
def lstD (a:D3) (L:List D3):D3:=L.foldl (fun _ x=>x) a
theorem chain_snoc (y:D3) : ∀ (L:List D3) (a:D3),chainD a (L ++ [y])=chainD a L ++ (if y=lstD a L then [] else [(lstD a L,y)])
  | [],a=>by by_cases h:y=a <;> simp [chainD,lstD,h]
  | x :: L,a=>by
    have ih:=chain_snoc y L x
    show chainD a (x :: (L ++ [y]))=_
    unfold chainD
    split
    · rw [ih];rfl
    · rw [ih];rfl
theorem lastD_snoc (a y:D3) (L:List D3):lstD a (L ++ [y])=y:=by simp [lstD]
theorem take_snoc (d:Array D3) (m:Nat) (h:m < d.size):d.toList.take (m + 1)=d.toList.take m ++ [d[m]!]:=by
  rw [List.take_add_one]
  simp [h]
theorem chain_compactUpTo (a:D3) (d:Array D3) : ∀ m,m≤d.size→chainD a (Lib.compactUpTo d m)=chainD a (d.toList.take m)∧lstD a (Lib.compactUpTo d m)=lstD a (d.toList.take m)
  | 0,_=>by simp [Lib.compactUpTo]
  | m + 1,h=>by
    obtain ⟨h1,h2⟩:=chain_compactUpTo a d m (by omega)
    rw [Lib.compactUpTo_succ,take_snoc d m (by omega)]
    by_cases hk:Lib.keeps d m=true
    · rw [if_pos hk,chain_snoc,chain_snoc,h1,h2,lastD_snoc,lastD_snoc]
      exact ⟨rfl,rfl⟩
    · rw [if_neg hk,List.append_nil,chain_snoc,lastD_snoc,h1,h2]
      have hm:0 < m∧d[m]! = d[m - 1]!:=by
        have hk' : ¬ (m=0∨d[m]!≠d[m - 1]!):=fun h=>hk (decide_eq_true h)
        exact ⟨Nat.pos_of_ne_zero fun e=>hk' (.inl e),Classical.byContradiction fun e=>hk' (.inr e)⟩
      obtain ⟨j,rfl⟩ : ∃ j,m=j + 1:=⟨m - 1,by omega⟩
      have e:d[j + 1]! = d[j]!:=hm.2
      rw [take_snoc d j (by omega),lastD_snoc,e,if_pos rfl,List.append_nil]
      exact ⟨rfl,rfl⟩
theorem chain_compact (a:D3) (L:List D3):chainD a (Lib.compact L)=chainD a L:=by
  have:=(chain_compactUpTo a L.toArray L.length (by simp)).1
  unfold Lib.compact
  rw [this,List.take_of_length_le (by simp)]
theorem cmp_self (a:D3) : ¬ cmpD a a < 0:=by
  rw [cmpD_lt];omega
theorem lt_of_le_ne {a b:D3} (h:leD a b) (hn:a≠b):cmpD a b < 0:=by
  unfold leD at h
  by_cases h2:cmpD a b < 0
  · exact h2
  · exfalso
    rw [cmpD_le] at h
    rw [cmpD_lt] at h2
    obtain ⟨a1,a2,a3⟩:=a
    obtain ⟨b1,b2,b3⟩:=b
    simp only at h h2
    apply hn
    have e1:a1=b1:=by omega
    have e2:a2=b2:=by omega
    have e3:a3=b3:=by omega
    rw [e1,e2,e3]
theorem le_of_lt {a b:D3} (h:cmpD a b < 0):leD a b:=by unfold leD;omega
theorem le_rfl (a:D3):leD a a:=by unfold leD;rw [cmpD_le];omega
theorem gt_lt {a b:D3}:cmpD a b > 0 ↔ cmpD b a < 0:=by rw [cmpD_gt,cmpD_lt];omega
theorem lt_trans {a b c:D3} (h:cmpD a b < 0) (h2:leD b c):cmpD a c < 0:=by
  unfold leD at h2
  rw [cmpD_lt] at *
  rw [cmpD_le] at h2
  omega
end Go.Proofs.YtakidmbnkkhojaaGreatM
