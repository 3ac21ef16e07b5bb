import Derived.Test.YtakidmbnkkhojaaGreatC942Sp8
namespace Go.Proofs.YtakidmbnkkhojaaGreat
open Go.RowKit Go.Sort Go.Lib Go.Shelf Go.Proofs Go.Proofs.YtakidmbnkkhojaaGreatW.PrintWords Go.Proofs.YtakidmbnkkhojaaGreatW.PrintLast Go.Proofs.YtakidmbnkkhojaaGreatW.PrintMore
set_option linter.unusedVariables false
set_option linter.unusedSimpArgs false
set_option maxRecDepth 100000
def insD (x:D3):List D3→List D3
  | []=>[x]
  | y :: l=>if cmpD x y≤0 then x :: y :: l else y :: insD x l
def srtD:List D3→List D3
  | []=>[]
  | x :: l=>insD x (srtD l)
def leD (x y:D3):Prop:=cmpD x y≤0
theorem cmpD_le (x y:D3):cmpD x y≤0 ↔ ¬ (y.1 < x.1∨(x.1=y.1∧(y.2.1 < x.2.1∨(x.2.1=y.2.1∧y.2.2 < x.2.2)))):=by
  rw [← cmpD_gt];omega
theorem leD_antisymm {x y:D3} (h1:leD x y) (h2:leD y x):x=y:=by
  unfold leD at h1 h2
  rw [cmpD_le] at h1 h2
  obtain ⟨a,b,c⟩:=x
  obtain ⟨a',b',c'⟩:=y
  simp only at h1 h2
  have e1:a=a':=by omega
  have e2:b=b':=by omega
  have e3:c=c':=by omega
  rw [e1,e2,e3]
theorem leD_trans {x y z:D3} (h1:leD x y) (h2:leD y z):leD x z:=by
  unfold leD at *
  rw [cmpD_le] at *
  omega
theorem leD_total (x y:D3):leD x y∨leD y x:=by
  unfold leD
  rw [cmpD_le,cmpD_le]
  omega
theorem insD_perm (x:D3) : ∀ l,(insD x l).Perm (x :: l)
  | []=>List.Perm.refl _
  | y :: l=>by
    unfold insD
    split
    · exact List.Perm.refl _
    · exact ((insD_perm x l).cons y).trans (List.Perm.swap x y l)
theorem srtD_perm : ∀ l,(srtD l).Perm l
  | []=>List.Perm.refl _
  | x :: l=>(insD_perm x (srtD l)).trans ((srtD_perm l).cons x)
theorem insD_pw (x:D3) : ∀ {l},l.Pairwise leD→(insD x l).Pairwise leD
  | [],_=>List.pairwise_singleton _ _
  | y :: l,h=>by
    rw [List.pairwise_cons] at h
    unfold insD
    split
    · rename_i hxy
      rw [List.pairwise_cons]
      refine ⟨fun z hz=>?_,List.pairwise_cons.2 h⟩
      rcases List.mem_cons.1 hz with rfl|hz
      · exact hxy
      · exact leD_trans hxy (h.1 z hz)
    · rename_i hxy
      rw [List.pairwise_cons]
      refine ⟨fun z hz=>?_,insD_pw x h.2⟩
      rcases List.mem_cons.1 ((insD_perm x l).mem_iff.1 hz) with rfl|hz
      · exact (leD_total _ _).resolve_left hxy
      · exact h.1 z hz
theorem srtD_pw : ∀ l,(srtD l).Pairwise leD
  | []=>List.Pairwise.nil
  | x :: l=>insD_pw x (srtD_pw l)
theorem sorted_is {d d':Array D3} (hp:PermIn 0 d.size d d') (hs:SortedIn (ltOf cmpD) 0 d.size d'):d'.toList=srtD d.toList:=by
  obtain ⟨h1,_,h3⟩:=hp
  have e1:(d'.extract 0 d.size).toList=d'.toList:=by rw [← h1];simp
  have e2:(d.extract 0 d.size).toList=d.toList:=by simp
  rw [e1,e2] at h3
  refine List.Perm.eq_of_pairwise (le:=leD) (fun a b _ _=>leD_antisymm) ?_ (srtD_pw _) (h3.trans (srtD_perm _).symm)
  rw [List.pairwise_iff_getElem]
  intro i j hi hj hij
  have hj':j < d.size:=by simpa [h1] using hj
  have:=hs i j (Nat.zero_le _) hij hj'
  rw [ltD,decide_eq_false_iff_not] at this
  have a1:d'[i]! = d'.toList[i]:=by simp [show i < d'.size by omega]
  have a2:d'[j]! = d'.toList[j]:=by simp [show j < d'.size by omega]
  rw [a1,a2] at this
  rcases leD_total d'.toList[i] d'.toList[j] with h|h
  · exact h
  · unfold leD at *
    rw [cmpD_le] at *
    rw [cmpD_lt] at this
    omega
def atD (a b:D3) (l:List D3):List D3:=Lib.compact (srtD (l.filter fun x=>!delD a b x) ++ [b])
def chainD (a:D3):List D3→List (D3×D3)
  | []=>[]
  | x :: l=>if x=a then chainD x l else (a,x) :: chainD x l
def partsD (w:D3→Bool) (a b:D3) (l:List D3):List (D3×D3)×Int :=
  if w a || w b || l.any w then ([],11) else if cmpD a b > 0 then ([],12) else (chainD a (atD a b l),0)
end Go.Proofs.YtakidmbnkkhojaaGreat
