import Derived.Test.YtakidmbnkkhojaaGreatC942Sp9
namespace Go.Proofs.YtakidmbnkkhojaaGreat
open Go.RowKit Go.Sort Go.Lib Go.Shelf Go.Proofs Go.Proofs.YtakidmbnkkhojaaGreatW.PrintWords Go.Proofs.YtakidmbnkkhojaaGreatW.PrintLast Go.Proofs.YtakidmbnkkhojaaGreatW.PrintMore
set_option linter.unusedVariables false
set_option linter.unusedSimpArgs false
set_option maxRecDepth 100000
theorem flatD_get : ∀ (l:List D3) (j:Nat),j < l.length * 3→(flatD l)[j]?=some (enD l[j / 3]!)[j % 3]!
  | [],j,h=>absurd h (by simp)
  | x :: l,j,h=>by
    show (enD x ++ flatD l)[j]?=_
    by_cases hj:j < 3
    · rw [List.getElem?_append_left (by show j < 3;exact hj)]
      have e:j / 3=0:=by omega
      have e2:j % 3=j:=by omega
      rw [e,e2]
      show (enD x)[j]?=some (enD x)[j]!
      rw [List.getElem!_eq_getElem?_getD,List.getElem?_eq_getElem (show j < (enD x).length from hj)]
      rfl
    · rw [List.getElem?_append_right (by show 3≤j;omega)]
      show (flatD l)[j - 3]?=_
      rw [flatD_get l (j - 3) (by simp at h;omega)]
      have e:j / 3=(j - 3) / 3 + 1:=by omega
      have e2:j % 3=(j - 3) % 3:=by omega
      rw [e,e2]
      rfl
structure OwnD (base:Nat) (w:World) (g cap:Nat) (l:List D3):Prop where
  base_:base≤g
  lt:g < w.heap.size
  len:l.length≤cap
  max:cap≤maxLen
  cells : ∃ cur,w.heap[g]?=some (.cells cur 28 (0,0))∧cur.size=cap * 3
  holds:HoldsK enD 3 w g 0 l.toArray
theorem own_to {base:Nat} {w:World} {g cap n:Nat} {l:List D3} (h:w.ownsRow base 28 3 (.slice (some ⟨g,0,none⟩) n cap) n (flatD l)) (hn:n=l.length):OwnD base w g cap l:=by
  subst hn
  obtain ⟨h1,h2⟩:=h
  rcases h2 with ⟨h,_⟩|⟨g',cap',cur,e,hb,hg,hnc,hcm,hcs,ht⟩
  · cases h
  · cases e
    refine ⟨hb,(Array.getElem?_eq_some_iff.1 hg).1,hnc,hcm,⟨cur,hg,hcs⟩,fun j hj=>?_⟩
    have hj':j < l.length * 3:=by simpa using hj
    have hjc:j < cur.size:=by rw [hcs];omega
    have e1:(flatK enD 3 l.toArray)[j]! = (enD l[j / 3]!)[j % 3]!:=by
      rw [get_flatK enD 3 l.toArray j (by simpa using hj)]
      simp
    have e2:=flatD_get l j hj'
    rw [← ht,List.getElem?_take,if_pos hj',Array.getElem?_toList] at e2
    refine ⟨?_,?_⟩
    · rw [e1]
      simp only [Nat.zero_add,World.cell?,hg]
      exact e2
    · simp [World.frozen?,hg]
theorem to_own {base:Nat} {w:World} {g cap:Nat} {l:List D3} (h:OwnD base w g cap l):w.ownsRow base 28 3 (.slice (some ⟨g,0,none⟩) l.length cap) l.length (flatD l):=by
  obtain ⟨hb,hl,hlen,hm,⟨cur,hg,hcs⟩,hH⟩:=h
  refine ⟨flatD_len l, .inr ⟨g,cap,cur,rfl,hb,hg,hlen,hm,hcs,?_⟩⟩
  apply List.ext_getElem?
  intro j
  rw [List.getElem?_take]
  by_cases hj:j < l.length * 3
  · rw [if_pos hj,Array.getElem?_toList,flatD_get l j hj]
    have h1:=(hH j (by simpa using hj)).1
    rw [get_flatK enD 3 l.toArray j (by simpa using hj)] at h1
    simp only [Nat.zero_add,World.cell?,hg] at h1
    rw [show cur[j]?=_ from h1]
    simp
  · rw [if_neg hj,List.getElem?_eq_none (by rw [flatD_len];omega)]
theorem OwnD.rw {base:Nat} {w w':World} {g cap:Nat} {l:List D3} {d:Array D3} (h:OwnD base w g cap l) (r:Rw w w' g 0 d) (k:Nat) (hk:k≤d.size) (hs:d.size=l.length):OwnD base w' g cap (d.toList.take k):=by
  obtain ⟨hb,hl,hlen,hm,⟨cur,hg,hcs⟩,hH⟩:=h
  obtain ⟨cur',h1,h2⟩:=r.tag cur 28 (0,0) hg
  refine ⟨hb,r.lt,by rw [List.length_take];simp;omega,hm,⟨cur',h1,by omega⟩,fun j hj=>?_⟩
  have hj1:j < min k d.size * 3:=by simpa using hj
  have hj2:j < d.size * 3:=by omega
  have:=r.holds j (by simpa using hj2)
  rw [get_flatK enD 3 d j (by simpa using hj2)] at this
  rw [get_flatK enD 3 _ j (by simpa using hj)]
  have e:(d.toList.take k).toArray[j / 3]! = d[j / 3]!:=by
    have a1:j / 3 < k:=by omega
    have a2:j / 3 < d.size:=by omega
    simp [a1,a2]
  rw [e]
  exact this
theorem OwnD.of_rw {base:Nat} {w w':World} {g cap:Nat} {l:List D3} {d:Array D3} (h:OwnD base w g cap l) (r:Rw w w' g 0 d) (hs:d.size=l.length):OwnD base w' g cap d.toList:=by
  have:=h.rw r d.size (Nat.le_refl _) hs
  rwa [List.take_of_length_le (by simp)] at this
end Go.Proofs.YtakidmbnkkhojaaGreat
