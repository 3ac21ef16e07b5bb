import Derived.Test.YtakidmbnkkhojaaGreatC942D
import Derived.Test.YtakidmbnkkhojaaGreatC942S4
namespace Go.Proofs.YtakidmbnkkhojaaGreatM
open Go.RowKit Go.Proofs.YtakidmbnkkhojaaGreatW.PrintWords Go.Proofs.YtakidmbnkkhojaaGreatW.PrintLast Go.Proofs.YtakidmbnkkhojaaGreatW.PrintMore Go.Proofs.YtakidmbnkkhojaaGreatX Go.Proofs.YtakidmbnkkhojaaGreat.F Go.Proofs.YtakidmbnkkhojaaGreat
set_option linter.unusedVariables false
set_option linter.unusedSimpArgs false
theorem chain_append : ∀ (L1 L2:List D3) (a:D3),chainD a (L1 ++ L2)=chainD a L1 ++ chainD (lstD a L1) L2
  | [],L2,a=>rfl
  | x :: L1,L2,a=>by
    have ih:=chain_append L1 L2 x
    have e1 : ∀ l,chainD a (x :: l)=if x=a then chainD x l else (a,x) :: chainD x l:=fun _=>rfl
    have e2:lstD a (x :: L1)=lstD x L1:=rfl
    rw [List.cons_append,e1,e1,e2,ih]
    split
    · rfl
    · rfl
theorem chain_none : ∀ (L:List D3) (a:D3),(∀ z ∈ L,z=a)→chainD a L = []
  | [],a,_=>rfl
  | x :: L,a,h=>by
    have e:=h x (List.mem_cons_self ..)
    subst e
    unfold chainD
    rw [if_pos rfl]
    exact chain_none L x fun z hz=>h z (List.mem_cons_of_mem _ hz)
theorem chain_uniq : ∀ (n:Nat) (S S':List D3) (a:D3),S.length + S'.length≤n→S.Pairwise leD→S'.Pairwise leD→(∀ z ∈ S,leD a z)→(∀ z ∈ S',leD a z)→(∀ z,z≠a→(z ∈ S ↔ z ∈ S'))→chainD a S=chainD a S'
  | n,[],S',a,hn,h1,h2,h3,h4,h5=>by
    rw [chain_none S' a fun z hz=>Classical.byContradiction fun hne=>by have:=(h5 z hne).2 hz;simp at this]
    rfl
  | n,x :: S,[],a,hn,h1,h2,h3,h4,h5=>by
    rw [chain_none (x :: S) a fun z hz=>Classical.byContradiction fun hne=>by have:=(h5 z hne).1 hz;simp at this]
    rfl
  | 0,x :: S,x' :: S',a,hn,h1,h2,h3,h4,h5=>by simp only [List.length_cons] at hn;omega
  | n + 1,x :: S,x' :: S',a,hn,h1,h2,h3,h4,h5=>by
    simp only [List.length_cons] at hn
    have p1:=List.pairwise_cons.1 h1
    have p2:=List.pairwise_cons.1 h2
    by_cases e:x=a
    · have ih:=chain_uniq n S (x' :: S') a (by simp only [List.length_cons];omega) p1.2 h2 (fun z hz=>h3 z (List.mem_cons_of_mem _ hz)) h4 fun z hz=>by
        rw [← h5 z hz,List.mem_cons]
        exact ⟨.inr,fun h=>h.resolve_left fun h=>hz (h.trans e)⟩
      rw [← ih]
      conv=>lhs;unfold chainD
      rw [if_pos e,e]
    · by_cases e':x'=a
      · have ih:=chain_uniq n (x :: S) S' a (by simp only [List.length_cons];omega) h1 p2.2 h3 (fun z hz=>h4 z (List.mem_cons_of_mem _ hz)) fun z hz=>by
          rw [h5 z hz,List.mem_cons]
          exact ⟨fun h=>h.resolve_left fun h=>hz (h.trans e'), .inr⟩
        rw [ih]
        conv=>rhs;unfold chainD
        rw [if_pos e',e']
      · have hx:x ∈ x' :: S':=(h5 x e).1 (List.mem_cons_self ..)
        have hx':x' ∈ x :: S:=(h5 x' e').2 (List.mem_cons_self ..)
        have l1:leD x x':=by
          rcases List.mem_cons.1 hx' with h|h
          · rw [h];exact le_rfl x
          · exact p1.1 x' h
        have l2:leD x' x:=by
          rcases List.mem_cons.1 hx with h|h
          · rw [← h];exact le_rfl x
          · exact p2.1 x h
        have exx:x=x':=leD_antisymm l1 l2
        subst exx
        have hax:leD a x:=h3 x (List.mem_cons_self ..)
        have ih:=chain_uniq n S S' x (by omega) p1.2 p2.2 p1.1 p2.1 fun z hz=>by
          have hza : ∀ L:List D3,(∀ w ∈ L,leD x w)→z ∈ L→z≠a:=fun L hL hzL h=>by
            have:=hL z hzL
            rw [h] at this
            exact e (leD_antisymm this hax)
          constructor
          · intro h
            have:=(h5 z (hza S p1.1 h)).1 (List.mem_cons_of_mem _ h)
            exact (List.mem_cons.1 this).resolve_left hz
          · intro h
            have:=(h5 z (hza S' p2.1 h)).2 (List.mem_cons_of_mem _ h)
            exact (List.mem_cons.1 this).resolve_left hz
        unfold chainD
        rw [if_neg e,if_neg e,ih]
theorem cuts_mem (x y:D3) (l:List D3) (z:D3):z ∈ cutsD x y l ↔ (z ∈ l∧cmpD x z < 0∧cmpD z y < 0)∨z=y:=by
  unfold cutsD
  rw [List.mem_append,cut_mem,List.mem_singleton]
theorem parts_same {x y:D3} {l l':List D3} (hx:RightD x) (hy:RightD y) (hle:numD x≤numD y) (hl : ∀ z ∈ l,RightD z) (hl' : ∀ z ∈ l',RightD z) (h : ∀ z,z ∈ l ↔ z ∈ l'):chainD x (cutsD x y l)=chainD x (cutsD x y l'):=by
  have c1:=cuts_cut hx hy hle hl
  have c2:=cuts_cut hx hy hle hl'
  have p1:=List.pairwise_cons.1 c1.pw
  have p2:=List.pairwise_cons.1 c2.pw
  exact chain_uniq _ _ _ x (Nat.le_refl _) p1.2 p2.2 p1.1 p2.1 fun z _=>by rw [cuts_mem,cuts_mem,h z]
theorem tri (a b:D3):cmpD a b < 0∨a=b∨cmpD b a < 0:=by
  by_cases e:a=b
  · exact .inr (.inl e)
  · rcases leD_total a b with h|h
    · exact .inl (lt_of_le_ne h e)
    · exact .inr (.inr (lt_of_le_ne h fun h=>e h.symm))
theorem parts_split {x m y:D3} {l l':List D3} (hx:RightD x) (hm:RightD m) (hy:RightD y) (h1:numD x≤numD m) (h2:numD m≤numD y) (hl : ∀ z ∈ l,RightD z) (hl' : ∀ z ∈ l',RightD z) (h : ∀ z,z ∈ l' ↔ z ∈ l∨z=m) :
    chainD x (cutsD x m l) ++ chainD m (cutsD m y l)=chainD x (cutsD x y l'):=by
  have c1:=cuts_cut hx hm h1 hl
  have c2:=cuts_cut hm hy h2 hl
  have c3:=cuts_cut hx hy (by omega) hl'
  have p1:=List.pairwise_cons.1 c1.pw
  have p2:=List.pairwise_cons.1 c2.pw
  have p3:=List.pairwise_cons.1 c3.pw
  have hxm:leD x m:=(le_num hx hm).2 h1
  have hmy:leD m y:=(le_num hm hy).2 h2
  have e:chainD m (cutsD m y l)=chainD (lstD x (cutsD x m l)) (cutsD m y l):=by rw [c1.last]
  rw [e,← chain_append]
  have hlow : ∀ z ∈ cutsD x m l,leD z m:=fun z hz=>by
    rcases (cuts_mem x m l z).1 hz with ⟨_,_,h⟩|h
    · exact le_of_lt h
    · rw [h];exact le_rfl m
  refine chain_uniq _ _ _ x (Nat.le_refl _) (List.pairwise_append.2 ⟨p1.2,p2.2,fun a ha b hb=>leD_trans (hlow a ha) (p2.1 b hb)⟩) p3.2 (fun z hz=>?_) p3.1 fun z hz=>?_
  · rcases List.mem_append.1 hz with hz|hz
    · exact p1.1 z hz
    · exact leD_trans hxm (p2.1 z hz)
  · rw [List.mem_append,cuts_mem,cuts_mem,cuts_mem,h z]
    constructor
    · rintro ((⟨g1,g2,g3⟩|g1)|(⟨g1,g2,g3⟩|g1))
      · exact .inl ⟨.inl g1,g2,lt_trans g3 hmy⟩
      · subst g1
        by_cases e:z=y
        · exact .inr e
        · exact .inl ⟨.inr rfl,lt_of_le_ne hxm fun h=>hz h.symm,lt_of_le_ne hmy e⟩
      · refine .inl ⟨.inl g1,?_,g3⟩
        rcases tri x z with h|h|h
        · exact h
        · exact absurd h.symm hz
        · exact absurd (lt_trans (lt_trans g2 (le_of_lt h)) hxm) (cmp_self m)
      · exact .inr g1
    · rintro (⟨g1|g1,g2,g3⟩|g1)
      · rcases tri z m with h|h|h
        · exact .inl (.inl ⟨g1,g2,h⟩)
        · exact .inl (.inr h)
        · exact .inr (.inl ⟨g1,h,g3⟩)
      · exact .inl (.inr g1)
      · exact .inr (.inr g1)
theorem rev_l0 : ∀ (n:Nat) (x:List S28) (i j:Int),(j - i).toNat≤n→0≤i→j < (x.length:Int)→x.length≤1000 → -1≤j→i≤1000→∃ r:List S28,r.Perm x∧∀ k,n + 1 < k→api_Date_28.l0 k x i j=some r
  | n,x,i,j,hn,hi,hj,hx,hj1,hi1=>by
    by_cases h:i < j
    · cases n with
      | zero=>omega
      | succ n =>
        have hjl:j.toNat < x.length:=by omega
        have hil:i.toNat < x.length:=by omega
        have e1:(⟨(rd_T28 x j).f0,(rd_T28 x j).f1,(rd_T28 x j).f2⟩:S28)=x[j.toNat]:=by
          have e:rd_T28 x j=x[j.toNat]:=by unfold rd_T28;rw [List.getD_eq_getElem?_getD,List.getElem?_eq_getElem hjl];rfl
          rw [← e]
        have e2:(⟨(rd_T28 x i).f0,(rd_T28 x i).f1,(rd_T28 x i).f2⟩:S28)=x[i.toNat]:=by
          have e:rd_T28 x i=x[i.toNat]:=by unfold rd_T28;rw [List.getD_eq_getElem?_getD,List.getElem?_eq_getElem hil];rfl
          rw [← e]
        obtain ⟨r,hr,hk⟩:=rev_l0 n ((x.set i.toNat x[j.toNat]).set j.toNat x[i.toNat]) (i + 1) (j - 1) (by omega) (by omega) (by simp;omega) (by simpa using hx) (by omega) (by omega)
        refine ⟨r,hr.trans (List.set_set_perm hil hjl),fun k hk'=>?_⟩
        obtain ⟨k,rfl⟩ : ∃ q,k=q + 1:=⟨k - 1,by omega⟩
        simp only [api_Date_28.l0]
        rw [if_pos h,if_pos (by omega),if_pos hj,if_pos hi,if_pos (by omega),e1,e2,show wrap64 (i + 1)=i + 1 from wrap_id (by omega),show wrap64 (j - 1)=j - 1 from wrap_id (by omega)]
        exact hk k (by omega)
    · refine ⟨x,List.Perm.refl x,fun k hk'=>?_⟩
      obtain ⟨k,rfl⟩ : ∃ q,k=q + 1:=⟨k - 1,by omega⟩
      simp only [api_Date_28.l0]
      rw [if_neg h]
theorem rev_ev (x:List S28) (hx:x.length≤1000) : ∃ r:List S28,r.Perm x∧Ev (fun k=>api_Date_28.f k x) r:=by
  obtain ⟨r,hr,hk⟩:=rev_l0 1000 x 0 ((x.length:Int) - 1) (by omega) (by decide) (by omega) hx (by omega) (by decide)
  refine ⟨r,hr,Ev.lt 1001 fun k hk'=>?_⟩
  unfold api_Date_28.f
  rw [show wrap64 ((x.length:Int) - 1)=(x.length:Int) - 1 from wrap_id (by omega)]
  exact hk k hk'
theorem same_l0' (L:List (D3×D3)) (hL:L.length≤1000) : ∀ (r i:Nat),i + r=L.length→Ev (fun k=>split_Part.l0 k (L.map ofP) (L.map ofP) (L.length:Int) (i:Int)) true
  | 0,i,hi=>by
    refine Ev.unroll ?_
    simp only [split_Part.l0]
    exact Ev.neg (by omega) (Ev.const rfl)
  | r + 1,i,hi=>by
    have h1:i < L.length:=by omega
    have hw:wrap64 ((i:Int) + 1)=((i + 1:Nat):Int):=by unfold wrap64;omega
    have ih:=same_l0' L hL r (i + 1) (by omega)
    refine Ev.unroll ?_
    simp only [split_Part.l0]
    rw [rd_P L i h1,hw]
    refine Ev.pos (by omega) (Ev.pos (by omega) (Ev.pos (by rw [List.length_map];omega) (Ev.pos (by rw [List.length_map];omega) (Ev.neg (by simp) ih))))
theorem equal_ev (L:List (D3×D3)) (hL:L.length≤1000):Ev (fun k=>split_Part.f k (L.map ofP) (L.map ofP)) true:=by
  have h:=same_l0' L hL L.length 0 (by omega)
  unfold split_Part.f
  rw [List.length_map]
  exact Ev.pos rfl h
end Go.Proofs.YtakidmbnkkhojaaGreatM
