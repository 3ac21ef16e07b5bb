import Derived.Test.YtakidmbnkkhojaaGreatCaf9JM5
import Derived.Test.YtakidmbnkkhojaaGreatCaf9D
import Derived.Test.YtakidmbnkkhojaaGreatCaf9S0
namespace Go.Proofs.YtakidmbnkkhojaaGreatM
open Go.RowKit Go.Proofs.YtakidmbnkkhojaaGreatW.PrintWords Go.Proofs.YtakidmbnkkhojaaGreatW.PrintLast Go.Proofs.YtakidmbnkkhojaaGreatW.PrintMore Go.Proofs.YtakidmbnkkhojaaGreatX Go.Proofs.YtakidmbnkkhojaaGreat.F Go.Proofs.YtakidmbnkkhojaaGreat
set_option linter.unusedVariables false
set_option linter.unusedSimpArgs false
def ofR (x:D3×D3):S91:=⟨⟨x.1.1,x.1.2.1,x.1.2.2⟩,⟨x.2.1,x.2.2.1,x.2.2.2⟩⟩
theorem rcmp (a b:D3) (k:Nat) (hk:3 < k):chattelref09_Cmp.f k a.1 a.2.1 a.2.2 b.1 b.2.1 b.2.2=some (cmpD a b):=refcmp_eq _ _ _ _ _ _ k hk
theorem rd_at (l:List S28) (i:Nat) (h:i < l.length):((rd_T28 l (i:Int)).f0,(rd_T28 l (i:Int)).f1,(rd_T28 l (i:Int)).f2)=(l.map toD)[i]'(by simpa using h):=by
  have e:rd_T28 l (i:Int)=l[i]:=by unfold rd_T28;rw [Int.toNat_natCast,List.getD_eq_getElem?_getD,List.getElem?_eq_getElem h];rfl
  rw [e,List.getElem_map]
  rfl
theorem drop_at (l:List S28) (i:Nat) (h:i < l.length):(l.map toD).drop i=((rd_T28 l (i:Int)).f0,(rd_T28 l (i:Int)).f1,(rd_T28 l (i:Int)).f2) :: (l.map toD).drop (i + 1):=by
  rw [rd_at l i h,List.drop_eq_getElem_cons (by simpa using h)]
theorem l2_eq (l:List S28) (hl:l.length≤1000000) (b:D3) : ∀ (r i:Nat) (a n:D3) (acc:List S91),i + r=l.length→acc.length < 2932031007402→∀ k,r + 4 < k →
    chattelref12_Parts.l2 k l acc i a.1 a.2.1 a.2.2 b.1 b.2.1 b.2.2 n.1 n.2.1 n.2.2 =
      chattelref12_Parts.l1 (k - r - 1) l (cmpD (nxtD a n ((l.map toD).drop i)) b) (acc ++ [ofR (a,nxtD a n ((l.map toD).drop i))]) (nxtD a n ((l.map toD).drop i)).1 (nxtD a n ((l.map toD).drop i)).2.1 (nxtD a n ((l.map toD).drop i)).2.2 b.1 b.2.1 b.2.2
  | 0,i,a,n,acc,hi,ha,k,hk=>by
    obtain ⟨k,rfl⟩ : ∃ j,k=j + 1:=⟨k - 1,by omega⟩
    have e:(l.map toD).drop i = []:=List.drop_eq_nil_of_le (by simp;omega)
    rw [e]
    simp only [chattelref12_Parts.l2]
    rw [if_neg (by omega),if_pos ha,rcmp n b k (by omega),Option.bind_some]
    rfl
  | r + 1,i,a,n,acc,hi,ha,k,hk=>by
    obtain ⟨k,rfl⟩ : ∃ j,k=j + 1:=⟨k - 1,by omega⟩
    have hil:i < l.length:=by omega
    have c1:(i:Int) < (l.length:Int):=by omega
    have c2:(0:Int)≤(i:Int):=by omega
    have c3:3 < k:=by omega
    have c4:i + 1 + r=l.length:=by omega
    have c5:r + 4 < k:=by omega
    have c6:k + 1 - (r + 1) - 1=k - r - 1:=by omega
    have c7:1 < k:=by omega
    have hw:wrap64 ((i:Int) + 1)=((i + 1:Nat):Int):=by unfold wrap64;omega
    have e:=drop_at l i hil
    generalize hx:(((rd_T28 l (i:Int)).f0,(rd_T28 l (i:Int)).f1,(rd_T28 l (i:Int)).f2):D3)=x at e
    have hx0:(rd_T28 l (i:Int)).f0=x.1:=by rw [← hx]
    have hx1:(rd_T28 l (i:Int)).f1=x.2.1:=by rw [← hx]
    have hx2:(rd_T28 l (i:Int)).f2=x.2.2:=by rw [← hx]
    have e2:nxtD a n ((l.map toD).drop i)=nxtD a (if cmpD a x < 0∧cmpD x n < 0 then x else n) ((l.map toD).drop (i + 1)):=by rw [e];rfl
    rw [e2,c6]
    conv=>lhs;simp only [chattelref12_Parts.l2]
    rw [if_pos c1,if_pos c2,hx0,hx1,hx2,rcmp a x k c3,Option.bind_some,rcmp x n k c3,Option.bind_some,hw]
    by_cases h1:cmpD a x < 0
    · rw [if_pos h1]
      by_cases h2:cmpD x n < 0
      · rw [if_pos h2,if_pos ⟨h1,h2⟩]
        exact l2_eq l hl b r (i + 1) a x acc c4 ha k c5
      · rw [if_neg h2,if_neg (fun h=>h2 h.2)]
        exact l2_eq l hl b r (i + 1) a n acc c4 ha k c5
    · rw [if_neg h1,if_neg (fun h=>h1 h.1)]
      exact l2_eq l hl b r (i + 1) a n acc c4 ha k c5
theorem l1_eq (l:List S28) (hl:l.length≤1000000) (b:D3) : ∀ (S:List D3) (a:D3) (acc:List S91),S.Pairwise leD→(∀ x ∈ S,leD a x)→leD a b→(∀ y,(y ∈ S∧cmpD a y < 0) ↔ (y ∈ l.map toD∧cmpD a y < 0∧cmpD y b < 0)) →
    acc.length + S.length < 2932031007401→∀ k,(S.length + 1) * (l.length + 3) + 9 < k →
    chattelref12_Parts.l1 k l (cmpD a b) acc a.1 a.2.1 a.2.2 b.1 b.2.1 b.2.2=some (acc ++ (chainD a (S ++ [b])).map ofR,0)
  | [],a,acc,hp,ha,hab,hm,hc,k,hk=>by
    simp only [List.length_nil,Nat.zero_add,Nat.one_mul] at hk
    obtain ⟨k,rfl⟩ : ∃ j,k=j + 1:=⟨k - 1,by omega⟩
    by_cases e:a=b
    · subst e
      simp only [chattelref12_Parts.l1]
      rw [if_neg (cmp_self a)]
      simp [chainD]
    · have hlt:=lt_of_le_ne hab e
      have hn:nxtD a b (l.map toD)=b:=nxt_none fun y hy=>absurd ((hm y).2 hy).1 (by simp)
      simp only [chattelref12_Parts.l1]
      rw [if_pos hlt]
      have h2:=l2_eq l hl b l.length 0 a b acc (by omega) (by omega) k (by omega)
      rw [List.drop_zero,hn] at h2
      rw [show ((0:Nat):Int)=0 from rfl] at h2
      rw [h2]
      obtain ⟨q,hq⟩ : ∃ j,k - l.length - 1=j + 1:=⟨k - l.length - 2,by omega⟩
      rw [hq]
      simp only [chattelref12_Parts.l1]
      rw [if_neg (cmp_self b)]
      have hne : ¬ b=a:=fun h=>e h.symm
      simp [chainD,hne]
  | x :: S,a,acc,hp,ha,hab,hm,hc,k,hk=>by
    rw [List.length_cons,Nat.succ_mul] at hk
    rw [List.length_cons] at hc
    have hp':=List.pairwise_cons.1 hp
    by_cases e:x=a
    · subst e
      have h1:=l1_eq l hl b S x acc hp'.2 hp'.1 hab (fun y=>⟨fun hy=>(hm y).1 ⟨List.mem_cons_of_mem _ hy.1,hy.2⟩,fun hy=>⟨(List.mem_cons.1 ((hm y).2 hy).1).resolve_left (fun h=>by subst h;exact cmp_self _ hy.2.1),hy.2.1⟩⟩) (by omega) k (by omega)
      rw [h1]
      show _=some (acc ++ (chainD x (x :: (S ++ [b]))).map ofR,0)
      rw [chainD,if_pos rfl]
    · have hax:cmpD a x < 0:=lt_of_le_ne (ha x (List.mem_cons_self ..)) (fun h=>e h.symm)
      have hx:=(hm x).1 ⟨List.mem_cons_self ..,hax⟩
      have hn:nxtD a b (l.map toD)=x:=nxt_first hp hax hm
      have hlt:cmpD a b < 0:=lt_trans hax (le_of_lt hx.2.2)
      obtain ⟨k,rfl⟩ : ∃ j,k=j + 1:=⟨k - 1,by omega⟩
      simp only [chattelref12_Parts.l1]
      rw [if_pos hlt]
      have h2:=l2_eq l hl b l.length 0 a b acc (by omega) (by omega) k (by omega)
      rw [List.drop_zero,hn] at h2
      rw [show ((0:Nat):Int)=0 from rfl] at h2
      rw [h2]
      have h1:=l1_eq l hl b S x (acc ++ [ofR (a,x)]) hp'.2 hp'.1 (le_of_lt hx.2.2) (fun y=>⟨fun hy=>?_,fun hy=>?_⟩) (by rw [List.length_append];simp only [List.length_cons,List.length_nil];omega) (k - l.length - 1) (by omega)
      · rw [h1]
        show _=some (acc ++ (chainD a (x :: (S ++ [b]))).map ofR,0)
        rw [chainD,if_neg e,List.map_cons,List.append_assoc,List.singleton_append]
      · obtain ⟨h3,h4,h5⟩:=(hm y).1 ⟨List.mem_cons_of_mem _ hy.1,lt_trans hax (le_of_lt hy.2)⟩
        exact ⟨h3,hy.2,h5⟩
      · have h3:=((hm y).2 ⟨hy.1,lt_trans hax (le_of_lt hy.2.1),hy.2.2⟩).1
        exact ⟨(List.mem_cons.1 h3).resolve_left (fun h=>by subst h;exact cmp_self _ hy.2.1),hy.2.1⟩
theorem right_wr (x:D3) (k:Nat) (hk:1 < k):chattelref09_Right.f k x.1 x.2.1 x.2.2=some (!wrD x):=by
  rw [ref_right _ _ _ k hk]
  have e:wrD x=!(decide (Right x.1 x.2.1 x.2.2)):=rfl
  rw [e,Bool.not_not]
theorem l0_eq (l:List S28) (hl:l.length≤1000000) (a b:D3) : ∀ (r i:Nat),i + r=l.length→∀ k,r + 4 < k →
    chattelref12_Parts.l0 k l i a.1 a.2.1 a.2.2 b.1 b.2.1 b.2.2=if ((l.map toD).drop i).any wrD=true then some ([],11) else if cmpD a b > 0 then some ([],12) else chattelref12_Parts.l1 (k - r - 1) l (cmpD a b) [] a.1 a.2.1 a.2.2 b.1 b.2.1 b.2.2
  | 0,i,hi,k,hk=>by
    obtain ⟨k,rfl⟩ : ∃ j,k=j + 1:=⟨k - 1,by omega⟩
    have e:(l.map toD).drop i = []:=List.drop_eq_nil_of_le (by simp;omega)
    rw [e,if_neg (by simp)]
    simp only [chattelref12_Parts.l0]
    rw [if_neg (by omega),rcmp a b k (by omega),Option.bind_some]
    rfl
  | r + 1,i,hi,k,hk=>by
    obtain ⟨k,rfl⟩ : ∃ j,k=j + 1:=⟨k - 1,by omega⟩
    have hil:i < l.length:=by omega
    have c1:(i:Int) < (l.length:Int):=by omega
    have c2:(0:Int)≤(i:Int):=by omega
    have c3:3 < k:=by omega
    have c4:i + 1 + r=l.length:=by omega
    have c5:r + 4 < k:=by omega
    have c6:k + 1 - (r + 1) - 1=k - r - 1:=by omega
    have c7:1 < k:=by omega
    have hw:wrap64 ((i:Int) + 1)=((i + 1:Nat):Int):=by unfold wrap64;omega
    have e:=drop_at l i hil
    generalize hx:(((rd_T28 l (i:Int)).f0,(rd_T28 l (i:Int)).f1,(rd_T28 l (i:Int)).f2):D3)=x at e
    have hx0:(rd_T28 l (i:Int)).f0=x.1:=by rw [← hx]
    have hx1:(rd_T28 l (i:Int)).f1=x.2.1:=by rw [← hx]
    have hx2:(rd_T28 l (i:Int)).f2=x.2.2:=by rw [← hx]
    rw [c6,e,List.any_cons]
    conv=>lhs;simp only [chattelref12_Parts.l0]
    rw [if_pos c1,if_pos c2,hx0,hx1,hx2,right_wr x k c7,Option.bind_some,hw]
    cases hwx:wrD x with
    | true=>simp
    | false =>
      rw [Bool.not_false,if_pos rfl,l0_eq l hl a b r (i + 1) c4 k c5,Bool.false_or]
theorem parts_ref (a b:D3) (l:List S28) (hl:l.length≤1000000) (k:Nat) (hk:(l.length + 1) * (l.length + 3) + l.length + 20 < k) :
    chattelref12_Parts.f k a.1 a.2.1 a.2.2 b.1 b.2.1 b.2.2 l=some ((partsD wrD a b (l.map toD)).1.map ofR,(partsD wrD a b (l.map toD)).2):=by
  unfold chattelref12_Parts.f partsD
  have hpos:0 < (l.length + 1) * (l.length + 3):=Nat.mul_pos (by omega) (by omega)
  rw [right_wr a k (by omega),Option.bind_some,right_wr b k (by omega),Option.bind_some]
  obtain ⟨k,rfl⟩ : ∃ j,k=j + 1:=⟨k - 1,by omega⟩
  cases hwa:wrD a with
  | true=>simp [chattelref12_Parts.j0]
  | false =>
    rw [Bool.not_false,if_pos rfl]
    simp only [chattelref12_Parts.j0]
    cases hwb:wrD b with
    | true=>simp
    | false =>
      have h0:=l0_eq l hl a b l.length 0 (by omega) k (by omega)
      rw [List.drop_zero] at h0
      rw [show ((0:Nat):Int)=0 from rfl] at h0
      rw [Bool.not_false,Bool.not_true,if_neg (by decide),h0,Bool.false_or,Bool.false_or]
      by_cases hwl:(l.map toD).any wrD=true
      · rw [if_pos hwl,if_pos hwl];rfl
      · rw [if_neg hwl,if_neg hwl]
        by_cases hgt:cmpD a b > 0
        · rw [if_pos hgt,if_pos hgt];rfl
        · rw [if_neg hgt,if_neg hgt]
          have hab:leD a b:=by unfold leD;omega
          obtain ⟨fl,hfl⟩ : ∃ fl,fl=(l.map toD).filter fun x=>!delD a b x:=⟨_,rfl⟩
          have hmem : ∀ y,y ∈ srtD fl ↔ (y ∈ l.map toD∧cmpD a y < 0∧cmpD y b < 0):=by
            intro y
            rw [(srtD_perm fl).mem_iff,hfl,List.mem_filter]
            unfold delD
            have h1:cmpD y a≤0 ↔ ¬ cmpD a y < 0:=by rw [← gt_lt];omega
            simp only [Bool.not_or,Bool.and_eq_true,Bool.not_eq_true',decide_eq_false_iff_not,h1]
            constructor
            · rintro ⟨p,q,r⟩;exact ⟨p,by omega,by omega⟩
            · rintro ⟨p,q,r⟩;exact ⟨p,by omega,by omega⟩
          have hlen:(srtD fl).length≤l.length:=by
            rw [(srtD_perm fl).length_eq,hfl]
            have:=List.length_filter_le (fun x=>!delD a b x) (l.map toD)
            simpa using this
          have h1:=l1_eq l hl b (srtD fl) a [] (srtD_pw fl) (fun x hx=>le_of_lt ((hmem x).1 hx).2.1) hab (fun y=>⟨fun hy=>(hmem y).1 hy.1,fun hy=>⟨(hmem y).2 hy,hy.2.1⟩⟩) (by simp only [List.length_nil];omega) (k - l.length - 1) (by
            have:=Nat.mul_le_mul_right (l.length + 3) (show (srtD fl).length + 1≤l.length + 1 by omega)
            omega)
          rw [h1,List.nil_append]
          have e:chainD a (atD a b (l.map toD))=chainD a (srtD fl ++ [b]):=by
            unfold atD
            rw [← hfl]
            exact chain_compact a _
          rw [e]
end Go.Proofs.YtakidmbnkkhojaaGreatM
