import Derived.Test.YtakidmbnkkhojaaGreatCd5eJM8
import Derived.Test.YtakidmbnkkhojaaGreatCd5eD
import Derived.Test.YtakidmbnkkhojaaGreatCd5eS1
namespace Go.Proofs.YtakidmbnkkhojaaGreatM
open Go.RowKit Go.Proofs.YtakidmbnkkhojaaGreatW.PrintWords Go.Proofs.YtakidmbnkkhojaaGreatW.PrintLast Go.Proofs.YtakidmbnkkhojaaGreatW.PrintMore Go.Proofs.YtakidmbnkkhojaaGreatX Go.Proofs.YtakidmbnkkhojaaGreat.F Go.Proofs.YtakidmbnkkhojaaGreat
set_option linter.unusedVariables false
set_option linter.unusedSimpArgs false
theorem rd_P (L:List (D3×D3)) (i:Nat) (h:i < L.length):rd_T55 (L.map ofP) (i:Int)=ofP L[i]:=by
  unfold rd_T55;rw [Int.toNat_natCast,List.getD_eq_getElem?_getD,List.getElem?_map,List.getElem?_eq_getElem h];rfl
theorem rd_R (L:List (D3×D3)) (i:Nat) (h:i < L.length):rd_T91 (L.map ofR) (i:Int)=ofR L[i]:=by
  unfold rd_T91;rw [Int.toNat_natCast,List.getD_eq_getElem?_getD,List.getElem?_map,List.getElem?_eq_getElem h];rfl
theorem same_l0 (L:List (D3×D3)) (hL:L.length≤2000000) : ∀ (r i:Nat),i + r=L.length→∀ k,r < k→chattellaw12_parts.l0 k (L.map ofP) (L.map ofR) (L.length:Int) i=some true
  | 0,i,hi,k,hk=>by
    obtain ⟨k,rfl⟩ : ∃ j,k=j + 1:=⟨k - 1,by omega⟩
    have c1 : ¬ (i:Int) < (L.length:Int):=by omega
    simp only [chattellaw12_parts.l0]
    rw [if_neg c1]
  | r + 1,i,hi,k,hk=>by
    obtain ⟨k,rfl⟩ : ∃ j,k=j + 1:=⟨k - 1,by omega⟩
    have hil:i < L.length:=by omega
    have c1:(i:Int) < (L.length:Int):=by omega
    have c2:(0:Int)≤(i:Int):=by omega
    have c3:(i:Int) < ((L.map ofP).length:Int):=by rw [List.length_map];exact c1
    have c4:(i:Int) < ((L.map ofR).length:Int):=by rw [List.length_map];exact c1
    have c5:i + 1 + r=L.length:=by omega
    have c6:r < k:=by omega
    have hw:wrap64 ((i:Int) + 1)=((i + 1:Nat):Int):=by unfold wrap64;omega
    simp only [chattellaw12_parts.l0]
    rw [if_pos c1,if_pos c2,if_pos c3,if_pos c4,rd_P L i hil,rd_R L i hil,hw]
    rw [if_neg (by simp [ofP,ofR]),if_neg (by simp [ofP,ofR])]
    exact same_l0 L hL r (i + 1) c5 k c6
theorem chain_len : ∀ (L:List D3) (a:D3),(chainD a L).length≤L.length
  | [],a=>by simp [chainD]
  | x :: L,a=>by
    have:=chain_len L x
    unfold chainD
    split
    · simp only [List.length_cons];omega
    · simp only [List.length_cons];omega
theorem partsD_len (a b:D3) (l:List D3):(partsD wrD a b l).1.length≤l.length + 1:=by
  unfold partsD
  split
  · simp
  · split
    · simp
    · unfold atD
      rw [chain_compact]
      have h1:=chain_len (srtD (l.filter fun x=>!delD a b x) ++ [b]) a
      have h2:=(srtD_perm (l.filter fun x=>!delD a b x)).length_eq
      have h3:=List.length_filter_le (fun x=>!delD a b x) l
      simp only [List.length_append,List.length_cons,List.length_nil] at h1
      show (chainD a (srtD (l.filter fun x=>!delD a b x) ++ [b])).length≤l.length + 1
      omega
theorem law_parts (a b:D3) (l:List S28) (hl:l.length≤1000) (k:Nat) (hk:2000000 < k):chattellaw12_parts.f k a.1 a.2.1 a.2.2 b.1 b.2.1 b.2.2 l=some true:=by
  unfold chattellaw12_parts.f split_Parts.f
  have hb:(l.length + 1) * (l.length + 3)≤1001 * 1003:=Nat.mul_le_mul (by omega) (by omega)
  rw [if_pos (show l.length≤1000000000000 by omega),Option.bind_some,parts_ref a b l (by omega) k (by omega),Option.bind_some]
  have hn:=partsD_len a b (l.map toD)
  rw [List.length_map] at hn
  rw [if_pos rfl]
  have e:partsD wrD (a.1,a.2.1,a.2.2) (b.1,b.2.1,b.2.2) (l.map toD)=partsD wrD a b (l.map toD):=rfl
  simp only [e]
  generalize (partsD wrD a b (l.map toD)).1=L at *
  obtain ⟨k,rfl⟩ : ∃ j,k=j + 1:=⟨k - 1,by omega⟩
  have h:=same_l0 L (by omega) L.length 0 (by omega) k (by omega)
  simp only [chattellaw12_parts.j0]
  rw [List.length_map,List.length_map,if_neg (by simp)]
  exact h
theorem add_some (y m d a:Int) : ∃ r,∀ k,20200 < k→month_AddDays.f k y m d a=some r:=by
  by_cases h:Right y m d
  · by_cases ha:1≤num y m d + a∧num y m d + a≤3652059
    · obtain ⟨y2,m2,d2,_,_,h3⟩:=further h ha
      exact ⟨_,h3⟩
    · exact ⟨_,fun k hk=>further_none h (by omega) k hk⟩
  · exact ⟨_,fun k hk=>further_wrong h k (by omega)⟩
theorem make_l0 (L:List Int) (hL:L.length≤12) (x0 x1 x2 y0 y1 y2:Int) : ∀ (r i:Nat) (acc:List S28),i + r=L.length→acc.length≤i→∃ l:List S28,l.length≤12∧∀ k,20200 + r < k →
    chattellaw12_Time_make.l0 k acc L (L.length:Int) i x0 x1 x2 y0 y1 y2=some (x0,x1,x2,y0,y1,y2,l)
  | 0,i,acc,hi,ha=>by
    refine ⟨acc,by omega,fun k hk=>?_⟩
    obtain ⟨k,rfl⟩ : ∃ j,k=j + 1:=⟨k - 1,by omega⟩
    have c1 : ¬ (i:Int) < (L.length:Int):=by omega
    simp only [chattellaw12_Time_make.l0]
    rw [if_neg c1]
  | r + 1,i,acc,hi,ha=>by
    have c1:(i:Int) < (L.length:Int):=by omega
    have c2:(0:Int)≤(i:Int):=by omega
    have c5:i + 1 + r=L.length:=by omega
    have c7:acc.length < 5864062014805:=by omega
    have hw:wrap64 ((i:Int) + 1)=((i + 1:Nat):Int):=by unfold wrap64;omega
    obtain ⟨q,hq⟩:=add_some x0 x1 x2 (Int.tmod (wrap64 (rd L i)) 2200)
    by_cases he:q.2.2.2=0
    · obtain ⟨l,h1,h2⟩:=make_l0 L hL x0 x1 x2 y0 y1 y2 r (i + 1) (acc ++ [⟨q.1,q.2.1,q.2.2.1⟩]) c5 (by rw [List.length_append];simp only [List.length_cons,List.length_nil];omega)
      refine ⟨l,h1,fun k hk=>?_⟩
      obtain ⟨k,rfl⟩ : ∃ j,k=j + 1:=⟨k - 1,by omega⟩
      have c8:20200 < k:=by omega
      have c9:20200 + r < k:=by omega
      simp only [chattellaw12_Time_make.l0]
      rw [if_pos c1,if_pos c2,if_pos c1,hq k c8,Option.bind_some,if_pos he,if_pos c7,hw]
      exact h2 k c9
    · obtain ⟨l,h1,h2⟩:=make_l0 L hL x0 x1 x2 y0 y1 y2 r (i + 1) acc c5 (by omega)
      refine ⟨l,h1,fun k hk=>?_⟩
      obtain ⟨k,rfl⟩ : ∃ j,k=j + 1:=⟨k - 1,by omega⟩
      have c8:20200 < k:=by omega
      have c9:20200 + r < k:=by omega
      simp only [chattellaw12_Time_make.l0]
      rw [if_pos c1,if_pos c2,if_pos c1,hq k c8,Option.bind_some,if_neg he,hw]
      exact h2 k c9
theorem make_some (a0 a1 a2 a3 a6:Int) (l4 l5:List Int) : ∃ x y:D3,∃ l:List S28,l.length≤12∧∀ k,30000 < k→chattellaw12_Time_make.f k a0 a1 a2 a3 l4 l5 a6=some (x.1,x.2.1,x.2.2,y.1,y.2.1,y.2.2,l):=by
  obtain ⟨x,hx⟩ : ∃ x,x=made a0 a1 a2 9900:=⟨_,rfl⟩
  obtain ⟨q,hq⟩:=add_some x.1 x.2.1 x.2.2 (wrap64 (Int.tmod a3 2000))
  have hn:(mn (l4.length:Int) 12)=((min l4.length 12:Nat):Int):=by rw [mn_eq];omega
  have hlen:(l4.take (min l4.length 12)).length=min l4.length 12:=by rw [List.length_take];omega
  obtain ⟨l,h1,h2⟩:=make_l0 (l4.take (min l4.length 12)) (by rw [hlen];omega) x.1 x.2.1 x.2.2 q.1 q.2.1 q.2.2.1 (l4.take (min l4.length 12)).length 0 [] (by omega) (Nat.le_refl _)
  refine ⟨x,(q.1,q.2.1,q.2.2.1),l,h1,fun k hk=>?_⟩
  have c1:2 < k:=by omega
  have c2:20200 < k:=by omega
  have c3:(0:Int)≤((min l4.length 12:Nat):Int):=by omega
  have c4:((min l4.length 12:Nat):Int)≤(l4.length:Int):=by omega
  have c5:20200 + (l4.take (min l4.length 12)).length < k:=by rw [hlen];omega
  unfold chattellaw12_Time_make.f
  rw [make_eq a0 a1 a2 9900 (by omega) (by omega) k c1,Option.bind_some,← hx,hq k c2,Option.bind_some,hn,if_pos c3,if_pos c4,Int.toNat_natCast]
  exact h2 k c5
theorem wakes12:chattellaw12_wakes.f 20=some true:=by decide +kernel
theorem mono_up {α:Type} {f:Nat→Option α} (h : ∀ k,LeO (f k) (f (k + 1))) {r:α} {k:Nat} (hk:f k=some r) : ∀ j,f (k + j)=some r
  | 0=>hk
  | j + 1=>h (k + j) r (mono_up h hk j)
end Go.Proofs.YtakidmbnkkhojaaGreatM
namespace Go.Proofs.YtakidmbnkkhojaaGreat.Pure
open Go.RowKit Go.Proofs.YtakidmbnkkhojaaGreatW.PrintWords Go.Proofs.YtakidmbnkkhojaaGreatW.PrintLast Go.Proofs.YtakidmbnkkhojaaGreatW.PrintMore Go.Proofs.YtakidmbnkkhojaaGreatX Go.Proofs.YtakidmbnkkhojaaGreat.F Go.Proofs.YtakidmbnkkhojaaGreat Go.Proofs.YtakidmbnkkhojaaGreatM
theorem SplitTells : ∀ (a0 a1 a2 a3 a6:Int) (l4 l5:List Int) (d0 d1 d2 e0 e1 e2:Int) (l:List S28),(Lit.int .u16 a3).wf=true→(Lit.int .u8 a6).wf=true→(∀ z ∈ l4,(Lit.int .i16 z).wf=true)→(∀ z ∈ l5,(Lit.int .i16 z).wf=true) →
    ∃ k,chattellaw12_SplitTells.f k a0 a1 a2 a3 l4 l5 a6 d0 d1 d2 e0 e1 e2 l=some true:=by
  intro a0 a1 a2 a3 a6 l4 l5 d0 d1 d2 e0 e1 e2 l _ _ _ _
  obtain ⟨x,y,m,hm,hmake⟩:=make_some a0 a1 a2 a3 a6 l4 l5
  refine ⟨20 + 3000000,?_⟩
  have hn:(mn (l.length:Int) 5)=((min l.length 5:Nat):Int):=by rw [mn_eq];omega
  have hlen:(l.take (min l.length 5)).length≤5:=by rw [List.length_take];omega
  have c3:(0:Int)≤((min l.length 5:Nat):Int):=by omega
  have c4:((min l.length 5:Nat):Int)≤(l.length:Int):=by omega
  have c5:m.length + (l.take (min l.length 5)).length < 5864062014805:=by omega
  have w:=mono_up (f:=fun k=>chattellaw12_wakes.f k) chattellaw12_wakes.mono wakes12 3000000
  have p1:=law_parts x y m (by omega) (20 + 3000000) (by omega)
  have p2:=law_parts y x m (by omega) (20 + 3000000) (by omega)
  have p3:=law_parts (d0,d1,d2) (e0,e1,e2) (l.take (min l.length 5)) (by omega) (20 + 3000000) (by omega)
  have p4:=law_parts x y (m ++ l.take (min l.length 5)) (by rw [List.length_append];omega) (20 + 3000000) (by omega)
  have hk:=hmake (20 + 3000000) (by omega)
  generalize 20 + 3000000=k at *
  unfold chattellaw12_SplitTells.f
  rw [hn,if_pos c3,if_pos c4,Option.bind_some,hk,Option.bind_some,w,Option.bind_some,if_pos rfl,p1,Option.bind_some,if_pos rfl,p2,Option.bind_some,if_pos rfl,Int.toNat_natCast,p3,Option.bind_some,if_pos rfl,if_pos c5,p4,Option.bind_some]
end Go.Proofs.YtakidmbnkkhojaaGreat.Pure
