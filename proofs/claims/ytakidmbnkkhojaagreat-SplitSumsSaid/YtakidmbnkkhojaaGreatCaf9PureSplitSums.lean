import Derived.Test.YtakidmbnkkhojaaGreatCaf9D
import Derived.Test.YtakidmbnkkhojaaGreatCaf9S5
namespace Go.Proofs.YtakidmbnkkhojaaGreat.Pure
open Go.RowKit Go.Proofs.YtakidmbnkkhojaaGreatW.PrintWords Go.Proofs.YtakidmbnkkhojaaGreatW.PrintLast Go.Proofs.YtakidmbnkkhojaaGreatW.PrintMore Go.Proofs.YtakidmbnkkhojaaGreatX Go.Proofs.YtakidmbnkkhojaaGreat.F Go.Proofs.YtakidmbnkkhojaaGreat Go.Proofs.YtakidmbnkkhojaaGreatM
set_option linter.unusedVariables false
set_option linter.unusedSimpArgs false
theorem i16_of {x:Int} (h:(Lit.int .i16 x).wf=true) : -32768≤x∧x≤32767:=by
  simp [Lit.wf,IntKind.min,IntKind.max,IntKind.signed,IntKind.bits] at h
  exact h
theorem sums_end {b:Int} (hb:0≤b∧b < 3) {L:List (D3×D3)} {Q:List Rat} (hL:L.length≤13) (hQ:Q.length=L.length) (sq : ∀ q ∈ Q,Sz 2 q) (good : ∀ p ∈ L,GoodP p) (a0 a1 a2 a3:Int) (l4 l5:List Int) (a6:Int) :
    Ev (fun k=>chattellaw12_SplitSums.l0 k (L.map ofP) (L.map ofR) b (Q.map ofQ) ((List.replicate L.length (7:Rat)).map ofQ) (Q.map ofS) (L.length:Int) (L.length:Int) a0 a1 a2 a3 l4 l5 a6 (lim 7) false) true:=by
  have w:=weighted_ev hb (by omega) hQ sq good
  have s7 : ∀ q ∈ List.replicate L.length (7:Rat),Sz 2 q:=fun q hq=>by rw [(List.mem_replicate.1 hq).2];exact sz_seven
  have s:=weighted_ev hb (by omega) (Q:=List.replicate L.length (7:Rat)) (by simp) s7 good
  have t:=years_ev hb (by omega) good
  have r:=refw_ev hb (by omega) hQ sq good
  have f7:=fFrom 7
  have m:=fMul t.2 sz_seven (by omega) (by decide)
  have c:=fCmpS s.2 m.2 (by omega) (by omega)
  have p1:=fPrint w.2 (by omega)
  have p2:=r5Print w.2 (by omega)
  have e:sumW b L (List.replicate L.length 7) 0 - yearsQ b L * 7=0:=by
    have h:=sum_scale (b:=b) 7 L 0
    rw [Rat.zero_mul] at h
    rw [h]
    exact Rat.sub_self
  rw [e] at c
  have hw:Ev (fun k=>split_Weighted.f k b (L.map ofP) (Q.map ofQ ++ [(⟨(⟨(⟨([]:List Int)⟩:S45),false⟩:S47),(⟨([]:List Int)⟩:S45)⟩:S49)])) (([]:List Int),false,([]:List Int),2):=by
    unfold split_Weighted.f
    refine Ev.neg ?_ (Ev.const rfl)
    simp only [List.length_append,List.length_map,List.length_cons,List.length_nil]
    omega
  refine Ev.unroll ?_
  simp only [chattellaw12_SplitSums.l0]
  refine Ev.neg (by omega) (Ev.bind w.1 (Ev.bind s.1 (Ev.bind t.1 (Ev.pos (by rw [List.length_map];omega) (Ev.bind hw (Ev.pos rfl (Ev.pos rfl (Ev.pos rfl (Ev.pos rfl (Ev.bind p1 (Ev.bind r (Ev.bind p2 (Ev.pos rfl (Ev.bindc f7 (Ev.bind m.1 (Ev.bind c (Ev.const ?_)))))))))))))))))
  rw [show rsg (0:Rat)=0 from rsg_zero.2 rfl]
  rfl
theorem sums_l0 {b:Int} (hb:0≤b∧b < 3) {L:List (D3×D3)} (hL:L.length≤13) (good : ∀ p ∈ L,GoodP p) (a0 a1 a2 a3:Int) (l4 l5:List Int) (a6:Int) (h5 : ∀ z ∈ l5,(Lit.int .i16 z).wf=true) : ∀ (r i:Nat) (Q:List Rat),i + r=L.length→Q.length=i→(∀ q ∈ Q,Sz 2 q) →
    Ev (fun k=>chattellaw12_SplitSums.l0 k (L.map ofP) (L.map ofR) b (Q.map ofQ) ((List.replicate i (7:Rat)).map ofQ) (Q.map ofS) (L.length:Int) (i:Int) a0 a1 a2 a3 l4 l5 a6 (lim 7) false) true
  | 0,i,Q,hi,hq,sq=>by
    obtain rfl:i=L.length:=by omega
    exact sums_end hb hL hq sq good a0 a1 a2 a3 l4 l5 a6
  | r + 1,i,Q,hi,hq,sq=>by
    have hw:wrap64 ((i:Int) + 1)=((i + 1:Nat):Int):=by unfold wrap64;omega
    have step : ∀ n:Int, -32768≤n∧n≤32767→Ev (fun k=>chattellaw12_SplitSums.j2 k (L.map ofP) (L.map ofR) b (Q.map ofQ) ((List.replicate i (7:Rat)).map ofQ) (Q.map ofS) n (L.length:Int) (i:Int) a0 a1 a2 a3 l4 l5 a6 (lim 7) false) true:=fun n hn=>by
      have w1:=wFrom n (by omega)
      have w2:=wFrom 12 (by decide)
      have hz:=sz_part (z:=n) (d:=12) (by decide) (by omega) (by decide)
      have l1:(lim n.natAbs).length≤1:=lim_len_le (by rw [W_one];omega)
      have l2:(lim 12).length≤1:=lim_len_le (by rw [W_one];omega)
      have f:=fOfN n 12 (by decide) (by omega) (by omega)
      have f7:=fFrom 7
      have p:=small_part n 12 12 rfl (by decide) (by omega) (by decide)
      have ih:=sums_l0 hb hL good a0 a1 a2 a3 l4 l5 a6 h5 r (i + 1) (Q ++ [mkRat n 12]) (by omega) (by simp [hq]) (fun q hq'=>(List.mem_append.1 hq').elim (sq q) fun h=>by
        rw [List.mem_singleton] at h
        subst h
        exact ⟨Nat.le_trans hz.1 (by decide),Nat.le_trans hz.2 (by decide)⟩)
      rw [List.map_append,List.map_append,List.replicate_succ',List.map_append] at ih
      refine Ev.unroll ?_
      simp only [chattellaw12_SplitSums.j2]
      rw [hw]
      exact Ev.bind w1 (Ev.bind w2 (Ev.bind f (Ev.pos (by rw [List.length_map];omega) (Ev.bindc f7 (Ev.pos (by simp;omega) (Ev.bind p (Ev.pos (by rw [List.length_map];omega) ih)))))))
    refine Ev.unroll ?_
    simp only [chattellaw12_SplitSums.l0]
    refine Ev.pos (by omega) ?_
    by_cases h:(i:Int) < (l5.length:Int)
    · refine Ev.pos h (Ev.pos (by omega) ?_)
      have hm:rd l5 (i:Int) ∈ l5:=by
        have hl:i < l5.length:=by omega
        have e:rd l5 (i:Int)=l5[i]:=by unfold rd;rw [Int.toNat_natCast,List.getD_eq_getElem?_getD,List.getElem?_eq_getElem hl];rfl
        rw [e];exact List.getElem_mem hl
      have hb16:=i16_of (h5 _ hm)
      rw [wrap_id (x:=rd l5 (i:Int)) (by omega)]
      exact step _ hb16
    · exact Ev.neg h (step _ (by omega))
theorem SplitSums : ∀ (a0 a1 a2 a3 a6:Int) (l4 l5:List Int),(Lit.int .u16 a3).wf=true→(Lit.int .u8 a6).wf=true→(∀ z ∈ l4,(Lit.int .i16 z).wf=true)→(∀ z ∈ l5,(Lit.int .i16 z).wf=true) →
    ∃ k,chattellaw12_SplitSums.f k a0 a1 a2 a3 l4 l5 a6=some true:=by
  intro a0 a1 a2 a3 a6 l4 l5 w3 w6 _ w5
  obtain ⟨x,y,l,hM,hmake⟩:=made_time a0 a1 a2 a3 a6 l4 l5 (u16_of w3)
  refine Ev.rounds (g:=fun k=>chattellaw12_SplitSums.f k a0 a1 a2 a3 l4 l5 a6) ?_
  have hb:=base_of (u8_of w6).1
  generalize hB:wrap64 (Int.tmod a6 3)=b at hb
  have hparts:=parts_ev hM.rx hM.ry hM.le hM.cuts (by have:=hM.len;omega)
  have href:Ev (fun k=>chattelref12_Parts.f k x.1 x.2.1 x.2.2 y.1 y.2.1 y.2.2 l) ((partsD wrD x y (l.map toD)).1.map ofR,(partsD wrD x y (l.map toD)).2):=by
    have hn:=hM.len
    have hb2:(l.length + 1) * (l.length + 3)≤13 * 15:=Nat.mul_le_mul (by omega) (by omega)
    exact Ev.lt 2000000 fun k hk=>parts_ref x y l (by omega) k (by omega)
  rw [parts_good hM.rx hM.ry hM.le hM.cuts] at href
  have hC:=cuts_cut hM.rx hM.ry hM.le hM.cuts
  have hG:=chain_right (cutsD x y (l.map toD)) x hM.rx hC.right hC.pw
  have hn:(chainD x (cutsD x y (l.map toD))).length≤13:=by
    have h1:=chain_count (cutsD x y (l.map toD)) x
    have h2:=hC.len
    have h3:=hM.len
    rw [List.length_map] at h2
    omega
  generalize chainD x (cutsD x y (l.map toD))=L at hparts hG hn href
  have hs:=sums_l0 hb hn hG a0 a1 a2 a3 l4 l5 a6 w5 L.length 0 [] (by omega) rfl (fun q hq=>by simp at hq)
  have w7:=wFrom 7 (by decide)
  unfold chattellaw12_SplitSums.f
  refine Ev.bind (Ev.lt 30000 hmake) (Ev.bindc hparts (Ev.bind href (Ev.bind wakes12e (Ev.pos rfl (Ev.pos rfl ?_)))))
  rw [show (((L.map ofP).length:Int) != ((L.map ofR).length:Int))=false by rw [List.length_map,List.length_map];simp]
  refine Ev.unroll ?_
  simp only [chattellaw12_SplitSums.j0]
  rw [hB,List.length_map]
  exact Ev.neg (by decide) (Ev.bind w7 hs)
end Go.Proofs.YtakidmbnkkhojaaGreat.Pure
