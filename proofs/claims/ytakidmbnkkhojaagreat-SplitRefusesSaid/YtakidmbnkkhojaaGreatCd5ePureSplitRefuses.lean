import Derived.Test.YtakidmbnkkhojaaGreatCd5eD
import Derived.Test.YtakidmbnkkhojaaGreatCd5eS4
namespace Go.Proofs.YtakidmbnkkhojaaGreat.Pure
open Go.RowKit Go.Proofs.YtakidmbnkkhojaaGreatW.PrintWords Go.Proofs.YtakidmbnkkhojaaGreatW.PrintLast Go.Proofs.YtakidmbnkkhojaaGreatW.PrintMore Go.Proofs.YtakidmbnkkhojaaGreatX Go.Proofs.YtakidmbnkkhojaaGreat.F Go.Proofs.YtakidmbnkkhojaaGreat Go.Proofs.YtakidmbnkkhojaaGreatM
set_option linter.unusedVariables false
set_option linter.unusedSimpArgs false
theorem SplitRefuses : ∀ (a0 a1 a2 a3 a6:Int) (l4 l5:List Int) (d0 d1 d2 e0 e1 e2 t:Int),(Lit.int .u16 a3).wf=true→(Lit.int .u8 a6).wf=true→(∀ z ∈ l4,(Lit.int .i16 z).wf=true)→(∀ z ∈ l5,(Lit.int .i16 z).wf=true) →
    ∃ k,chattellaw12_SplitRefuses.f k a0 a1 a2 a3 l4 l5 a6 d0 d1 d2 e0 e1 e2 t=some true:=by
  intro a0 a1 a2 a3 a6 l4 l5 d0 d1 d2 e0 e1 e2 t w3 w6 _ _
  obtain ⟨x,y,l,hM,hmake⟩:=made_time a0 a1 a2 a3 a6 l4 l5 (u16_of w3)
  refine Ev.rounds (g:=fun k=>chattellaw12_SplitRefuses.f k a0 a1 a2 a3 l4 l5 a6 d0 d1 d2 e0 e1 e2 t) ?_
  have hb:=base_of (u8_of w6).1
  generalize hB:wrap64 (Int.tmod a6 3)=b at hb
  have hparts:=parts_ev hM.rx hM.ry hM.le hM.cuts (by have:=hM.len;omega)
  have hC:=cuts_cut hM.rx hM.ry hM.le hM.cuts
  have hG:=chain_right (cutsD x y (l.map toD)) x hM.rx hC.right hC.pw
  have hn:(chainD x (cutsD x y (l.map toD))).length≤13:=by
    have h1:=chain_count (cutsD x y (l.map toD)) x
    have h2:=hC.len
    have h3:=hM.len
    rw [List.length_map] at h2
    omega
  generalize chainD x (cutsD x y (l.map toD))=L at hparts hG hn
  obtain ⟨p,ep⟩ : ∃ p:D3×D3,p=((d0,d1,d2),(e0,e1,e2)):=⟨_,rfl⟩
  have hlast:L.map ofP ++ [(⟨⟨d0,d1,d2⟩,⟨e0,e1,e2⟩⟩:S55)]=(L ++ [p]).map ofP:=by rw [List.map_append,ep];rfl
  obtain ⟨Y,e,hY,hZ⟩ : ∃ (Y Z:List Int×Bool×List Int×Int),Ev (fun k=>count_Year.f k b d0 d1 d2 e0 e1 e2) Y∧(Ev (fun k=>split_Years.f k b ((L ++ [p]).map ofP)) Z∧Z.2.2.2=Y.2.2.2):=by
    by_cases hp:GoodP p
    · have h1:=(yf_ev hb hp.1 hp.2.1 hp.2.2).1
      have h2:=(years_ev hb (L:=L ++ [p]) (by simp;omega) (fun q hq=>(List.mem_append.1 hq).elim (hG q) fun h=>by rw [List.mem_singleton] at h;subst h;exact hp)).1
      rw [ep] at h1
      exact ⟨_,_,h1,h2,rfl⟩
    · obtain ⟨e,he,h1⟩:=year_bad hb hp
      have h2:=years_last hb (by omega) hG he h1
      rw [ep] at h1
      exact ⟨_,_,h1,h2,rfl⟩
  obtain ⟨Z1,hZ1,hg⟩ : ∃ Z:List Int×Bool×List Int×Int,Ev (fun k=>split_Years.f k t (([((x,y):D3×D3)]).map ofP)) Z∧(Z.2.2.2 == 2)=decide (t < 0∨t > 2):=by
    by_cases ht:0≤t∧t < 3
    · have h2:=(years_ev ht (L:=[((x,y):D3×D3)]) (by simp) (fun q hq=>by rw [List.mem_singleton] at hq;subst hq;exact ⟨hM.rx,hM.ry,hM.le⟩)).1
      exact ⟨_,h2,(decide_eq_false (show ¬ (t < 0∨t > 2) by omega)).symm⟩
    · refine ⟨_,years_of (L:=[((x,y):D3×D3)]) (by simp) (R:=(([]:List Int),false,([]:List Int),2)) ?_,(decide_eq_true (show t < 0∨t > 2 by omega)).symm⟩
      unfold split_Weighted.f
      refine Ev.pos rfl (Ev.unroll ?_)
      simp only [split_Weighted.l0]
      exact Ev.pos (by simp) (Ev.pos (by decide) (Ev.pos (by simp) (Ev.bind (year_base ht (x,y)) (Ev.neg (by decide) (Ev.const rfl)))))
  unfold chattellaw12_SplitRefuses.f
  refine Ev.bind (Ev.lt 30000 hmake) ?_
  simp only [hB]
  refine Ev.bindc hparts (Ev.bind hY (Ev.bindc rfl (Ev.pos (by rw [List.length_map];simp only [List.length_cons,List.length_nil];omega) ?_)))
  simp only [hlast]
  refine Ev.bind hZ.1 (Ev.bind (years_nil t) (Ev.bind hZ1 (Ev.bind wakes12e (Ev.pos rfl (Ev.pos hZ.2 (Ev.pos rfl (Ev.bindc sign_nil (Ev.pos rfl ?_))))))))
  simp only [hg]
  by_cases h0:t < 0
  · exact Ev.pos h0 (Ev.const (by rw [decide_eq_true (show t < 0∨t > 2 from .inl h0)];rfl))
  · refine Ev.neg h0 (Ev.const ?_)
    by_cases h2:t > 2
    · rw [decide_eq_true (show t < 0∨t > 2 from .inr h2),decide_eq_true h2];rfl
    · rw [decide_eq_false (show ¬ (t < 0∨t > 2) by omega),decide_eq_false h2];rfl
end Go.Proofs.YtakidmbnkkhojaaGreat.Pure
