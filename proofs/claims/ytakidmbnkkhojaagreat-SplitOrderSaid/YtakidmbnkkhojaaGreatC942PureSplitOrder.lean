import Derived.Test.YtakidmbnkkhojaaGreatC942D
import Derived.Test.YtakidmbnkkhojaaGreatC942S6
namespace Go.Proofs.YtakidmbnkkhojaaGreat.Pure
open Go.RowKit Go.Proofs.YtakidmbnkkhojaaGreatW.PrintWords Go.Proofs.YtakidmbnkkhojaaGreatW.PrintLast Go.Proofs.YtakidmbnkkhojaaGreatW.PrintMore Go.Proofs.YtakidmbnkkhojaaGreatX Go.Proofs.YtakidmbnkkhojaaGreat.F Go.Proofs.YtakidmbnkkhojaaGreat Go.Proofs.YtakidmbnkkhojaaGreatM
set_option linter.unusedVariables false
set_option linter.unusedSimpArgs false
theorem SplitOrder : ∀ (a0 a1 a2 a3 a6:Int) (l4 l5:List Int) (t:Int),(Lit.int .u16 a3).wf=true→(Lit.int .u8 a6).wf=true→(∀ z ∈ l4,(Lit.int .i16 z).wf=true)→(∀ z ∈ l5,(Lit.int .i16 z).wf=true)→(Lit.int .u16 t).wf=true →
    ∃ k,chattellaw12_SplitOrder.f k a0 a1 a2 a3 l4 l5 a6 t=some true:=by
  intro a0 a1 a2 a3 a6 l4 l5 t w3 w6 _ _ wt
  obtain ⟨x,y,l,hM,hmake⟩:=made_time a0 a1 a2 a3 a6 l4 l5 (u16_of w3)
  refine Ev.rounds (g:=fun k=>chattellaw12_SplitOrder.f k a0 a1 a2 a3 l4 l5 a6 t) ?_
  have hlen:=hM.len
  have nx:=num_top hM.rx
  have ny:=num_top hM.ry
  have ht:=u16_of wt
  obtain ⟨r,hr,hrev⟩:=rev_ev l (by omega)
  have hrl:r.length=l.length:=hr.length_eq
  have hrm : ∀ z,z ∈ r.map toD ↔ z ∈ l.map toD:=fun z=>(hr.map toD).mem_iff
  obtain ⟨D,eD⟩ : ∃ D,D=numD y - numD x:=⟨_,rfl⟩
  have hD:0≤D∧D≤3652059:=by have:=hM.le;unfold numD at *;omega
  have hmod:Int.tmod (wrap64 t) (wrap64 (D + 1))=t % (D + 1):=by
    rw [wrap_id (x:=t) (by omega),wrap_id (x:=D + 1) (by omega)]
    exact Int.tmod_eq_emod_of_nonneg ht.1
  have hq0:=Int.emod_nonneg t (show D + 1≠0 by omega)
  have hq1:=Int.emod_lt_of_pos t (show 0 < D + 1 by omega)
  obtain ⟨m,hm,hmn,hadd⟩ : ∃ m:D3,RightD m∧numD m=numD x + t % (D + 1)∧∀ k,20200 < k→month_AddDays.f k x.1 x.2.1 x.2.2 (t % (D + 1))=some (m.1,m.2.1,m.2.2,0):=by
    obtain ⟨y2,m2,d2,h1,h2,h3⟩:=further (a:=t % (D + 1)) hM.rx (by unfold numD at eD;omega)
    exact ⟨(y2,m2,d2),h1,h2,h3⟩
  have h1:numD x≤numD m:=by omega
  have h2:numD m≤numD y:=by omega
  have hrr : ∀ z ∈ r.map toD,RightD z:=fun z hz=>hM.cuts z ((hrm z).1 hz)
  have hrl2 : ∀ z ∈ (r ++ l).map toD,RightD z:=fun z hz=>by
    rw [List.map_append,List.mem_append] at hz
    exact hz.elim (hrr z) (hM.cuts z)
  have hrm2 : ∀ z ∈ (r ++ [(⟨m.1,m.2.1,m.2.2⟩:S28)]).map toD,RightD z:=fun z hz=>by
    rw [List.map_append,List.mem_append] at hz
    rcases hz with hz|hz
    · exact hrr z hz
    · rw [List.map_cons,List.map_nil,List.mem_singleton] at hz
      subst hz
      exact hm
  have p1:=parts_ev hM.rx hM.ry hM.le hM.cuts (by omega)
  have p2:=parts_ev hM.rx hM.ry hM.le hrl2 (by rw [List.length_append];omega)
  have p3:=parts_ev hM.rx hm h1 hM.cuts (by omega)
  have p4:=parts_ev hm hM.ry h2 hM.cuts (by omega)
  have p5:=parts_ev hM.rx hM.ry hM.le hrm2 (by rw [List.length_append];simp only [List.length_cons,List.length_nil];omega)
  have e1:chainD x (cutsD x y ((r ++ l).map toD))=chainD x (cutsD x y (l.map toD)):=parts_same hM.rx hM.ry hM.le hrl2 hM.cuts fun z=>by
    rw [List.map_append,List.mem_append,hrm z]
    exact ⟨fun h=>h.elim id id, .inl⟩
  have e2:chainD x (cutsD x m (l.map toD)) ++ chainD m (cutsD m y (l.map toD))=chainD x (cutsD x y ((r ++ [(⟨m.1,m.2.1,m.2.2⟩:S28)]).map toD)):=parts_split hM.rx hm hM.ry h1 h2 hM.cuts hrm2 fun z=>by
    rw [List.map_append,List.mem_append,hrm z,List.map_cons,List.map_nil,List.mem_singleton]
    exact Iff.rfl
  have c1:=cuts_cut hM.rx hM.ry hM.le hM.cuts
  have c3:=cuts_cut hM.rx hm h1 hM.cuts
  have c4:=cuts_cut hm hM.ry h2 hM.cuts
  have n1:=chain_count (cutsD x y (l.map toD)) x
  have n3:=chain_count (cutsD x m (l.map toD)) x
  have n4:=chain_count (cutsD m y (l.map toD)) m
  have m1:=c1.len
  have m3:=c3.len
  have m4:=c4.len
  rw [List.length_map] at m1 m3 m4
  rw [e1] at p2
  rw [← e2] at p5
  generalize chainD x (cutsD x y (l.map toD))=L1 at p1 p2 n1
  generalize chainD x (cutsD x m (l.map toD))=L3 at p3 p5 n3
  generalize chainD m (cutsD m y (l.map toD))=L4 at p4 p5 n4
  have q1:=equal_ev L1 (by omega)
  have q2:=equal_ev (L3 ++ L4) (by rw [List.length_append];omega)
  have hbet:Ev (fun k=>month_Between.f k x.1 x.2.1 x.2.2 y.1 y.2.1 y.2.2) (D,0):=Ev.lt 14 fun k hk=>by
    rw [between_eq _ _ _ _ _ _ k hk,if_pos (show Right x.1 x.2.1 x.2.2 from hM.rx),if_pos (show Right y.1 y.2.1 y.2.2 from hM.ry),eD]
    rfl
  have hclone:api_Date_27.f l=some l:=by
    unfold api_Date_27.f
    rw [Option.bind_some,if_pos (by simp only [List.length_nil];omega),List.nil_append]
  unfold chattellaw12_SplitOrder.f
  refine Ev.bind (Ev.lt 30000 hmake) (Ev.bindc p1 (Ev.bindc hclone (Ev.bind hrev (Ev.pos (by simp only;omega) (Ev.bindc p2 (Ev.bind hbet (Ev.neg (by rw [wrap_id (x:=D + 1) (by omega)];omega) ?_)))))))
  simp only [hmod]
  refine Ev.bind (Ev.lt 20200 hadd) (Ev.bindc p3 (Ev.bindc p4 (Ev.pos (by omega) (Ev.bindc p5 (Ev.bind wakes12e (Ev.pos (by first|trivial|rfl) (Ev.pos (by first|trivial|rfl) (Ev.pos (by first|trivial|rfl) (Ev.pos (by first|trivial|rfl) (Ev.pos (by first|trivial|rfl) (Ev.pos (by first|trivial|rfl) (Ev.bind q1 (Ev.pos (by first|trivial|rfl) (Ev.pos (by rw [List.length_map,List.length_map];omega) ?_))))))))))))))
  rw [List.map_append] at q2
  simp only [List.map_append]
  exact Ev.bind q2 (Ev.const rfl)
end Go.Proofs.YtakidmbnkkhojaaGreat.Pure
