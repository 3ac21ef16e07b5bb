import Derived.Test.YtakidmbnkkhojaaGreatCd5eD
import Derived.Test.YtakidmbnkkhojaaGreatCd5eS4
namespace Go.Proofs.YtakidmbnkkhojaaGreatM
open Go.RowKit Go.Proofs.YtakidmbnkkhojaaGreatW.PrintWords Go.Proofs.YtakidmbnkkhojaaGreatW.PrintLast Go.Proofs.YtakidmbnkkhojaaGreatW.PrintMore Go.Proofs.YtakidmbnkkhojaaGreatX Go.Proofs.YtakidmbnkkhojaaGreat.F Go.Proofs.YtakidmbnkkhojaaGreat
set_option linter.unusedVariables false
set_option linter.unusedSimpArgs false
theorem follows_lt {z:D3} : ∀ (L:List (D3×D3)) (a:D3) (p:D3×D3),follows z a (p :: L)→cmpD a z < 0
  | [],a,p,h=>by
    obtain ⟨h1,h2,h3⟩:=h
    have h3:p.2=z:=h3
    rw [← h1,← h3];exact h2
  | q :: L,a,p,h=>by
    obtain ⟨h1,h2,h3⟩:=h
    rw [← h1]
    exact lt_trans h2 (le_of_lt (follows_lt L p.2 q h3))
theorem sum_chain {b:Int} (hb:b≠0) : ∀ (T:List D3) (a:D3) (s:Rat),RightD a→(∀ x ∈ T,RightD x)→sumW b (chainD a T) (List.replicate (chainD a T).length 1) s=s + yfP b (a,lstD a T)
  | [],a,s,ha,_=>by
    have h:yfP b (a,a)=0:=yf_self ha
    show s=s + yfP b (a,a)
    rw [h,Rat.add_zero]
  | x :: T,a,s,ha,hT=>by
    have hx:=hT x (List.mem_cons_self ..)
    have hT' : ∀ y ∈ T,RightD y:=fun y hy=>hT y (List.mem_cons_of_mem _ hy)
    have hl:lstD a (x :: T)=lstD x T:=rfl
    have hlast : ∀ (T:List D3) (x:D3),RightD x→(∀ y ∈ T,RightD y)→RightD (lstD x T):=by
      intro T
      induction T with
      | nil=>intro x hx _;exact hx
      | cons y T ih=>intro x _ h;exact ih y (h y (List.mem_cons_self ..)) fun z hz=>h z (List.mem_cons_of_mem _ hz)
    unfold chainD
    by_cases e:x=a
    · rw [if_pos e,hl,sum_chain hb T x s hx hT',e]
    · rw [if_neg e,hl,List.length_cons,List.replicate_succ]
      show sumW b (chainD x T) (List.replicate (chainD x T).length 1) (s + yfP b (a,x) * 1)=_
      rw [sum_chain hb T x _ hx hT',Rat.mul_one,Rat.add_assoc]
      have h:yfP b (a,x) + yfP b (x,lstD x T)=yfP b (a,lstD x T):=yf_add hb ha hx (hlast T x hx hT')
      rw [h]
theorem eqs_self (x:D3):(!(x.1 == x.1) || (!(x.2.1 == x.2.1) || (!(x.2.2 == x.2.2))))=false:=by simp
theorem eqs_eq (x y:D3):(x.1 == y.1 && (x.2.1 == y.2.1 && (x.2.2 == y.2.2)))=decide (x=y):=by
  obtain ⟨a,b,c⟩:=x
  obtain ⟨p,q,r⟩:=y
  simp only [Prod.mk.injEq]
  by_cases h1:a=p <;> by_cases h2:b=q <;> by_cases h3:c=r <;> simp [h1,h2,h3]
theorem whole_l0 {L:List (D3×D3)} (hL:L.length≤1000) {x y:D3} {R:Bool} (fin:Ev (fun k=>chattellaw12_SplitWhole.l0 k (L.map ofP) (L.map ofP) (L.length:Int) (L.length:Int) x.1 x.2.1 x.2.2 y.1 y.2.1 y.2.2 y.1 y.2.1 y.2.2) R) : ∀ (r i:Nat) (a:D3),i + r=L.length→follows y a (L.drop i) →
    Ev (fun k=>chattellaw12_SplitWhole.l0 k (L.map ofP) (L.map ofP) (L.length:Int) (i:Int) x.1 x.2.1 x.2.2 y.1 y.2.1 y.2.2 a.1 a.2.1 a.2.2) R
  | 0,i,a,hi,hf=>by
    obtain rfl:i=L.length:=by omega
    rw [List.drop_eq_nil_of_le (Nat.le_refl _)] at hf
    have hf:a=y:=hf
    subst hf
    exact fin
  | r + 1,i,a,hi,hf=>by
    have h1:i < L.length:=by omega
    rw [drop_cons L i h1] at hf
    obtain ⟨f1,f2,f3⟩:=hf
    have ih:=whole_l0 hL fin r (i + 1) L[i].2 (by omega) f3
    have c1:(i:Int) < (L.length:Int):=by omega
    have c3:(i:Int) < ((L.map ofP).length:Int):=by rw [List.length_map];exact c1
    have hw:wrap64 ((i:Int) + 1)=((i + 1:Nat):Int):=by unfold wrap64;omega
    refine Ev.unroll ?_
    simp only [chattellaw12_SplitWhole.l0]
    rw [rd_P L i h1,hw,← f1]
    generalize L[i]=p at *
    have e1:(ofP p).f0.f0=p.1.1:=rfl
    have e2:(ofP p).f0.f1=p.1.2.1:=rfl
    have e3:(ofP p).f0.f2=p.1.2.2:=rfl
    have e4:(ofP p).f1.f0=p.2.1:=rfl
    have e5:(ofP p).f1.f1=p.2.2.1:=rfl
    have e6:(ofP p).f1.f2=p.2.2.2:=rfl
    rw [e1,e2,e3,e4,e5,e6,eqs_self]
    exact Ev.pos c1 (Ev.pos (by omega) (Ev.pos c3 (Ev.neg (by decide) (Ev.bind (a:=cmpD p.1 p.2) (Ev.lt 3 fun k hk=>cmp_eq _ _ _ _ _ _ k hk) (Ev.neg (by omega) ih)))))
end Go.Proofs.YtakidmbnkkhojaaGreatM
namespace Go.Proofs.YtakidmbnkkhojaaGreat.Pure
open Go.RowKit Go.Proofs.YtakidmbnkkhojaaGreatW.PrintWords Go.Proofs.YtakidmbnkkhojaaGreatW.PrintLast Go.Proofs.YtakidmbnkkhojaaGreatW.PrintMore Go.Proofs.YtakidmbnkkhojaaGreatX Go.Proofs.YtakidmbnkkhojaaGreat.F Go.Proofs.YtakidmbnkkhojaaGreat Go.Proofs.YtakidmbnkkhojaaGreatM
theorem SplitWhole : ∀ (a0 a1 a2 a3 a6:Int) (l4 l5:List Int),(Lit.int .u16 a3).wf=true→(Lit.int .u8 a6).wf=true→(∀ z ∈ l4,(Lit.int .i16 z).wf=true)→(∀ z ∈ l5,(Lit.int .i16 z).wf=true) →
    ∃ k,chattellaw12_SplitWhole.f k a0 a1 a2 a3 l4 l5 a6=some true:=by
  intro a0 a1 a2 a3 a6 l4 l5 w3 w6 _ _
  obtain ⟨x,y,l,hM,hmake⟩:=made_time a0 a1 a2 a3 a6 l4 l5 (u16_of w3)
  refine Ev.rounds (g:=fun k=>chattellaw12_SplitWhole.f k a0 a1 a2 a3 l4 l5 a6) ?_
  have hparts:=parts_ev hM.rx hM.ry hM.le hM.cuts (by have:=hM.len;omega)
  have hC:=cuts_cut hM.rx hM.ry hM.le hM.cuts
  have hG:=chain_right (cutsD x y (l.map toD)) x hM.rx hC.right hC.pw
  have hn:(chainD x (cutsD x y (l.map toD))).length≤13:=by
    have h1:=chain_count (cutsD x y (l.map toD)) x
    have h2:=hC.len
    have h3:=hM.len
    rw [List.length_map] at h2
    omega
  have hF:=chain_follows y _ x hC.pw hC.last
  have hS : ∀ b:Int,b≠0→yearsQ b (chainD x (cutsD x y (l.map toD)))=yfP b (x,y):=fun b hb=>by
    unfold yearsQ
    rw [sum_chain hb _ x 0 hM.rx hC.right,hC.last,Rat.zero_add]
  generalize chainD x (cutsD x y (l.map toD))=L at hparts hG hn hF hS
  have hcond:((((L.map ofP).length:Int) == 0) != (x.1 == y.1 && (x.2.1 == y.2.1 && (x.2.2 == y.2.2))))=false:=by
    rw [eqs_eq,List.length_map]
    cases L with
    | nil=>have hF:x=y:=hF;rw [decide_eq_true hF];rfl
    | cons p L =>
      have h1:=follows_lt L x p hF
      have h2 : ¬ x=y:=fun e=>by rw [e] at h1;exact cmp_self y h1
      rw [decide_eq_false h2]
      have h3:((((p :: L).length:Nat):Int) == 0)=false:=by rw [List.length_cons];exact beq_eq_false_iff_ne.2 (by omega)
      rw [h3];rfl
  have step : ∀ (b i:Int) (hb:0≤b∧b < 3) (hb0:b≠0) (hi:0≤i∧i < 2) (hr:rd [1,2] i=b),Ev (fun k=>chattellaw12_SplitWhole.l1 k (L.map ofP) [1,2] 2 (wrap64 (i + 1)) x.1 x.2.1 x.2.2 y.1 y.2.1 y.2.2) true →
      Ev (fun k=>chattellaw12_SplitWhole.l1 k (L.map ofP) [1,2] 2 i x.1 x.2.1 x.2.2 y.1 y.2.1 y.2.2) true:=fun b i hb hb0 hi hr next=>by
    have h1:=years_ev hb (by omega) hG
    have h2:=yf_ev hb hM.rx hM.ry hM.le
    have h3:=fCmpS h1.2 h2.2 (by omega) (by decide)
    have e:yearsQ b L=yf b x.1 x.2.1 x.2.2 y.1 y.2.1 y.2.2:=hS b hb0
    have e0:yearsQ b L - yf b x.1 x.2.1 x.2.2 y.1 y.2.1 y.2.2=0:=by rw [e];exact Rat.sub_self
    rw [e0] at h3
    refine Ev.unroll ?_
    simp only [chattellaw12_SplitWhole.l1]
    rw [hr]
    exact Ev.pos (by omega) (Ev.pos hi.1 (Ev.pos (by simp only [List.length_cons,List.length_nil];omega) (Ev.bind h1.1 (Ev.bind h2.1 (Ev.pos rfl (Ev.pos rfl (Ev.bind h3 (Ev.pos (rsg_zero.2 rfl) next))))))))
  unfold chattellaw12_SplitWhole.f
  refine Ev.bind (Ev.lt 30000 hmake) (Ev.bindc hparts (Ev.bind wakes12e (Ev.pos rfl (Ev.pos rfl ?_))))
  rw [hcond]
  refine Ev.unroll ?_
  simp only [chattellaw12_SplitWhole.j0]
  refine Ev.neg (by decide) ?_
  rw [List.length_map]
  refine whole_l0 (by omega) ?_ L.length 0 x (by omega) hF
  refine Ev.unroll ?_
  simp only [chattellaw12_SplitWhole.l0]
  refine Ev.neg (by omega) ?_
  rw [eqs_self]
  refine Ev.neg (by decide) (Ev.bindc rfl ?_)
  refine step 1 0 (by decide) (by decide) (by decide) rfl ?_
  rw [show wrap64 ((0:Int) + 1)=1 by simp [wrap64]]
  refine step 2 1 (by decide) (by decide) (by decide) rfl ?_
  refine Ev.unroll ?_
  simp only [chattellaw12_SplitWhole.l1]
  exact Ev.neg (by simp [wrap64]) (Ev.const rfl)
end Go.Proofs.YtakidmbnkkhojaaGreat.Pure
