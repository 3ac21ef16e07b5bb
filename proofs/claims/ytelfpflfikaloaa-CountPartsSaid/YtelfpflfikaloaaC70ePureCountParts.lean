import Derived.Test.YtelfpflfikaloaaC70eD
import Derived.Test.YtelfpflfikaloaaC70eA1
namespace Go.Proofs.Ytelfpflfikaloaa.Pure
open Go.RowKit Go.Proofs.Ytelfpflfikaloaa.F Go.Proofs.YtelfpflfikaloaaW.PrintWords Go.Proofs.YtelfpflfikaloaaW.PrintLast Go.Proofs.YtelfpflfikaloaaM
set_option linter.unusedVariables false
set_option linter.unusedSimpArgs false
theorem near_ev (a b c p q r:Int) : ∃ y m d y2 m2 d2,Ev (fun k=>chattellaw11_near.f k a b c p q r) (y,m,d,y2,m2,d2)∧Right y m d∧Right y2 m2 d2∧num y m d < num y2 m2 d2:=by
  have hA:=made_right a b c 9980 (by decide) (by decide)
  have hB:=made_right p q r 12 (by decide) (by decide)
  have mA:=make_eq a b c 9980 (by decide) (by decide)
  have mB:=make_eq p q r 12 (by decide) (by decide)
  generalize made a b c 9980=A at *
  generalize made p q r 12=B at *
  obtain ⟨y,m,d⟩:=A
  obtain ⟨y2,m2,d2⟩:=B
  simp only at hA hB
  obtain ⟨a1,a2,a3,a4⟩:=hA.1.in_
  obtain ⟨b1,b2,b3,b4⟩:=hB.1.in_
  have hy:1≤y2 + y∧y2 + y≤9999:=by omega
  have hd:days (y2 + y) m2=dm (y2 + y) m2:=days_in hy b2
  have hdm:=dm_bd (y2 + y) m2
  have hC:Right (y2 + y) m2 (mn d2 (days (y2 + y) m2)):=by
    unfold Right
    rw [hd,mn_eq]
    omega
  have hlt:=num_year hA.1 hC (by omega)
  refine ⟨y,m,d,y2 + y,m2,mn d2 (days (y2 + y) m2),?_,hA.1,hC,hlt⟩
  refine Ev.lt 10 fun k hk=>?_
  unfold chattellaw11_near.f
  rw [mA k (by omega),Option.bind_some,mB k (by omega),Option.bind_some]
  simp only
  rw [wrap_id (x:=y2 + y) (by omega),ref_days _ _ k (by omega),Option.bind_some,refcmp_eq _ _ _ _ _ _ k (by omega),Option.bind_some,or3_num hA.1 hC,sg_lt_d hlt,if_neg (by decide)]
theorem parts_l0 {y m d y1 m1 d1 y2 m2 d2:Int} (h1:Right y m d) (h2:Right y1 m1 d1) (h3:Right y2 m2 d2) (o1:num y m d≤num y1 m1 d1) (o2:num y1 m1 d1≤num y2 m2 d2) :
    ∀ (t:Nat) (b:Int),0≤b→b + t=3→Ev (fun k=>chattellaw11_CountParts.l0 k b y m d y2 m2 d2 y1 m1 d1) true:=by
  intro t
  induction t with
  | zero =>
    intro b h0 hb
    refine Ev.unroll ?_
    simp only [chattellaw11_CountParts.l0]
    exact Ev.neg (by omega) (Ev.bind wakes11c (Ev.const rfl))
  | succ t ih =>
    intro b h0 hb
    have hb3:0≤b∧b < 3:=by omega
    have next:=ih (b + 1) (by omega) (by omega)
    have e1:=yf_ev hb3 h1 h3 (by omega)
    have e2:=yf_ev hb3 h1 h2 o1
    have e3:=yf_ev hb3 h2 h3 o2
    have e4:=yf_ev hb3 h2 h2 (by omega)
    have hs:=yf_self (b:=b) h2
    refine Ev.unroll ?_
    simp only [chattellaw11_CountParts.l0]
    refine Ev.pos hb3.2 (Ev.bind e1.1 (Ev.bind e2.1 (Ev.bind e3.1 (Ev.bind e4.1 (Ev.pos rfl (Ev.pos rfl (Ev.pos rfl (Ev.pos rfl (Ev.bindc (fSign _) ?_)))))))))
    rw [hs]
    have z0:rsg (0:Rat)=0:=rsg_zero.2 rfl
    rw [z0]
    refine Ev.unroll ?_
    simp only [chattellaw11_CountParts.j1]
    refine Ev.neg (by decide) ?_
    by_cases c0:b=0
    · refine Ev.pos c0 ?_
      rw [wrap_id (by omega)]
      exact next
    · refine Ev.neg c0 ?_
      have ha:=yf_add c0 h1 h2 h3
      have p1:=yf_nonneg c0 h1 h3 (by omega)
      have p2:=yf_nonneg c0 h2 h3 o2
      have f:=fAdd e2.2 e3.2 (by decide) (by decide)
      have c1:=fCmpS f.2 e1.2 (by decide) (by decide)
      have c2:=fCmpS e2.2 e1.2 (by decide) (by decide)
      have g1:rsg (yf b y m d y1 m1 d1 + yf b y1 m1 d1 y2 m2 d2 - yf b y m d y2 m2 d2)=0:=by
        rw [ha];exact rsg_zero.2 Rat.sub_self
      have g2:yf b y m d y1 m1 d1 - yf b y m d y2 m2 d2 = -(yf b y1 m1 d1 y2 m2 d2):=by
        rw [← ha];grind
      have g3:=rsg_nonneg p2
      have g4:=rsg_nonneg p1
      rw [g1] at c1
      rw [g2,rsg_neg] at c2
      refine Ev.bind f.1 (Ev.bind c1 (Ev.pos rfl (Ev.bind c2 (Ev.neg (by omega) (Ev.bindc (fSign _) (Ev.neg (by omega) ?_))))))
      rw [wrap_id (by omega)]
      exact next
theorem CountParts:chattellaw11_CountParts.Pure:=by
  intro a b c p q r at_ _ _ _ _ _ _ w
  have hw:=u16_of w
  obtain ⟨y,m,d,y2,m2,d2,hn,h1,h2,ho⟩:=near_ev a b c p q r
  have n1:=num_top h1
  have n2:=num_top h2
  refine Ev.rounds ?_
  unfold chattellaw11_CountParts.f
  refine Ev.bind hn (Ev.bind (a:=(num y2 m2 d2 - num y m d,0)) (Ev.lt 14 fun k hk=>by rw [between_eq _ _ _ _ _ _ k hk,if_pos h1,if_pos h2]) ?_)
  have e1:wrap64 (num y2 m2 d2 - num y m d + 1)=num y2 m2 d2 - num y m d + 1:=wrap_id (by omega)
  have e2:wrap64 at_=at_:=wrap_id (by omega)
  simp only
  rw [e1,e2,tmod_pos_ _ hw.1]
  have m0:0≤at_ % (num y2 m2 d2 - num y m d + 1):=Int.emod_nonneg _ (by omega)
  have m1:at_ % (num y2 m2 d2 - num y m d + 1) < num y2 m2 d2 - num y m d + 1:=Int.emod_lt_of_pos _ (by omega)
  generalize at_ % (num y2 m2 d2 - num y m d + 1)=v at *
  obtain ⟨y1,mm,d1,h3,h4,h5⟩:=further (a:=v) h1 (by omega)
  refine Ev.neg (by omega) (Ev.bind (Ev.lt 20200 fun k hk=>h5 k hk) ?_)
  exact parts_l0 h1 h3 h2 (by omega) (by omega) 3 0 (by decide) (by decide)
end Go.Proofs.Ytelfpflfikaloaa.Pure
