import Derived.Test.YtlfdghofoobkmaaGreatCdb6D
import Derived.Test.YtlfdghofoobkmaaGreatCdb6A2
namespace Go.Proofs.YtlfdghofoobkmaaGreat.Pure
open Go.RowKit Go.Proofs.YtlfdghofoobkmaaGreat.F Go.Proofs.YtlfdghofoobkmaaGreatW.PrintWords Go.Proofs.YtlfdghofoobkmaaGreatW.PrintLast Go.Proofs.YtlfdghofoobkmaaGreatM
set_option linter.unusedVariables false
set_option linter.unusedSimpArgs false
theorem near_ev (a b c p q r:Int) : ∃ y m d y2 m2 d2,Ev (fun k=>chattellaw11_near.f k a b c p q r) (y,m,d,y2,m2,d2)∧Right y m d∧Right y2 m2 d2∧num y m d < num y2 m2 d2:=by
  have hA:=made_right a b c 9980 (by decide) (by decide)
  have hB:=made_right p q r 12 (by decide) (by decide)
  have mA:=make_eq a b c 9980 (by decide) (by decide)
  have mB:=make_eq p q r 12 (by decide) (by decide)
  generalize made a b c 9980=A at *
  generalize made p q r 12=B at *
  obtain ⟨y,m,d⟩:=A
  obtain ⟨y2,m2,d2⟩:=B
  simp only at hA hB
  obtain ⟨a1,a2,a3,a4⟩:=hA.1.in_
  obtain ⟨b1,b2,b3,b4⟩:=hB.1.in_
  have hy:1≤y2 + y∧y2 + y≤9999:=by omega
  have hd:days (y2 + y) m2=dm (y2 + y) m2:=days_in hy b2
  have hdm:=dm_bd (y2 + y) m2
  have hC:Right (y2 + y) m2 (mn d2 (days (y2 + y) m2)):=by
    unfold Right
    rw [hd,mn_eq]
    omega
  have hlt:=num_year hA.1 hC (by omega)
  refine ⟨y,m,d,y2 + y,m2,mn d2 (days (y2 + y) m2),?_,hA.1,hC,hlt⟩
  refine Ev.lt 10 fun k hk=>?_
  unfold chattellaw11_near.f
  rw [mA k (by omega),Option.bind_some,mB k (by omega),Option.bind_some]
  simp only
  rw [wrap_id (x:=y2 + y) (by omega),ref_days _ _ k (by omega),Option.bind_some,refcmp_eq _ _ _ _ _ _ k (by omega),Option.bind_some,or3_num hA.1 hC,sg_lt_d hlt,if_neg (by decide)]
theorem sign_none:frac_Frac_Sign.f ([]:List Int) false ([]:List Int)=some 0:=by
  have h:=fSign (0:Rat) (l:=[])
  rw [show (0:Rat).num=0 from rfl,show (0:Int).natAbs=0 from rfl,lim_zero] at h
  rw [show rsg (0:Rat)=0 from rsg_zero.2 rfl] at h
  exact h
theorem right_ev (y m d:Int):Ev (fun k=>chattelref09_Right.f k y m d) (decide (Right y m d)):=Ev.lt 1 fun k hk=>ref_right _ _ _ k hk
theorem same_text {x y:ByteArray} (h:x=y):(x.toList != y.toList)=false:=by rw [h];simp
theorem tells_j5 {a b c p q r y m d y2 m2 d2 t:Int} (h1:Right y m d) (h2:Right y2 m2 d2) (ho:num y m d≤num y2 m2 d2) {L:List Int} {n i:Int}
    (next:Ev (fun k=>chattellaw11_CountTells.l0 k L n (wrap64 (i + 1)) a b c p q r y m d y2 m2 d2) true) :
    Ev (fun k=>chattellaw11_CountTells.j5 k t L n i false a b c p q r y m d y2 m2 d2) true:=by
  refine Ev.unroll ?_
  simp only [chattellaw11_CountTells.j5]
  refine Ev.neg (by decide) ?_
  by_cases c1:t < 0
  · refine Ev.pos c1 (Ev.unroll ?_)
    simp only [chattellaw11_CountTells.j6]
    exact Ev.pos (by decide) next
  · refine Ev.neg c1 ?_
    by_cases c2:t > 2
    · rw [decide_eq_true c2]
      refine Ev.unroll ?_
      simp only [chattellaw11_CountTells.j6]
      exact Ev.pos (by decide) next
    · rw [decide_eq_false c2]
      have f:=yf_ev (b:=t) (by omega) h1 h2 ho
      have g:=rYear (b:=t) (by omega) h1 h2 ho
      have f2:=fPrint f.2 (by decide)
      have g2:=r5Print f.2 (by decide)
      refine Ev.unroll ?_
      simp only [chattellaw11_CountTells.j6]
      exact Ev.neg (by decide) (Ev.bind f.1 (Ev.pos rfl (Ev.bind f2 (Ev.bind g (Ev.bind g2 (Ev.pos rfl next))))))
theorem tells_err {a b c p q r y m d y2 m2 d2 t e:Int} (he:e≠0) {L:List Int} {n i:Int}
    (next:Ev (fun k=>chattellaw11_CountTells.j5 k t L n i false a b c p q r y m d y2 m2 d2) true) :
    Ev (fun k=>chattellaw11_CountTells.j3 k t e e L n i a b c p q r y m d y2 m2 d2 [] false []) true:=by
  refine Ev.unroll ?_
  simp only [chattellaw11_CountTells.j3]
  refine Ev.pos (by first|trivial|rfl) (Ev.neg he (Ev.bindc sign_none ?_))
  refine Ev.unroll ?_
  simp only [chattellaw11_CountTells.j4]
  exact Ev.neg (by decide) (Ev.neg he next)
theorem tells_step {a b c p q r y m d y2 m2 d2 t:Int} (h1:Right y m d) (h2:Right y2 m2 d2) (ho:num y m d≤num y2 m2 d2) {L:List Int} {n:Int} {i:Nat} (hi:(i:Int) < n) (hl:(i:Int) < (L.length:Int)) (hrd:rd L (i:Int)=t)
    (next:Ev (fun k=>chattellaw11_CountTells.l0 k L n (wrap64 ((i:Int) + 1)) a b c p q r y m d y2 m2 d2) true) :
    Ev (fun k=>chattellaw11_CountTells.l0 k L n (i:Int) a b c p q r y m d y2 m2 d2) true:=by
  have fin:=tells_j5 (t:=t) h1 h2 ho next
  refine Ev.unroll ?_
  simp only [chattellaw11_CountTells.l0]
  refine Ev.pos hi (Ev.pos (by omega) (Ev.pos hl ?_))
  rw [hrd]
  clear hrd hl hi next h1 h2 ho
  by_cases hb:t < 0∨t > 2
  · have bad:count_Basis_good.f t=some false:=by
      unfold count_Basis_good.f
      by_cases h0:t ≥ 0
      · rw [if_pos h0,decide_eq_false (by omega)]
      · rw [if_neg h0]
    have w:Ev (fun k=>count_Year.f k t a b c p q r) ([],false,[],2):=by
      unfold count_Year.f
      exact Ev.bindc bad (Ev.neg (by decide) (Ev.const rfl))
    refine Ev.bind w ?_
    have j:Ev (fun k=>chattellaw11_CountTells.j1 k t 2 0 L n (i:Int) true a b c p q r y m d y2 m2 d2 [] false []) true:=by
      refine Ev.unroll ?_
      simp only [chattellaw11_CountTells.j1]
      exact Ev.pos (by decide) (tells_err (by decide) fin)
    by_cases h0:t < 0
    · exact Ev.pos h0 j
    · refine Ev.neg h0 ?_
      rw [show decide (t > 2)=true from decide_eq_true (by omega)]
      exact j
  · have ht:0≤t∧t < 3:=by omega
    have good:count_Basis_good.f t=some true:=by
      unfold count_Basis_good.f
      rw [if_pos (by omega),decide_eq_true (by omega)]
    by_cases R1:Right a b c
    · by_cases R2:Right p q r
      · by_cases ho:num a b c≤num p q r
        · have f:=yf_ev ht R1 R2 ho
          have g:=rYear ht R1 R2 ho
          have f2:=fPrint f.2 (by decide)
          have g2:=r5Print f.2 (by decide)
          refine Ev.bind f.1 (Ev.neg (by omega) ?_)
          rw [show decide (t > 2)=false from decide_eq_false (by omega)]
          refine Ev.unroll ?_
          simp only [chattellaw11_CountTells.j1]
          refine Ev.neg (by decide) (Ev.bind (right_ev a b c) (Ev.pos (decide_eq_true R1) (Ev.bind (right_ev p q r) ?_)))
          rw [decide_eq_true R2]
          refine Ev.unroll ?_
          simp only [chattellaw11_CountTells.j2]
          refine Ev.neg (by decide) (Ev.bind (a:=sgI (num a b c) (num p q r)) (Ev.lt 3 fun k hk=>by rw [refcmp_eq _ _ _ _ _ _ k hk,or3_num R1 R2]) (Ev.neg (by unfold sgI;(repeat' split) <;> omega) ?_))
          refine Ev.unroll ?_
          simp only [chattellaw11_CountTells.j3]
          refine Ev.pos (by decide) (Ev.pos (by decide) (Ev.unroll ?_))
          simp only [chattellaw11_CountTells.j4]
          refine Ev.neg (by decide) (Ev.pos (by decide) ?_)
          by_cases c40:wrap64 (p - a) < 40
          · refine Ev.pos c40 (Ev.bind f2 (Ev.bind g (Ev.bind g2 ?_)))
            rw [same_text rfl]
            exact fin
          · exact Ev.neg c40 fin
        · have w:Ev (fun k=>count_Year.f k t a b c p q r) ([],false,[],12):=by
            unfold count_Year.f
            refine Ev.bindc good (Ev.pos rfl (Ev.bind (a:=0) (Ev.lt 0 fun k hk=>by rw [date_check _ _ _ k hk,if_pos R1]) (Ev.pos rfl (Ev.bind (a:=0) (Ev.lt 0 fun k hk=>by rw [date_check _ _ _ k hk,if_pos R2]) ?_))))
            refine Ev.unroll ?_
            simp only [count_Year.j0]
            exact Ev.neg (by decide) (Ev.bind (a:=sgI (num a b c) (num p q r)) (Ev.lt 3 fun k hk=>by rw [cmp_eq _ _ _ _ _ _ k hk,or3_num R1 R2]) (Ev.pos (by unfold sgI;(repeat' split) <;> omega) (Ev.const rfl)))
          refine Ev.bind w (Ev.neg (by omega) ?_)
          rw [show decide (t > 2)=false from decide_eq_false (by omega)]
          refine Ev.unroll ?_
          simp only [chattellaw11_CountTells.j1]
          refine Ev.neg (by decide) (Ev.bind (right_ev a b c) (Ev.pos (decide_eq_true R1) (Ev.bind (right_ev p q r) ?_)))
          rw [decide_eq_true R2]
          refine Ev.unroll ?_
          simp only [chattellaw11_CountTells.j2]
          exact Ev.neg (by decide) (Ev.bind (a:=sgI (num a b c) (num p q r)) (Ev.lt 3 fun k hk=>by rw [refcmp_eq _ _ _ _ _ _ k hk,or3_num R1 R2]) (Ev.pos (by unfold sgI;(repeat' split) <;> omega) (tells_err (by decide) fin)))
      · have w:Ev (fun k=>count_Year.f k t a b c p q r) ([],false,[],11):=by
          unfold count_Year.f
          refine Ev.bindc good (Ev.pos rfl (Ev.bind (a:=0) (Ev.lt 0 fun k hk=>by rw [date_check _ _ _ k hk,if_pos R1]) (Ev.pos rfl (Ev.bind (a:=11) (Ev.lt 0 fun k hk=>by rw [date_check _ _ _ k hk,if_neg R2]) ?_))))
          refine Ev.unroll ?_
          simp only [count_Year.j0]
          exact Ev.pos (by decide) (Ev.const rfl)
        refine Ev.bind w (Ev.neg (by omega) ?_)
        rw [show decide (t > 2)=false from decide_eq_false (by omega)]
        refine Ev.unroll ?_
        simp only [chattellaw11_CountTells.j1]
        refine Ev.neg (by decide) (Ev.bind (right_ev a b c) (Ev.pos (decide_eq_true R1) (Ev.bind (right_ev p q r) ?_)))
        rw [decide_eq_false R2]
        refine Ev.unroll ?_
        simp only [chattellaw11_CountTells.j2]
        exact Ev.pos (by decide) (tells_err (by decide) fin)
    · have w:Ev (fun k=>count_Year.f k t a b c p q r) ([],false,[],11):=by
        unfold count_Year.f
        refine Ev.bindc good (Ev.pos rfl (Ev.bind (a:=11) (Ev.lt 0 fun k hk=>by rw [date_check _ _ _ k hk,if_neg R1]) (Ev.neg (by decide) ?_)))
        refine Ev.unroll ?_
        simp only [count_Year.j0]
        exact Ev.pos (by decide) (Ev.const rfl)
      refine Ev.bind w (Ev.neg (by omega) ?_)
      rw [show decide (t > 2)=false from decide_eq_false (by omega)]
      refine Ev.unroll ?_
      simp only [chattellaw11_CountTells.j1]
      refine Ev.neg (by decide) (Ev.bind (right_ev a b c) (Ev.neg (by rw [decide_eq_false R1];decide) ?_))
      refine Ev.unroll ?_
      simp only [chattellaw11_CountTells.j2]
      exact Ev.pos (by decide) (tells_err (by decide) fin)
theorem CountTells:chattellaw11_CountTells.Pure:=by
  intro a b c p q r t _ _ _ _ _ _ _
  obtain ⟨y,m,d,y2,m2,d2,hn,h1,h2,ho⟩:=near_ev a b c p q r
  refine Ev.rounds ?_
  unfold chattellaw11_CountTells.f
  refine Ev.bind hn (Ev.bindc (x:=[t,mx 0 t % 3]) rfl ?_)
  refine tells_step (i:=0) (t:=t) (L:=[t,mx 0 t % 3]) (n:=2) h1 h2 (by omega) (by decide) (by show (0:Int) < 2;decide) rfl ?_
  rw [show wrap64 (((0:Nat):Int) + 1)=((1:Nat):Int) by simp [wrap64]]
  refine tells_step (i:=1) (t:=mx 0 t % 3) (L:=[t,mx 0 t % 3]) (n:=2) h1 h2 (by omega) (by decide) (by show (1:Int) < 2;decide) rfl ?_
  refine Ev.unroll ?_
  simp only [chattellaw11_CountTells.l0]
  exact Ev.neg (by simp [wrap64]) (Ev.bind wakes11c (Ev.const rfl))
end Go.Proofs.YtlfdghofoobkmaaGreat.Pure
