import Derived.Test.YtakidmbnkkhojaaGreatC942JM5
import Derived.Test.YtakidmbnkkhojaaGreatC942D
namespace Go.Proofs.YtakidmbnkkhojaaGreatM
open Go.RowKit Go.Proofs.YtakidmbnkkhojaaGreatW.PrintWords Go.Proofs.YtakidmbnkkhojaaGreatW.PrintLast Go.Proofs.YtakidmbnkkhojaaGreatW.PrintMore Go.Proofs.YtakidmbnkkhojaaGreatX Go.Proofs.YtakidmbnkkhojaaGreat.F Go.Proofs.YtakidmbnkkhojaaGreat
set_option linter.unusedVariables false
set_option linter.unusedSimpArgs false
theorem rev_at : ∀ (k:Nat) (x r:List S28) (i j:Int),0≤i → -1≤j→j < (x.length:Int)→i + j=(x.length:Int) - 1→x.length≤4611686018427387904→api_Date_28.l0 k x i j=some r →
    ∀ t:Nat,r[t]?=if (t:Int) < i∨j < (t:Int) then x[t]? else x[(i + j - t).toNat]?
  | 0,x,r,i,j,_,_,_,_,_,h,t=>by simp only [api_Date_28.l0] at h;cases h
  | k + 1,x,r,i,j,h0,h1,h2,h3,h4,h,t=>by
    simp only [api_Date_28.l0] at h
    by_cases hij:i < j
    · have hjl:j.toNat < x.length:=by omega
      have hil:i.toNat < x.length:=by omega
      have e1:(⟨(rd_T28 x j).f0,(rd_T28 x j).f1,(rd_T28 x j).f2⟩:S28)=x[j.toNat]:=by
        have e:rd_T28 x j=x[j.toNat]:=by unfold rd_T28;rw [List.getD_eq_getElem?_getD,List.getElem?_eq_getElem hjl];rfl
        rw [← e]
      have e2:(⟨(rd_T28 x i).f0,(rd_T28 x i).f1,(rd_T28 x i).f2⟩:S28)=x[i.toNat]:=by
        have e:rd_T28 x i=x[i.toNat]:=by unfold rd_T28;rw [List.getD_eq_getElem?_getD,List.getElem?_eq_getElem hil];rfl
        rw [← e]
      have w1:wrap64 (i + 1)=i + 1:=by unfold wrap64;omega
      have w2:wrap64 (j - 1)=j - 1:=by unfold wrap64;omega
      rw [if_pos hij,if_pos (by omega),if_pos h2,if_pos h0,if_pos (by omega),e1,e2,w1,w2] at h
      have hlen:((x.set i.toNat x[j.toNat]).set j.toNat x[i.toNat]).length=x.length:=by simp
      have ih:=rev_at k _ r (i + 1) (j - 1) (by omega) (by omega) (by rw [hlen];omega) (by rw [hlen];omega) (by rw [hlen];exact h4) h t
      rw [ih]
      have hs:i + 1 + (j - 1) - (t:Int)=i + j - t:=by omega
      rw [hs]
      by_cases c1:(t:Int)=i
      · have et:t=i.toNat:=by omega
        rw [if_pos (by omega),if_neg (by omega),show (i + j - (t:Int)).toNat=j.toNat by omega,et,List.getElem?_set_ne (by omega),List.getElem?_set_self (by omega),List.getElem?_eq_getElem hjl]
      · by_cases c2:(t:Int)=j
        · have et:t=j.toNat:=by omega
          rw [if_pos (by omega),if_neg (by omega),show (i + j - (t:Int)).toNat=i.toNat by omega,et,List.getElem?_set_self (by simp;omega),List.getElem?_eq_getElem hil]
        · by_cases c3:(t:Int) < i∨j < (t:Int)
          · rw [if_pos (by omega),if_pos c3,List.getElem?_set_ne (by omega),List.getElem?_set_ne (by omega)]
          · rw [if_neg (by omega),if_neg c3,List.getElem?_set_ne (by omega),List.getElem?_set_ne (by omega)]
    · rw [if_neg hij] at h
      cases h
      split
      · rfl
      · congr 1
        omega
theorem rev_is {k:Nat} {x r:List S28} (hx:x.length≤4611686018427387904) (h:api_Date_28.f k x=some r):r=x.reverse:=by
  unfold api_Date_28.f at h
  have w2:wrap64 ((x.length:Int) - 1)=(x.length:Int) - 1:=by unfold wrap64;omega
  rw [w2] at h
  have h1:=rev_at k x r 0 ((x.length:Int) - 1) (by omega) (by omega) (by omega) (by omega) hx h
  apply List.ext_getElem?
  intro t
  rw [h1 t]
  by_cases ht:t < x.length
  · rw [if_neg (by omega),List.getElem?_reverse ht]
    congr 1
    omega
  · rw [if_pos (by omega),List.getElem?_eq_none (by omega),List.getElem?_eq_none (by simp;omega)]
end Go.Proofs.YtakidmbnkkhojaaGreatM
