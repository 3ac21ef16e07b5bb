import Derived.Test.YtakidmbnkkhojaaGreatCaf9JM5
import Derived.Test.YtakidmbnkkhojaaGreatCaf9D
import Derived.Test.YtakidmbnkkhojaaGreatCaf9S1
import Derived.Test.YtakidmbnkkhojaaGreatCaf9A1
namespace Go.Proofs.YtakidmbnkkhojaaGreatM
open Go.RowKit Go.Proofs.YtakidmbnkkhojaaGreatW.PrintWords Go.Proofs.YtakidmbnkkhojaaGreatW.PrintLast Go.Proofs.YtakidmbnkkhojaaGreatW.PrintMore Go.Proofs.YtakidmbnkkhojaaGreatX Go.Proofs.YtakidmbnkkhojaaGreat.F Go.Proofs.YtakidmbnkkhojaaGreat
set_option linter.unusedVariables false
set_option linter.unusedSimpArgs false
def ofQ (q:Rat):S49:=⟨⟨⟨lim q.num.natAbs⟩,decide (q.num < 0)⟩,⟨lim (q.den - 1)⟩⟩
def RightD (x:D3):Prop:=Right x.1 x.2.1 x.2.2
def numD (x:D3):Int:=num x.1 x.2.1 x.2.2
def GoodP (p:D3×D3):Prop:=RightD p.1∧RightD p.2∧numD p.1≤numD p.2
def yfP (b:Int) (p:D3×D3):Rat:=yf b p.1.1 p.1.2.1 p.1.2.2 p.2.1 p.2.2.1 p.2.2.2
def sumW (b:Int):List (D3×D3)→List Rat→Rat→Rat
  | p :: L,q :: Q,s=>sumW b L Q (s + yfP b p * q)
  | _,_,s=>s
theorem drop_cons {α:Type} (l:List α) (i:Nat) (h:i < l.length):l.drop i=l[i] :: l.drop (i + 1):=List.drop_eq_getElem_cons h
theorem rd_P (L:List (D3×D3)) (i:Nat) (h:i < L.length):rd_T55 (L.map ofP) (i:Int)=ofP L[i]:=by
  unfold rd_T55;rw [Int.toNat_natCast,List.getD_eq_getElem?_getD,List.getElem?_map,List.getElem?_eq_getElem h];rfl
theorem rd_R (L:List (D3×D3)) (i:Nat) (h:i < L.length):rd_T91 (L.map ofR) (i:Int)=ofR L[i]:=by
  unfold rd_T91;rw [Int.toNat_natCast,List.getD_eq_getElem?_getD,List.getElem?_map,List.getElem?_eq_getElem h];rfl
theorem rd_Q (L:List Rat) (i:Nat) (h:i < L.length):rd_T49 (L.map ofQ) (i:Int)=ofQ L[i]:=by
  unfold rd_T49;rw [Int.toNat_natCast,List.getD_eq_getElem?_getD,List.getElem?_map,List.getElem?_eq_getElem h];rfl
theorem cmp_num {a b:D3} (ha:RightD a) (hb:RightD b):cmpD a b=sgI (numD a) (numD b):=by
  have h:cmpD a b=or3 (sgI a.1 b.1) (sgI a.2.1 b.2.1) (sgI a.2.2 b.2.2):=rfl
  rw [h];exact or3_num ha hb
theorem le_num {a b:D3} (ha:RightD a) (hb:RightD b):leD a b ↔ numD a≤numD b:=by
  unfold leD;rw [cmp_num ha hb];unfold sgI;(repeat' split) <;> omega
theorem weighted_step {b:Int} (hb:0≤b∧b < 3) {L:List (D3×D3)} {Q:List Rat} (hL:L.length≤1000) {i:Nat} (hi:i < L.length) (hq:i < Q.length) (good:GoodP L[i]) (sq:Sz 2 Q[i]) {n:Nat} {s:Rat} (hs:Sz n s) (hn:n≤100000)
    {R:List Int×Bool×List Int×Int} (next : ∀ s',s'=s + yfP b L[i] * Q[i]→Sz (n + 8) s'→Ev (fun k=>split_Weighted.l0 k b (Q.map ofQ) (L.map ofP) (L.length:Int) ((i + 1:Nat):Int) (lim s'.num.natAbs) (decide (s'.num < 0)) (lim (s'.den - 1))) R) :
    Ev (fun k=>split_Weighted.l0 k b (Q.map ofQ) (L.map ofP) (L.length:Int) (i:Int) (lim s.num.natAbs) (decide (s.num < 0)) (lim (s.den - 1))) R:=by
  have c1:(i:Int) < (L.length:Int):=by omega
  have c2:(0:Int)≤(i:Int):=by omega
  have c3:(i:Int) < ((L.map ofP).length:Int):=by rw [List.length_map];exact c1
  have c4:(i:Int) < ((Q.map ofQ).length:Int):=by rw [List.length_map];omega
  have hw:wrap64 ((i:Int) + 1)=((i + 1:Nat):Int):=by unfold wrap64;omega
  refine Ev.unroll ?_
  simp only [split_Weighted.l0]
  rw [rd_P L i hi,rd_Q Q i hq,hw]
  have f:=yf_ev hb good.1 good.2.1 good.2.2
  have m:=fMul f.2 sq (by decide) (by decide)
  have a:=fAdd hs m.2 (by omega) (by decide)
  exact Ev.pos c1 (Ev.pos c2 (Ev.pos c3 (Ev.bind f.1 (Ev.pos rfl (Ev.pos c4 (Ev.bind m.1 (Ev.bind a.1 (next _ rfl (by have:=a.2;exact ⟨by have:=this.1;omega,by have:=this.2;omega⟩)))))))))
theorem weighted_to {b:Int} (hb:0≤b∧b < 3) {L:List (D3×D3)} {Q:List Rat} (hL:L.length≤1000) (hQ:Q.length=L.length) (sq : ∀ q ∈ Q,Sz 2 q) {m:Nat} (hm:m≤L.length) (good : ∀ i (h:i < L.length),i < m→GoodP L[i]) {R:List Int×Bool×List Int×Int}
    : ∀ (r i:Nat) (s:Rat),i + r=m→Sz (8 * i + 1) s→(∀ s',sumW b (L.drop i) (Q.drop i) s=sumW b (L.drop m) (Q.drop m) s'→Sz (8 * m + 1) s'→Ev (fun k=>split_Weighted.l0 k b (Q.map ofQ) (L.map ofP) (L.length:Int) (m:Int) (lim s'.num.natAbs) (decide (s'.num < 0)) (lim (s'.den - 1))) R) →
    Ev (fun k=>split_Weighted.l0 k b (Q.map ofQ) (L.map ofP) (L.length:Int) (i:Int) (lim s.num.natAbs) (decide (s.num < 0)) (lim (s.den - 1))) R
  | 0,i,s,hi,hs,next=>by
    obtain rfl:i=m:=by omega
    exact next s rfl hs
  | r + 1,i,s,hi,hs,next=>by
    have h1:i < L.length:=by omega
    have h2:i < Q.length:=by omega
    refine weighted_step hb hL h1 h2 (good i h1 (by omega)) (sq _ (List.getElem_mem h2)) hs (by omega) fun s' e hs'=>?_
    refine weighted_to hb hL hQ sq hm good r (i + 1) s' (by omega) ⟨by have:=hs'.1;omega,by have:=hs'.2;omega⟩ fun s2 e2 hs2=>next s2 ?_ hs2
    rw [← e2,drop_cons L i h1,drop_cons Q i h2,e]
    rfl
theorem zero_frac:(lim (0:Rat).num.natAbs,decide ((0:Rat).num < 0),lim ((0:Rat).den - 1))=(([]:List Int),false,([]:List Int)):=by
  rw [show (0:Rat).num=0 from rfl,show (0:Int).natAbs=0 from rfl,show (0:Rat).den - 1=0 from rfl,lim_zero];rfl
theorem szq_zero {n:Nat} (hn:1≤n):Sz n (0:Rat):=by
  have h:=sz_int (n:=n) (z:=0) (by show (lim 0).length≤n;rw [lim_zero];exact Nat.zero_le _) hn
  exact h
theorem sumW_sz {b:Int} (hb:0≤b∧b < 3) : ∀ (L:List (D3×D3)) (Q:List Rat) (n:Nat) (s:Rat),(∀ p ∈ L,GoodP p)→(∀ q ∈ Q,Sz 2 q)→8 * L.length + n≤100000→Sz n s→Sz (8 * L.length + n) (sumW b L Q s)
  | [],Q,n,s,_,_,_,hs=>⟨by have:=hs.1;simp only [sumW,List.length_nil];omega,by have:=hs.2;simp only [sumW,List.length_nil];omega⟩
  | p :: L,[],n,s,_,_,_,hs=>⟨by have:=hs.1;simp only [sumW,List.length_cons];omega,by have:=hs.2;simp only [sumW,List.length_cons];omega⟩
  | p :: L,q :: Q,n,s,hg,hq,hl,hs=>by
    have gp:=hg p (List.mem_cons_self ..)
    have f:=yf_ev hb gp.1 gp.2.1 gp.2.2
    have m:=fMul f.2 (hq q (List.mem_cons_self ..)) (by decide) (by decide)
    rw [List.length_cons] at hl
    have a:=fAdd hs m.2 (by omega) (by decide)
    have h1:Sz (n + 8) (s + yfP b p * q):=⟨Nat.le_trans a.2.1 (by omega),Nat.le_trans a.2.2 (by omega)⟩
    have:=sumW_sz hb L Q (n + 8) (s + yfP b p * q) (fun p hp=>hg p (List.mem_cons_of_mem _ hp)) (fun q hq'=>hq q (List.mem_cons_of_mem _ hq')) (by omega) h1
    rw [List.length_cons]
    exact ⟨Nat.le_trans this.1 (by omega),Nat.le_trans this.2 (by omega)⟩
theorem weighted_ev {b:Int} (hb:0≤b∧b < 3) {L:List (D3×D3)} {Q:List Rat} (hL:L.length≤1000) (hQ:Q.length=L.length) (sq : ∀ q ∈ Q,Sz 2 q) (good : ∀ p ∈ L,GoodP p) :
    Ev (fun k=>split_Weighted.f k b (L.map ofP) (Q.map ofQ)) (lim (sumW b L Q 0).num.natAbs,decide ((sumW b L Q 0).num < 0),lim ((sumW b L Q 0).den - 1),0)∧Sz (8 * L.length + 1) (sumW b L Q 0):=by
  refine ⟨?_,sumW_sz hb L Q 1 0 good sq (by omega) (szq_zero (by omega))⟩
  have hz:=zero_frac
  injection hz with z1 hz
  injection hz with z2 z3
  have key:=weighted_to hb hL hQ sq (Nat.le_refl _) (fun i h _=>good _ (List.getElem_mem h)) (R:=(lim (sumW b L Q 0).num.natAbs,decide ((sumW b L Q 0).num < 0),lim ((sumW b L Q 0).den - 1),0)) L.length 0 0 (by omega) (szq_zero (by omega)) fun s' e hs'=>by
    rw [List.drop_zero,List.drop_zero,List.drop_eq_nil_of_le (Nat.le_refl _)] at e
    have e:sumW b L Q 0=s':=e
    rw [e]
    refine Ev.unroll ?_
    simp only [split_Weighted.l0]
    exact Ev.neg (by omega) (Ev.const rfl)
  unfold split_Weighted.f
  rw [z1,z2,z3] at key
  rw [List.length_map,List.length_map]
  exact Ev.pos (by rw [hQ]) key
end Go.Proofs.YtakidmbnkkhojaaGreatM
