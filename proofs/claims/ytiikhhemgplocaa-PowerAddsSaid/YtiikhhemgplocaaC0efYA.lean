import Derived.Test.YtiikhhemgplocaaC0efY
import Derived.Lib.SmallJoins
namespace Go.ChangeShapes
open Go.WideShapes Go.Deep Go.Joins
variable {H : Type} {enc : TypeId × Value → H} {P : Program} {w : World} {base : Nat} {spare : Nat → Bool} {held : Bool}
theorem six_cells {cs:Array Value} (h:cs.size=6) : ∃ c0 c1 c2 c3 c4 c5,cs = #[c0,c1,c2,c3,c4,c5]:=by
  obtain ⟨l⟩:=cs
  match l,h with
  | [c0,c1,c2,c3,c4,c5],_=>exact ⟨c0,c1,c2,c3,c4,c5,rfl⟩
theorem open_adds {r:Reach} {b0:Nat} {t e:TypeId} {f0 f1 f2 f3:Field} {k kn:IntKind} {v:Value} {d:DataW H} {ps:List MemPlace} (ht:P.underlying t=some (.struct #[f0,f1,f2,f3])) (hc:P.cellsOf t=6)
    (o0:f0.offset=0) (o1:f1.offset=2) (o2:f2.offset=4) (o3:f3.offset=5) (u0:P.underlying f0.type=some (.array 2 e)) (u1:P.underlying f1.type=some (.array 2 e)) (ue:P.underlying e=some (.int k)) (ce:P.cellsOf e=1)
    (c0:P.cellsOf f0.type=2) (c1:P.cellsOf f1.type=2) (u2:P.underlying f2.type=some (.int kn)) (u3:P.underlying f3.type=some (.int kn)) (c2:P.cellsOf f2.type=1) (c3:P.cellsOf f3.type=1)
    (hval:Value.okWide P w r b0 t v) (hd:DataW.Trod enc P w base spare held t v d ps) :
    ∃ a p b q n m,v = .agg #[.int k a, .int k p, .int k b, .int k q, .int kn n, .int kn m]∧d = .agg [.agg [.lit (.int k a), .lit (.int k p)], .agg [.lit (.int k b), .lit (.int k q)], .lit (.int kn n), .lit (.int kn m)]∧ps = [] ∧
      (Lit.int k a).wf=true∧(Lit.int k p).wf=true∧(Lit.int k b).wf=true∧(Lit.int k q).wf=true∧(Lit.int kn n).wf=true∧(Lit.int kn m).wf=true:=by
  obtain ⟨cs,rfl,hs⟩:=okWide_agg_st ht hval
  rw [hc] at hs
  obtain ⟨x0,x1,x2,x3,x4,x5,rfl⟩:=six_cells hs
  obtain ⟨fuel,hf⟩:=hd
  have hv:(Value.agg #[x0,x1,x2,x3,x4,x5]).cells.toList = [x0,x1,x2,x3,x4,x5]:=rfl
  rw [hv] at hf
  obtain ⟨y0,y1,y2,y3,n,hx,_,h0,h1,h2,h3⟩:=trod_struct4 ht hf
  rw [o0,c0] at h0
  rw [o1,c1] at h1
  rw [o2,c2] at h2
  rw [o3,c3] at h3
  have g0:DataW.trod enc P w base spare held n f0.type [x0,x1]=some y0:=h0
  have g1:DataW.trod enc P w base spare held n f1.type [x2,x3]=some y1:=h1
  have g2:DataW.trod enc P w base spare held n f2.type [x4]=some y2:=h2
  have g3:DataW.trod enc P w base spare held n f3.type [x5]=some y3:=h3
  obtain ⟨z0,z1,m0,hz,k0,k1⟩:=trod_array2 u0 ce g0
  obtain ⟨z2,z3,m1,hz2,k2,k3⟩:=trod_array2 u1 ce g1
  obtain ⟨a,ha,hb,wa⟩:=DataW.trod_int ue k0
  obtain ⟨p,hp,hb1,wp⟩:=DataW.trod_int ue k1
  obtain ⟨b,hb2,hb3,wb⟩:=DataW.trod_int ue k2
  obtain ⟨q,hq,hb4,wq⟩:=DataW.trod_int ue k3
  obtain ⟨nn,hn,hb5,wn⟩:=DataW.trod_int u2 g2
  obtain ⟨mm,hm,hb6,wm⟩:=DataW.trod_int u3 g3
  simp at ha hp hb2 hq hn hm
  subst ha hp hb2 hq hn hm hb hb1 hb3 hb4 hb5 hb6 hz hz2
  simp only [List.append_nil,Prod.mk.injEq] at hx
  exact ⟨a,p,b,q,nn,mm,rfl,hx.1,hx.2,wa,wp,wb,wq,wn,wm⟩
theorem trod_ar2 {t e:TypeId} {k:IntKind} {a b:Int} {cs:List Value} (hcs:cs = [.int k a, .int k b]) (ht:P.underlying t=some (.array 2 e)) (hc:P.cellsOf t=2) (u:P.underlying e=some (.int k)) (ce:P.cellsOf e=1) (wa:(Lit.int k a).wf=true) (wb:(Lit.int k b).wf=true) :
    DataW.trod enc P w base spare held 2 t cs=some (.agg [.lit (.int k a), .lit (.int k b)],[]):=by
  subst hcs
  unfold DataW.trod
  rw [ht]
  have r2:List.range 2 = [0,1]:=rfl
  have e0:=trod_int_mk (enc:=enc) (w:=w) (base:=base) (spare:=spare) (held:=held) 0 u wa
  have e1:=trod_int_mk (enc:=enc) (w:=w) (base:=base) (spare:=spare) (held:=held) 0 u wb
  simp [r2,ce,hc,e0,e1]
theorem shut_adds {t e:TypeId} {f0 f1 f2 f3:Field} {k kn:IntKind} {a p b q n m:Int} (ht:P.underlying t=some (.struct #[f0,f1,f2,f3])) (hc:P.cellsOf t=6)
    (o0:f0.offset=0) (o1:f1.offset=2) (o2:f2.offset=4) (o3:f3.offset=5) (u0:P.underlying f0.type=some (.array 2 e)) (u1:P.underlying f1.type=some (.array 2 e)) (ue:P.underlying e=some (.int k)) (ce:P.cellsOf e=1)
    (c0:P.cellsOf f0.type=2) (c1:P.cellsOf f1.type=2) (u2:P.underlying f2.type=some (.int kn)) (u3:P.underlying f3.type=some (.int kn)) (c2:P.cellsOf f2.type=1) (c3:P.cellsOf f3.type=1)
    (wa:(Lit.int k a).wf=true) (wp:(Lit.int k p).wf=true) (wb:(Lit.int k b).wf=true) (wq:(Lit.int k q).wf=true) (wn:(Lit.int kn n).wf=true) (wm:(Lit.int kn m).wf=true) :
    DataW.Trod enc P w base spare held t (.agg #[.int k a, .int k p, .int k b, .int k q, .int kn n, .int kn m]) (.agg [.agg [.lit (.int k a), .lit (.int k p)], .agg [.lit (.int k b), .lit (.int k q)], .lit (.int kn n), .lit (.int kn m)]) []:=by
  have:=trod_struct4_mk (enc:=enc) (w:=w) (base:=base) (spare:=spare) (held:=held) (n:=2) (cs:=[.int k a, .int k p, .int k b, .int k q, .int kn n, .int kn m])
    (y0:=(.agg [.lit (.int k a), .lit (.int k p)],[])) (y1:=(.agg [.lit (.int k b), .lit (.int k q)],[])) (y2:=(.lit (.int kn n),[])) (y3:=(.lit (.int kn m),[])) ht (by rw [hc];rfl)
    (trod_ar2 (by rw [o0,c0];rfl) u0 c0 ue ce wa wp) (trod_ar2 (by rw [o1,c1];rfl) u1 c1 ue ce wb wq) (by rw [o2,c2];exact trod_int_mk 1 u2 wn) (by rw [o3,c3];exact trod_int_mk 1 u3 wm)
  exact ⟨3,this⟩
end Go.ChangeShapes
