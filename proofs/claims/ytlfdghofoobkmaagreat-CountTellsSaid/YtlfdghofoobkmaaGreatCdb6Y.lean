import Derived.OpenShut
import Derived.ChangeOld
import Derived.ShutString
import Derived.Deep.Strs
import Derived.Laws.IdiomArrays
namespace Go.ChangeShapes
open Go.WideShapes Go.Deep
variable {H : Type} {enc : TypeId × Value → H} {P : Program} {w : World} {base : Nat} {spare : Nat → Bool} {held : Bool}
theorem okWide_agg_st {r:Reach} {b0:Nat} {t:TypeId} {fs:Array Field} {v:Value} (ht:P.underlying t=some (.struct fs)) (h:Value.okWide P w r b0 t v) : ∃ cs,v = .agg cs∧cs.size=P.cellsOf t:=by
  simp only [Value.okWide,ht] at h
  obtain ⟨cs,h1,h2,_⟩:=h
  exact ⟨cs,h1,h2⟩
theorem three_cells {cs:Array Value} (h:cs.size=3) : ∃ c0 c1 c2,cs = #[c0,c1,c2]:=by
  obtain ⟨l⟩:=cs
  match l,h with
  | [c0,c1,c2],_=>exact ⟨c0,c1,c2,rfl⟩
theorem open_st3 {r:Reach} {b0:Nat} {t:TypeId} {f0 f1 f2:Field} {k0 k1 k2:IntKind} {v:Value} {d:DataW H} {ps:List MemPlace} (ht:P.underlying t=some (.struct #[f0,f1,f2])) (hc:P.cellsOf t=3)
    (o0:f0.offset=0) (o1:f1.offset=1) (o2:f2.offset=2) (u0:P.underlying f0.type=some (.int k0)) (u1:P.underlying f1.type=some (.int k1)) (u2:P.underlying f2.type=some (.int k2))
    (c0:P.cellsOf f0.type=1) (c1:P.cellsOf f1.type=1) (c2:P.cellsOf f2.type=1) (hval:Value.okWide P w r b0 t v) (hd:DataW.Trod enc P w base spare held t v d ps) :
    ∃ a b c,v = .agg #[.int k0 a, .int k1 b, .int k2 c]∧d = .agg [.lit (.int k0 a), .lit (.int k1 b), .lit (.int k2 c)]∧ps = []∧(Lit.int k0 a).wf=true∧(Lit.int k1 b).wf=true∧(Lit.int k2 c).wf=true:=by
  obtain ⟨cs,rfl,hs⟩:=okWide_agg_st ht hval
  rw [hc] at hs
  obtain ⟨x0,x1,x2,rfl⟩:=three_cells hs
  obtain ⟨fuel,hf⟩:=hd
  have hv:(Value.agg #[x0,x1,x2]).cells.toList = [x0,x1,x2]:=rfl
  rw [hv] at hf
  obtain ⟨y0,y1,y2,n,hx,_,h0,h1,h2⟩:=trod_struct3 ht hf
  rw [o0,c0] at h0
  rw [o1,c1] at h1
  rw [o2,c2] at h2
  obtain ⟨a,ha,hb,wa⟩:=DataW.trod_int u0 h0
  obtain ⟨b,hb1,hb2,wb⟩:=DataW.trod_int u1 h1
  obtain ⟨c,hc1,hc2,wc⟩:=DataW.trod_int u2 h2
  simp at ha hb1 hc1
  subst ha hb1 hc1 hb hb2 hc2
  simp only [List.append_nil,Prod.mk.injEq] at hx
  exact ⟨a,b,c,rfl,hx.1,hx.2,wa,wb,wc⟩
theorem shut_st3 {t:TypeId} {f0 f1 f2:Field} {k0 k1 k2:IntKind} {a b c:Int} (ht:P.underlying t=some (.struct #[f0,f1,f2])) (hc:P.cellsOf t=3)
    (o0:f0.offset=0) (o1:f1.offset=1) (o2:f2.offset=2) (u0:P.underlying f0.type=some (.int k0)) (u1:P.underlying f1.type=some (.int k1)) (u2:P.underlying f2.type=some (.int k2))
    (c0:P.cellsOf f0.type=1) (c1:P.cellsOf f1.type=1) (c2:P.cellsOf f2.type=1) (wa:(Lit.int k0 a).wf=true) (wb:(Lit.int k1 b).wf=true) (wc:(Lit.int k2 c).wf=true) :
    DataW.Trod enc P w base spare held t (.agg #[.int k0 a, .int k1 b, .int k2 c]) (.agg [.lit (.int k0 a), .lit (.int k1 b), .lit (.int k2 c)]) []:=by
  have:=trod_struct3_mk (enc:=enc) (w:=w) (base:=base) (spare:=spare) (held:=held) (n:=1) (cs:=[.int k0 a, .int k1 b, .int k2 c]) (y0:=(.lit (.int k0 a),[])) (y1:=(.lit (.int k1 b),[])) (y2:=(.lit (.int k2 c),[])) ht (by rw [hc];rfl)
    (by rw [o0,c0];exact trod_int_mk 0 u0 wa) (by rw [o1,c1];exact trod_int_mk 0 u1 wb) (by rw [o2,c2];exact trod_int_mk 0 u2 wc)
  exact ⟨2,this⟩
end Go.ChangeShapes
