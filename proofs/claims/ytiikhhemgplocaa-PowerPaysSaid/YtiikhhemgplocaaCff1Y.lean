import Derived.OpenShut
import Derived.ChangeOld
import Derived.ShutString
import Derived.Deep.Strs
import Derived.Laws.IdiomArrays
namespace Go.ChangeShapes
open Go.WideShapes Go.Deep
variable {H : Type} {enc : TypeId × Value → H} {P : Program} {w : World} {base : Nat} {spare : Nat → Bool} {held : Bool}
theorem okWide_agg_ar {r:Reach} {b0:Nat} {t n e:Nat} {v:Value} (ht:P.underlying t=some (.array n e)) (h:Value.okWide P w r b0 t v) : ∃ cs,v = .agg cs∧cs.size=P.cellsOf t:=by
  simp only [Value.okWide,ht] at h
  obtain ⟨cs,h1,h2,_⟩:=h
  exact ⟨cs,h1,h2⟩
theorem two_cells {cs:Array Value} (h:cs.size=2) : ∃ c0 c1,cs = #[c0,c1]:=by
  obtain ⟨l⟩:=cs
  match l,h with
  | [c0,c1],_=>exact ⟨c0,c1,rfl⟩
theorem trod_array2 {t e:TypeId} {fuel:Nat} {c0 c1:Value} {x:DataW H×List MemPlace} (ht:P.underlying t=some (.array 2 e)) (hce:P.cellsOf e=1)
    (h:DataW.trod enc P w base spare held fuel t [c0,c1]=some x) :
    ∃ y0 y1 n,x=(.agg [y0.1,y1.1],y0.2 ++ y1.2)∧DataW.trod enc P w base spare held n e [c0]=some y0∧DataW.trod enc P w base spare held n e [c1]=some y1:=by
  cases fuel with
  | zero=>simp [DataW.trod] at h
  | succ n =>
    unfold DataW.trod at h
    rw [ht] at h
    have r2:List.range 2 = [0,1]:=rfl
    simp [r2,hce] at h
    obtain ⟨_,h⟩:=h
    cases h0:DataW.trod enc P w base spare held n e [c0] with
    | none=>simp [h0] at h
    | some y0 =>
      cases h1:DataW.trod enc P w base spare held n e [c1] with
      | none=>simp [h0,h1] at h
      | some y1 =>
        simp [h0,h1] at h
        exact ⟨y0,y1,n,h.symm,h0,h1⟩
theorem open_ar2 {r:Reach} {b0:Nat} {t e:TypeId} {k:IntKind} {v:Value} {d:DataW H} {ps:List MemPlace} (ht:P.underlying t=some (.array 2 e)) (hc:P.cellsOf t=2) (u:P.underlying e=some (.int k)) (ce:P.cellsOf e=1)
    (hval:Value.okWide P w r b0 t v) (hd:DataW.Trod enc P w base spare held t v d ps) :
    ∃ a b,v = .agg #[.int k a, .int k b]∧d = .agg [.lit (.int k a), .lit (.int k b)]∧ps = []∧(Lit.int k a).wf=true∧(Lit.int k b).wf=true:=by
  obtain ⟨cs,rfl,hs⟩:=okWide_agg_ar ht hval
  rw [hc] at hs
  obtain ⟨x0,x1,rfl⟩:=two_cells hs
  obtain ⟨fuel,hf⟩:=hd
  have hv:(Value.agg #[x0,x1]).cells.toList = [x0,x1]:=rfl
  rw [hv] at hf
  obtain ⟨y0,y1,n,hx,h0,h1⟩:=trod_array2 ht ce hf
  obtain ⟨a,ha,hb,wa⟩:=DataW.trod_int u h0
  obtain ⟨b,hb1,hb2,wb⟩:=DataW.trod_int u h1
  simp at ha hb1
  subst ha hb1 hb hb2
  simp only [List.append_nil,Prod.mk.injEq] at hx
  exact ⟨a,b,rfl,hx.1,hx.2,wa,wb⟩
theorem shut_ar2 {t e:TypeId} {k:IntKind} {a b:Int} (ht:P.underlying t=some (.array 2 e)) (hc:P.cellsOf t=2) (u:P.underlying e=some (.int k)) (ce:P.cellsOf e=1) (wa:(Lit.int k a).wf=true) (wb:(Lit.int k b).wf=true) :
    DataW.Trod enc P w base spare held t (.agg #[.int k a, .int k b]) (.agg [.lit (.int k a), .lit (.int k b)]) []:=by
  refine ⟨2,?_⟩
  have hv:(Value.agg #[.int k a, .int k b]).cells.toList = [.int k a, .int k b]:=rfl
  rw [hv]
  unfold DataW.trod
  rw [ht]
  have r2:List.range 2 = [0,1]:=rfl
  have e0:=trod_int_mk (enc:=enc) (w:=w) (base:=base) (spare:=spare) (held:=held) 0 u wa
  have e1:=trod_int_mk (enc:=enc) (w:=w) (base:=base) (spare:=spare) (held:=held) 0 u wb
  simp [r2,ce,hc,e0,e1]
end Go.ChangeShapes
