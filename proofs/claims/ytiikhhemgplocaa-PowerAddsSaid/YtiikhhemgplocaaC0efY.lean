import Derived.OpenShut
import Derived.ChangeOld
import Derived.ShutString
import Derived.Deep.Strs
import Derived.Laws.IdiomArrays
namespace Go.ChangeShapes
open Go.WideShapes Go.Deep
variable {H : Type} {enc : TypeId × Value → H} {P : Program} {w : World} {base : Nat} {spare : Nat → Bool} {held : Bool}
theorem okWide_agg_st {r:Reach} {b0:Nat} {t:TypeId} {fs:Array Field} {v:Value} (ht:P.underlying t=some (.struct fs)) (h:Value.okWide P w r b0 t v) : ∃ cs,v = .agg cs∧cs.size=P.cellsOf t:=by
  simp only [Value.okWide,ht] at h
  obtain ⟨cs,h1,h2,_⟩:=h
  exact ⟨cs,h1,h2⟩
theorem trod_array2 {t e:TypeId} {fuel:Nat} {c0 c1:Value} {x:DataW H×List MemPlace} (ht:P.underlying t=some (.array 2 e)) (hce:P.cellsOf e=1)
    (h:DataW.trod enc P w base spare held fuel t [c0,c1]=some x) :
    ∃ y0 y1 n,x=(.agg [y0.1,y1.1],y0.2 ++ y1.2)∧DataW.trod enc P w base spare held n e [c0]=some y0∧DataW.trod enc P w base spare held n e [c1]=some y1:=by
  cases fuel with
  | zero=>simp [DataW.trod] at h
  | succ n =>
    unfold DataW.trod at h
    rw [ht] at h
    have r2:List.range 2 = [0,1]:=rfl
    simp [r2,hce] at h
    obtain ⟨_,h⟩:=h
    cases h0:DataW.trod enc P w base spare held n e [c0] with
    | none=>simp [h0] at h
    | some y0 =>
      cases h1:DataW.trod enc P w base spare held n e [c1] with
      | none=>simp [h0,h1] at h
      | some y1 =>
        simp [h0,h1] at h
        exact ⟨y0,y1,n,h.symm,h0,h1⟩
end Go.ChangeShapes
