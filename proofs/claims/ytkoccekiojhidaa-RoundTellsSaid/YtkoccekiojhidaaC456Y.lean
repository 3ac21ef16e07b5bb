import Derived.OpenShut
import Derived.ChangeOld
import Derived.ShutString
import Derived.Deep.Strs
import Derived.ChangeArms
import Derived.SizedLaws
import Derived.Test.YtkoccekiojhidaaC456WSized
namespace Go.ChangeShapes
open Go.WideShapes Go.Deep
variable {H : Type} {enc : TypeId × Value → H} {P : Program} {w : World} {base : Nat} {spare : Nat → Bool} {held : Bool}
theorem ssb_agg {r:Reach} {b0:Nat} {t:TypeId} {fs:Array Field} {v:Value} (ht:P.underlying t=some (.struct fs)) (h:Value.okWide P w r b0 t v) : ∃ cs,v = .agg cs∧cs.size=P.cellsOf t:=by
  simp only [Value.okWide,ht] at h
  obtain ⟨cs,h1,h2,_⟩:=h
  exact ⟨cs,h1,h2⟩
theorem ssb_cells {cs:Array Value} (h:cs.size=3) : ∃ c0 c1 c2,cs = #[c0,c1,c2]:=by
  obtain ⟨l⟩:=cs
  match l,h with
  | [c0,c1,c2],_=>exact ⟨c0,c1,c2,rfl⟩
theorem ssb_sized {ts:List TypeId} {ds:List (DataW H)} {j:Nat} {t:TypeId} {fs:Array Field} {parts:List (DataW H)} (hsz:(DataW.weightsEach P ts ds).all (· ≤ reachBytes)=true) (hts:ts[j]?=some t) (hds:ds[j]?=some (.agg parts))
    (ht:P.underlying t=some (.struct fs)):(DataW.weightsEach P (fs.toList.map (·.type)) parts).all (· ≤ reachBytes)=true:=by
  refine List.all_eq_true.2 fun n hn=>?_
  exact List.all_eq_true.1 hsz n (DataW.weights_mem_each hts hds n (by simpa [DataW.weights,ht] using hn))
def SsbRow (k:IntKind) (w:World) (a:Option Addr) (len cap:Nat) (zs:List Int):Prop :=
  (a=none∧len=0∧cap=0∧zs = []) ∨
  ∃ x,a=some x∧len≤cap∧cap≤maxLen∧zs.length=cap∧(∀ i,i < zs.length→w.cell? (x.add i)=some (.int k (zs.getD i 0)))∧∀ n ∈ zs,(Lit.int k n).wf=true
theorem ssb_row {t e:TypeId} {k:IntKind} {n j:Nat} {x:Value} {y:DataW H×List MemPlace} {ts:List TypeId} {ds:List (DataW H)} (u:P.underlying t=some (.slice e)) (ue:P.underlying e=some (.int k)) (ce:P.cellsOf e=1) (be:P.bytesOf e=8)
    (hsz:(DataW.weightsEach P ts ds).all (· ≤ reachBytes)=true) (hts:ts[j]?=some t) (hds:ds[j]?=some y.1) (h:DataW.trod enc P w base (fun _=>true) held n t [x]=some y) :
    ∃ a len cap z,x = .slice a len cap∧SsbRow k w a len cap z∧len * 8≤140737488351232:=by
  rcases open_ints u ue ce h with ⟨hcs,_⟩|⟨ad,l,c,zs,hcs,_,hl,hm,hz,_,hcell,hwz⟩
  · simp at hcs
    subst hcs
    exact ⟨none,0,0,[],rfl, .inl ⟨rfl,rfl,rfl,rfl⟩,by decide⟩
  · simp at hcs
    subst hcs
    refine ⟨some ad,l,c,zs,rfl, .inr ⟨_,rfl,hl,hm,by simpa using hz,hcell,hwz⟩,?_⟩
    exact Go.Proofs.YtkoccekiojhidaaW.PrintWords.sized_ints hsz hts hds u ue ce be ⟨n,h⟩
theorem open_ssb {r:Reach} {b0:Nat} {t e:TypeId} {f0 f1 f2:Field} {k:IntKind} {v:Value} {d:DataW H} {ps:List MemPlace} {ts:List TypeId} {ds:List (DataW H)} {j:Nat} (ht:P.underlying t=some (.struct #[f0,f1,f2])) (hc:P.cellsOf t=3)
    (o0:f0.offset=0) (o1:f1.offset=1) (o2:f2.offset=2) (u0:P.underlying f0.type=some (.slice e)) (u1:P.underlying f1.type=some (.slice e)) (u2:P.underlying f2.type=some .bool) (ue:P.underlying e=some (.int k))
    (c0:P.cellsOf f0.type=1) (c1:P.cellsOf f1.type=1) (c2:P.cellsOf f2.type=1) (ce:P.cellsOf e=1) (be:P.bytesOf e=8)
    (hsz:(DataW.weightsEach P ts ds).all (· ≤ reachBytes)=true) (hts:ts[j]?=some t) (hds:ds[j]?=some d) (hval:Value.okWide P w r b0 t v) (hd:DataW.Trod enc P w base (fun _=>true) held t v d ps) :
    ∃ a0 len0 cap0 z0 a1 len1 cap1 z1 b,v = .agg #[.slice a0 len0 cap0, .slice a1 len1 cap1, .bool b]∧SsbRow k w a0 len0 cap0 z0∧len0 * 8≤140737488351232∧SsbRow k w a1 len1 cap1 z1∧len1 * 8≤140737488351232:=by
  obtain ⟨cs,rfl,hs⟩:=ssb_agg ht hval
  rw [hc] at hs
  obtain ⟨x0,x1,x2,rfl⟩:=ssb_cells hs
  obtain ⟨fuel,hf⟩:=hd
  have hv:(Value.agg #[x0,x1,x2]).cells.toList = [x0,x1,x2]:=rfl
  rw [hv] at hf
  obtain ⟨y0,y1,y2,n,hx,_,h0,h1,h2⟩:=trod_struct3 ht hf
  rw [o0,c0] at h0
  rw [o1,c1] at h1
  rw [o2,c2] at h2
  have e0:d = .agg [y0.1,y1.1,y2.1]:=(Prod.mk.inj hx).1
  subst e0
  have hz:=ssb_sized hsz hts hds ht
  obtain ⟨a0,l0,k0,z0,r0,w0,s0⟩:=ssb_row (j:=0) u0 ue ce be hz rfl rfl h0
  obtain ⟨a1,l1,k1,z1,r1,w1,s1⟩:=ssb_row (j:=1) u1 ue ce be hz rfl rfl h1
  obtain ⟨b,r2,_⟩:=DataW.trod_bool u2 h2
  simp at r2
  subst r0 r1 r2
  exact ⟨a0,l0,k0,z0,a1,l1,k1,z1,b,rfl,w0,s0,w1,s1⟩
end Go.ChangeShapes
