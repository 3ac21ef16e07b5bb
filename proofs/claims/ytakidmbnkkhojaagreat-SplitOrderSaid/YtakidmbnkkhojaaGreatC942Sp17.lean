import Derived.Test.YtakidmbnkkhojaaGreatC942JG2
import Derived.Test.YtakidmbnkkhojaaGreatC942Sp15
namespace Go.AVL
open Go.RowKit
set_option linter.unusedVariables false
def ShL (vs:List AV):Prop:=∀ i,i < vs.length→Sh (vs.getD i .bad)
theorem ShL.nil:ShL []:=fun i hi=>absurd hi (Nat.not_lt_zero i)
theorem ShL.cons {v:AV} {vs:List AV} (h:Sh v) (hs:ShL vs):ShL (v :: vs):=fun i hi=>by
  cases i with
  | zero=>exact h
  | succ i=>exact hs i (by simpa using hi)
theorem Sh.aggL {cs:List AV} (h:ShL cs):Sh (.agg cs):=.agg h
theorem Sh.tupL {cs:List AV} (h:ShL cs):Sh (.tup cs):=.tup h
theorem NoI.one {α:Type} {en:α→AV} {P:Program} {st:St} {s u:Nat} {l:List α} {e:TypeId} (hB:st.b s=⟨u, .own, .vals (l.map en),e⟩) (hz:noIL (zc0 P e)=true) (h : ∀ x,(en x).isBad=false∧noIL (en x).cells=true):NoI P st [s]:=by
  intro s' hs'
  obtain rfl:=List.mem_singleton.1 hs'
  refine ⟨by rw [hB],by rw [hB];exact hz,l.map en,by rw [hB],fun i hi=>?_⟩
  rw [List.length_map] at hi
  rw [List.getD_eq_getElem?_getD,List.getElem?_map,List.getElem?_eq_getElem hi]
  exact h _
theorem U.callN {P:Program} {st:St} {d:Nat} {args ats f vs a2 res ss} (hv:EvL st args.toList vs) (hs:SnapL st ss vs a2) (hc:CS P f a2 .no res) (hn:NoI P st ss) (hsh:Sh (AV.mk res)):Pu P st d (.call ⟨.value (.func f),args,ats⟩) (AV.mk res) none ss :=
  .callN .fn hv (by rw [List.append_nil];exact hs) hc hn hsh
theorem nil_map {α β:Type} {f:α→β} {l:List α} (h:(l.map f).length=0):l = []:=List.eq_nil_of_length_eq_zero (by rwa [List.length_map] at h)
end Go.AVL
