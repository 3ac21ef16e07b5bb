import Derived.Test.YtakidmbnkkhojaaGreatC942Sp4
namespace Go.Proofs.YtakidmbnkkhojaaGreat
open Go.RowKit Go.Sort Go.Lib Go.Shelf Go.Proofs
set_option linter.unusedVariables false
set_option linter.unusedSimpArgs false
set_option maxRecDepth 100000
def PredIn (g:Nat) (lb:Array Value) (p:D3→Bool) (G:World→Prop):Prop :=
  ∀ (W:World) (x:D3),G W→Calls Tryz.prog g (#[.agg (enD x).toArray] ++ lb) W fun e w'=>e = .returned (.bool (p x))∧Below W.heap.size W w'
theorem hIndex (g:Nat) (lb:Array Value) (p:D3→Bool) (eg : ∀ args w,(callFunc g args).run Tryz.prog w = .ok (.enter g args) w) (blk off cap:Nat) (d:Array D3) (w:World) (G:World→Prop) (hG : ∀ W,Below w.heap.size w W→G W)
    (hp:PredIn g lb p G) (hH:HoldsK enD 3 w blk off d) (hb:blk < w.heap.size) (hs:d.size≤9223372036854775807) :
    Calls Tryz.prog 75 #[.slice (some ⟨blk,off,none⟩) d.size cap, .func (.func g) #[] lb] w fun e w'=>e = .returned (.int .i64 (Lib.idxBy (fun _ y=>p y) d.toList default))∧Below w.heap.size w w':=by
  have h:=AnyQ.slices_IndexFunc ilays 3 Tryz.isAgg28 Tryz.sizeOf28 enD (fun _=>rfl) p g lb eg blk off d.size cap d.toList w
    (fun W x hW=>(hp W x (hG W hW)).mono fun e w' ⟨he,hb'⟩=>⟨he,hW.trans (hb'.mono hW.size)⟩) (by simp) hs hb (fun j hj i v hv=>by
      have hj':j < d.size:=by simpa using hj
      have hi:i < 3:=by
        have:=(List.getElem?_eq_some_iff.1 hv).1
        exact this
      have hc:=(HoldsK.cell hH hj' hi).1
      rw [hc]
      have e:d.toList[j]! = d[j]!:=by simp [hj']
      rw [e] at hv
      rw [List.getElem!_eq_getElem?_getD,hv]
      rfl)
  rw [List.take_of_length_le (by simp)] at h
  exact h
structure DelInv (p:D3→Bool) (d:Array D3) (i j:Nat) (dk:Array D3):Prop where
  le:i < j
  size:dk.size=d.size
  low:dk.toList.take i=(d.toList.take j).filter (fun x=>!p x)
  high : ∀ t,j≤t→t < d.size→dk[t]! = d[t]!
theorem DelInv.skip {p:D3→Bool} {d dk:Array D3} {i j:Nat} (h:DelInv p d i j dk) (hj:j < d.size) (hp:p d[j]! = true):DelInv p d i (j + 1) dk:=by
  refine ⟨Nat.lt_succ_of_lt h.le,h.size,?_,fun t h1 h2=>h.high t (by omega) h2⟩
  rw [h.low,List.take_succ_eq_append_getElem (by simpa using hj),List.filter_append]
  have e:d.toList[j]'(by simpa using hj)=d[j]!:=by simp [hj]
  rw [e]
  simp [hp]
theorem DelInv.keep {p:D3→Bool} {d dk:Array D3} {i j:Nat} (h:DelInv p d i j dk) (hj:j < d.size) (hp:p d[j]! = false):DelInv p d (i + 1) (j + 1) (dk.setIfInBounds i d[j]!):=by
  have hl:=h.le
  have hs:=h.size
  refine ⟨by omega,by simpa using hs,?_,fun t h1 h2=>?_⟩
  · rw [List.take_succ_eq_append_getElem (l:=d.toList) (by simpa using hj),List.filter_append,← h.low]
    have e:d.toList[j]'(by simpa using hj)=d[j]!:=by simp [hj]
    rw [e]
    have e2:(dk.setIfInBounds i d[j]!).toList=dk.toList.set i d[j]!:=by simp
    rw [e2,List.take_succ_eq_append_getElem (by simp;omega),List.take_set_of_le (by omega)]
    simp [hp]
  · rw [getElem!_set_other dk i t _ (by omega)]
    exact h.high t (by omega) h2
end Go.Proofs.YtakidmbnkkhojaaGreat
