import Derived.Test.YtakidmbnkkhojaaGreatC942JM5
import Derived.Test.YtakidmbnkkhojaaGreatC942JG2
import Derived.Test.YtakidmbnkkhojaaGreatC942Sp13
import Derived.Test.YtakidmbnkkhojaaGreatC942Sp15
import Derived.Laws.CopyOwn
namespace Go.Proofs.YtakidmbnkkhojaaGreat
open Go.RowKit Go.Sort Go.Lib Go.Shelf Go.Proofs Go.Proofs.YtakidmbnkkhojaaGreatW.PrintWords Go.Proofs.YtakidmbnkkhojaaGreatW.PrintLast Go.Proofs.YtakidmbnkkhojaaGreatW.PrintMore
set_option linter.unusedVariables false
set_option linter.unusedSimpArgs false
set_option maxRecDepth 100000
theorem run_copy_rowN {P:Program} (w:World) (dT sT ty elem:TypeId) (g o dLen dCap:Nat) (a:Addr) (sLen sCap:Nat) (cur:Array Value) (t:TypeId) (cs:List Value) (sz:Nat)
    (hu:P.underlying dT=some (.slice elem)) (hs:(P.info? elem).map (·.size)=some sz)
    (hg:w.heap[g]?=some (.cells cur t (0,0))) (hn:cs.length=Nat.min sLen dLen * sz)
    (hsrc : ∀ j v,cs[j]?=some v→w.cell? (a.add j)=some v) (hfit:o + cs.length≤cur.size) (h1 : ∀ v ∈ cs,v.oneCell'=true) :
    (Builtin.copy_ #[dT,sT] ty #[.slice (some ⟨g,o,none⟩) dLen dCap, .slice (some a) sLen sCap]).run P w =
      .ok (goInt (Nat.min sLen dLen)) (w.setRow g (cur.toList.take o ++ cs ++ cur.toList.drop (o + cs.length)).toArray):=by
  have hl:=run_loadCells_list (P:=P) w a cs hsrc
  have hst:=run_storeCells_at P g o t cs 0 cur w hg (by simpa using hfit) h1
  cases hq:P.info? elem with
  | none=>simp [hq] at hs
  | some i =>
    have hi:i.size=sz:=by simpa [hq] using hs
    simp [Builtin.copy_,run_underlying hu,Builtin.lenOf,Builtin.firstCells,sizeOf,typeInfo,hq,hi,← hn,hl,hst]
theorem wpList_copyN {P:Program} {w:World} {ops:Array Oper} {rest:List Oper} {o:Oper} {a:Act} {Q:Exit→Act→World→Prop} (hgd:o.guard=none) (d s:Operand) (dT sT:TypeId)
    (ho:o.op = .call {callee:=.builtin .copy,args:=#[d,s],argTypes:=#[dT,sT]}) (elem:TypeId) (sz:Nat) (hu:P.underlying dT=some (.slice elem)) (hsz:(P.info? elem).map (·.size)=some sz)
    (ad:Addr) (dLen dCap sLen sCap:Nat) (g off:Nat) (hd:a.eval d = .slice (some ⟨g,off,none⟩) dLen dCap) (hs:a.eval s = .slice (some ad) sLen sCap)
    (cur:List Value) (t:TypeId) (hg:w.heap[g]?=some (.cells cur.toArray t (0,0))) (cs:List Value) (k:Nat) (hk:Nat.min sLen dLen=k) (hn:cs.length=k * sz)
    (hsrc : ∀ j v,cs[j]?=some v→w.cell? (ad.add j)=some v)
    (hfit:off + cs.length≤cur.length) (h1 : ∀ v ∈ cs,v.oneCell'=true) (B:Nat) (w0:World) (hb:RowKit.Below B w0 w) (hBg:B≤g)
    (h : ∀ w',RowKit.Hid (w'.heap[g]?=some (.cells (splice cur off cs).toArray t (0,0)))→RowKit.Below B w0 w'→wpList P ops Q rest (a.put o.dst (goInt k)) w') :
    wpList P ops Q (o :: rest) a w:=by
  refine wpList_plain hgd fun K hK=>?_
  have hrun:=run_copy_rowN (P:=P) w dT sT o.type elem g off dLen dCap ad sLen sCap cur.toArray t cs sz hu hsz hg (by rw [hk];exact hn) hsrc (by simpa using hfit) h1
  unfold Oper.wp
  simp [execOp,ho,resolve,invoke,builtin,hd,hs,hrun,hk,Result.andThen]
  exact hK _ _ (h _ (show _=_ by simpa [splice] using setRow_heap w g _ _ t _ hg) (below_setRow hb hBg _))
theorem step_copyN {P:Program} {ops:Array Oper} {o:Oper} {a:Act} {w:World} {K:Act→World→Prop} {Q:Exit→Act→World→Prop} {E:Prop} (hgd:o.guard=none) (d s:Operand) (dT sT:TypeId)
    (ho:o.op = .call {callee:=.builtin .copy,args:=#[d,s],argTypes:=#[dT,sT]}) (elem:TypeId) (sz:Nat) (hu:P.underlying dT=some (.slice elem)) (hsz:(P.info? elem).map (·.size)=some sz)
    (ad:Addr) (dLen dCap sLen sCap:Nat) (g off:Nat) (hd:a.eval d = .slice (some ⟨g,off,none⟩) dLen dCap) (hs:a.eval s = .slice (some ad) sLen sCap)
    (cur:List Value) (t:TypeId) (hg:w.heap[g]?=some (.cells cur.toArray t (0,0))) (cs:List Value) (k:Nat) (hk:Nat.min sLen dLen=k) (hn:cs.length=k * sz)
    (hsrc : ∀ j v,cs[j]?=some v→w.cell? (ad.add j)=some v)
    (hfit:off + cs.length≤cur.length) (h1 : ∀ v ∈ cs,v.oneCell'=true) (B:Nat) (w0:World) (hb:RowKit.Below B w0 w) (hBg:B≤g)
    (h : ∀ w',RowKit.Hid (w'.heap[g]?=some (.cells (splice cur off cs).toArray t (0,0)))→RowKit.Below B w0 w'→K (a.put o.dst (goInt k)) w') :
    if Region.wanted o (yielded ops a.tmps)=true then Oper.wp P o a w K Q else E:=by
  have hw:Region.wanted o (yielded ops a.tmps)=true:=by simp [Region.wanted,hgd]
  rw [if_pos hw]
  have hrun:=run_copy_rowN (P:=P) w dT sT o.type elem g off dLen dCap ad sLen sCap cur.toArray t cs sz hu hsz hg (by rw [hk];exact hn) hsrc (by simpa using hfit) h1
  unfold Oper.wp
  simp [execOp,ho,resolve,invoke,builtin,hd,hs,hrun,hk,Result.andThen]
  exact h _ (show _=_ by simpa [splice] using setRow_heap w g _ _ t _ hg) (below_setRow hb hBg _)
def reps (c:List Value) (n:Nat):List Value:=(List.replicate n ()).flatMap fun _=>c
theorem reps_len (c:List Value) (n:Nat):(reps c n).length=n * c.length:=by
  induction n with
  | zero=>simp [reps]
  | succ n ih=>show ((List.replicate (n + 1) ()).flatMap fun _=>c).length=_;rw [List.replicate_succ,List.flatMap_cons,List.length_append,show (List.flatMap (fun _=>c) (List.replicate n ())).length=n * c.length from ih,Nat.succ_mul];omega
theorem reps_add (c:List Value) (m j:Nat):reps c (m + j)=reps c m ++ reps c j:=by
  unfold reps
  rw [← List.replicate_append_replicate,List.flatMap_append]
theorem reps_mem {c:List Value} {n:Nat} {P:Value→Prop} (h : ∀ u ∈ c,P u) : ∀ u ∈ reps c n,P u:=by
  intro u hu
  obtain ⟨_,_,hx⟩:=List.mem_flatMap.1 hu
  exact h u hx
theorem take_spliceN (c C:List Value) (m j:Nat) (h:(m + j) * c.length≤C.length) (hm:C.take (m * c.length)=reps c m):(splice C (m * c.length) (reps c j)).take ((m + j) * c.length)=reps c (m + j):=by
  unfold splice
  rw [hm,← List.append_assoc,← reps_add,List.take_append_of_le_length (by rw [reps_len];exact Nat.le_refl _),List.take_of_length_le (by rw [reps_len];exact Nat.le_refl _)]
theorem reps_pre {c:List Value} {j m i:Nat} {v:Value} (h:(reps c j)[i]?=some v) (hj:j≤m):(reps c m)[i]?=some v:=by
  obtain ⟨k,rfl⟩ : ∃ k,m=j + k:=⟨m - j,by omega⟩
  rw [reps_add,List.getElem?_append_left (List.getElem?_eq_some_iff.1 h).1]
  exact h
theorem reps_one (c:List Value):reps c 1=c:=by simp [reps]
theorem mul_small (n:Nat) (hn:n≤4096):F.bits_Mul.f 1 n=some (0,(n:Int)):=by
  unfold F.bits_Mul.f
  rw [show (1:Int)=((1:Nat):Int) from rfl,YtakidmbnkkhojaaGreatM.mul64_eq 1 n (by omega) (by omega),Option.bind_some]
  rw [Nat.one_mul,Nat.div_eq_of_lt (by omega),Nat.mod_eq_of_lt (by omega)]
  rfl
theorem hMul (W:World) (n:Nat) (hn:n≤4096):Calls Tryz.prog 80 #[.int .u64 1, .int .u64 n] W fun e w'=>e = .returned (.tuple #[.int .u64 0, .int .u64 n])∧RowKit.Below W.heap.size W w':=by
  have hv:AVL.VRa W (fun _=>default) [.int .u64 1, .int .u64 n] [.int .u64 1, .int .u64 n]:=.cons (.int _ _) (.cons (.int _ _) .nil)
  refine (AVL.calls_of_cs fn80 (bits_Mul.cs (mul_small n hn)) hv).mono ?_
  rintro e w' ⟨v,rfl,hb,I',m',hr⟩
  have hr:AVL.VR I' w' AVL.noB m' (.tup [.int .u64 0, .int .u64 n]) v:=hr
  cases hr with
  | tup _ vs h1 h2 =>
    have e0:=(h2 0 (by simp)).int_inv
    have e1:=(h2 1 (by simp)).int_inv
    refine ⟨?_,hb⟩
    congr 2
    apply Array.ext
    · simpa using h1.symm
    · intro i hi1 hi2
      have hi:i=0∨i=1:=by simp at hi2;omega
      rcases hi with rfl|rfl
      · simpa [Array.getD,hi1] using e0
      · simpa [Array.getD,hi1] using e1
end Go.Proofs.YtakidmbnkkhojaaGreat
