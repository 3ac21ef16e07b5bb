import Derived.Test.YtakidmbnkkhojaaGreatC942Sp3
import Derived.Shelf.SlicesQ.IndexFunc
namespace Go.Proofs.YtakidmbnkkhojaaGreat
open Go.RowKit Go.Sort Go.Lib Go.Shelf Go.Proofs
set_option linter.unusedVariables false
set_option linter.unusedSimpArgs false
set_option maxRecDepth 100000
def iren:Go.Shelf.Ren:=⟨fun|6=>75|n=>n,fun|22=>29|23=>28|25=>92|n=>n,fun n=>n⟩
theorem ilays:SlLaysH0.n6 Tryz.prog iren where
  mixed:=by kernel_rfl
  f6:=⟨"slices.IndexFunc[[]chattel/api.Date,chattel/api.Date]",of_decide_eq_true (by kernel_rfl),Tryz.func75.trans (congrArg some (by kernel_rfl))⟩
  t0:=Tryz.underlying0
  a0:=Tryz.isAgg0
  z0:=Tryz.sizeOf0
  v0:=Tryz.zeroValue0
  t3:=Tryz.underlying3
  a3:=Tryz.isAgg3
  z3:=Tryz.sizeOf3
  v3:=Tryz.zeroValue3
  t4:=Tryz.underlying4
  a4:=Tryz.isAgg4
  z4:=Tryz.sizeOf4
  v4:=Tryz.zeroValue4
  t22:=Tryz.underlying29
  a22:=Tryz.isAgg29
  z22:=Tryz.sizeOf29
  v22:=Tryz.zeroValue29
  t25:=Tryz.underlying92
  a25:=Tryz.isAgg92
  z25:=Tryz.sizeOf92
  v25:=Tryz.zeroValue92
theorem hDateB (x y:D3) (w:World):Calls Tryz.prog 26 #[.agg (enD x).toArray, .agg (enD y).toArray] w fun e w'=>e = .returned (.int .i64 (cmpD x y))∧Below w.heap.size w w' :=
  (hDate x.1 x.2.1 x.2.2 y.1 y.2.1 y.2.2 w).mono fun e w' ⟨he,q,os',hw⟩=>⟨he,by
    subst hw
    exact ⟨rfl,rfl,rfl,by simp [grow,World.drewN],fun k hk=>by
      show (w.heap ++ os')[k]?=w.heap[k]?
      exact Array.getElem?_append_left hk⟩⟩
structure Rw (w w':World) (blk off:Nat) (d:Array D3):Prop where
  by_:w.grownBy w' (some blk)
  holds:HoldsK enD 3 w' blk off d
  blk_:blk < w.heap.size
  tag : ∀ cur e fz,w.heap[blk]?=some (.cells cur e fz)→∃ cur',w'.heap[blk]?=some (.cells cur' e fz)∧cur'.size=cur.size
theorem Rw.refl {w:World} {blk off:Nat} {d:Array D3} (h:HoldsK enD 3 w blk off d) (hb:blk < w.heap.size):Rw w w blk off d :=
  ⟨⟨rfl,rfl,rfl,Nat.le_refl _,fun _ _ _=>rfl⟩,h,hb,fun cur e fz hc=>⟨cur,hc,rfl⟩⟩
theorem Rw.lt {w w':World} {blk off:Nat} {d:Array D3} (h:Rw w w' blk off d):blk < w'.heap.size:=Nat.lt_of_lt_of_le h.blk_ h.by_.size
theorem holds_below {w w':World} {blk off:Nat} {d:Array D3} (h:HoldsK enD 3 w blk off d) (hb:Below w.heap.size w w') (hl:blk < w.heap.size):HoldsK enD 3 w' blk off d:=by
  intro i hi
  obtain ⟨h1,h2⟩:=h i hi
  exact ⟨(hb.cell (p:=⟨blk,off + i,none⟩) hl).trans h1,(hb.frozen (p:=⟨blk,off + i,none⟩) hl).trans h2⟩
theorem Rw.below {w w' w2:World} {blk off:Nat} {d:Array D3} (h:Rw w w' blk off d) (hb:Below w'.heap.size w' w2):Rw w w2 blk off d :=
  ⟨⟨hb.os.trans h.by_.os,hb.tape.trans h.by_.tape,hb.output.trans h.by_.output,Nat.le_trans h.by_.size hb.size,fun k hk hr=>(hb.block k (Nat.lt_of_lt_of_le hk h.by_.size)).trans (h.by_.block k hk hr)⟩,
    holds_below h.holds hb h.lt,h.blk_,fun cur e fz hc=>by
      obtain ⟨cur',h1,h2⟩:=h.tag cur e fz hc
      exact ⟨cur',(hb.block blk h.lt).trans h1,h2⟩⟩
theorem Rw.trans {w w' w2:World} {blk off:Nat} {d d':Array D3} (h:Rw w w' blk off d) (h':Rw w' w2 blk off d'):Rw w w2 blk off d' :=
  ⟨⟨h'.by_.os.trans h.by_.os,h'.by_.tape.trans h.by_.tape,h'.by_.output.trans h.by_.output,Nat.le_trans h.by_.size h'.by_.size,fun k hk hr=>(h'.by_.block k (Nat.lt_of_lt_of_le hk h.by_.size) hr).trans (h.by_.block k hk hr)⟩,
    h'.holds,h.blk_,fun cur e fz hc=>by
      obtain ⟨cur',h1,h2⟩:=h.tag cur e fz hc
      obtain ⟨cur2,h3,h4⟩:=h'.tag cur' e fz h1
      exact ⟨cur2,h3,h4.trans h2⟩⟩
theorem Rw.put {w:World} {blk off:Nat} {d d':Array D3} (h:HoldsK enD 3 w blk off d) (hb:blk < w.heap.size) (hs:d'.size=d.size):Rw w (putRowK enD 3 w blk off d') blk off d':=by
  refine ⟨⟨rfl,rfl,rfl,by unfold putRowK;rw [size_putRow];exact Nat.le_refl _,fun k hk hr=>?_⟩,holdsK_putRowK enD 3 w blk off d d' h hs,hb,fun cur e fz hc=>?_⟩
  · show (w.heap.modify blk _)[k]?=w.heap[k]?
    rw [Array.getElem?_modify,if_neg (fun e=>hr (by rw [e]))]
  · refine ⟨putCells id off (flatK enD 3 d') cur,?_,by simp [putCells]⟩
    show (w.heap.modify blk _)[blk]?=_
    rw [Array.getElem?_modify,if_pos rfl,hc]
    rfl
theorem setMany_one (d:Array D3) (i:Nat) (x:D3) (hi:i < d.size):setMany (flatK enD 3 d) (i * 3) (enD x)=flatK enD 3 (d.setIfInBounds i x):=by
  have hk : ∀ y,(enD y).length=3:=fun _=>rfl
  refine ext_get! (by simp) fun t ht=>?_
  have ht':t < d.size * 3:=by simpa using ht
  rw [get_setMany _ _ _ t (by simpa using ht'),get_flatK _ _ _ t ht',get_flatK _ _ _ t (by simpa using ht'),hk]
  by_cases b:t / 3=i
  · rw [if_pos ((blk_iff 3 i t (by decide)).2 b),b,getElem!_set_same d i x hi]
    congr 1
    omega
  · rw [if_neg (fun h=>b ((blk_iff 3 i t (by decide)).1 h)),getElem!_set_other d i _ x b]
theorem set_eq {w:World} {blk off:Nat} {d:Array D3} (h:HoldsK enD 3 w blk off d) (i:Nat) (x:D3) (hi:i < d.size):w.setCells blk (off + i * 3) (enD x)=putRowK enD 3 w blk off (d.setIfInBounds i x):=by
  have e:w.setCells blk (off + i * 3) (enD x)=putRow id w blk off (setMany (flatK enD 3 d) (i * 3) (enD x)):=by
    conv=>lhs;rw [← putRow_self id w blk off _ h]
    exact setCells_putRow _ _ _ _ _ _ (by rw [size_flatK];show i * 3 + 3≤d.size * 3;omega)
  rw [e,setMany_one d i x hi]
  rfl
theorem Rw.set {w w':World} {blk off:Nat} {d:Array D3} (h:Rw w w' blk off d) (i:Nat) (x:D3) (hi:i < d.size):Rw w (w'.setCells blk (off + i * 3) (enD x)) blk off (d.setIfInBounds i x):=by
  rw [set_eq h.holds i x hi]
  exact h.trans (Rw.put h.holds h.lt (by simp))
theorem Rw.sorted {w:World} {blk off n:Nat} {d d':Array D3} {os:Array Obj} (h:HoldsK enD 3 w blk off d) (hb:blk < w.heap.size) (hs:d'.size=d.size):Rw w (sortWorldK enD 3 w blk off n d' os) blk off d':=by
  have h1:=Rw.put h hb hs
  have h2:Rw w (Sort.ahead (putRowK enD 3 w blk off d') n) blk off d':=⟨⟨h1.by_.os,h1.by_.tape,h1.by_.output,h1.by_.size,h1.by_.block⟩,h1.holds,h1.blk_,h1.tag⟩
  exact h2.below ⟨rfl,rfl,rfl,by
    show (Sort.ahead (putRowK enD 3 w blk off d') n).heap.size≤((Sort.ahead (putRowK enD 3 w blk off d') n).heap ++ os).size
    rw [Array.size_append];exact Nat.le_add_right _ _,fun k hk=>by
    show ((Sort.ahead (putRowK enD 3 w blk off d') n).heap ++ os)[k]?=_
    exact Array.getElem?_append_left hk⟩
def delD (a b x:D3):Bool:=decide (cmpD x a≤0) || decide (cmpD x b ≥ 0)
set_option maxHeartbeats 2000000 in
theorem hClo (x0 x1 x2 a0 a1 a2 b0 b1 b2:Int) (g3 g4:Nat) (w:World) (l3:g3 < w.heap.size) (l4:g4 < w.heap.size)
    (p0:w.cell? ⟨g3,0,none⟩=some (.int .i64 a0)) (p1:w.cell? ⟨g3,1,none⟩=some (.int .i64 a1)) (p2:w.cell? ⟨g3,2,none⟩=some (.int .i64 a2))
    (q0:w.cell? ⟨g4,0,none⟩=some (.int .i64 b0)) (q1:w.cell? ⟨g4,1,none⟩=some (.int .i64 b1)) (q2:w.cell? ⟨g4,2,none⟩=some (.int .i64 b2)) :
    Calls Tryz.prog 36 #[.agg #[.int .i64 x0, .int .i64 x1, .int .i64 x2], .pointer (some ⟨g3,0,none⟩), .pointer (some ⟨g4,0,none⟩)] w fun e w'=>e = .returned (.bool (delD (a0,a1,a2) (b0,b1,b2) (x0,x1,x2)))∧Below w.heap.size w w':=by
  have h1:=hDateB (x0,x1,x2) (a0,a1,a2)
  have h2:=hDateB (x0,x1,x2) (b0,b1,b2)
  have e:delD (a0,a1,a2) (b0,b1,b2) (x0,x1,x2)=(decide (cmpD (x0,x1,x2) (a0,a1,a2)≤0) || decide (cmpD (x0,x1,x2) (b0,b1,b2) ≥ 0)):=rfl
  rw [e]
  clear e
  generalize cmpD (x0,x1,x2) (a0,a1,a2)=u at *
  generalize cmpD (x0,x1,x2) (b0,b1,b2)=v at *
  change ∀ w,Calls Tryz.prog 26 #[.agg #[.int .i64 x0, .int .i64 x1, .int .i64 x2], .agg #[.int .i64 a0, .int .i64 a1, .int .i64 a2]] w _ at h1
  change ∀ w,Calls Tryz.prog 26 #[.agg #[.int .i64 x0, .int .i64 x1, .int .i64 x2], .agg #[.int .i64 b0, .int .i64 b1, .int .i64 b2]] w _ at h2
  by_cases c1:u≤0
  · go_enter Tryz.func36,Tryz.ntmps36
    go_wp2_with (go_at_call 26;refine (h1 _).mono ?_;rintro e w' ⟨rfl,hb⟩)
    go_ret
    exact ⟨by rw [decide_eq_true c1];rfl,(Below.refl w.heap.size w |>.alloc (Nat.le_refl _) _).trans (hb.mono (by simp))⟩
  · have hu:(decide (u≤0))=false:=decide_eq_false c1
    rw [hu,Bool.false_or]
    clear hu
    go_enter Tryz.func36,Tryz.ntmps36
    go_wp2_with (go_at_call 26;first
      | (with_reducible refine (h1 _).mono ?_;rintro e w' ⟨rfl,hb⟩
         have k0:w'.cell? ⟨w.heap.size,0,none⟩=some (.int .i64 x0):=(hb.cell (p:=⟨w.heap.size,0,none⟩) (by simp)).trans (by rw [World.cell?_alloc_at _ _ _ _ rfl];rfl)
         have k1:w'.cell? ⟨w.heap.size,1,none⟩=some (.int .i64 x1):=(hb.cell (p:=⟨w.heap.size,1,none⟩) (by simp)).trans (by rw [World.cell?_alloc_at _ _ _ _ rfl];rfl)
         have k2:w'.cell? ⟨w.heap.size,2,none⟩=some (.int .i64 x2):=(hb.cell (p:=⟨w.heap.size,2,none⟩) (by simp)).trans (by rw [World.cell?_alloc_at _ _ _ _ rfl];rfl)
         have HB:=(Below.refl w.heap.size w |>.alloc (Nat.le_refl _) _).trans (hb.mono (by simp))
         replace q0:=(HB.cell (p:=⟨g4,0,none⟩) l4).trans q0
         replace q1:=(HB.cell (p:=⟨g4,1,none⟩) l4).trans q1
         replace q2:=(HB.cell (p:=⟨g4,2,none⟩) l4).trans q2
         clear hb)
      | (with_reducible refine (h2 _).mono ?_;rintro e w2 ⟨rfl,hb2⟩))
    go_ret
    exact ⟨by show Ending.returned (Value.bool (decide (u≤0) || decide (0≤v)))=_;rw [decide_eq_false (show ¬ u≤0 by omega),Bool.false_or],HB.trans (hb2.mono HB.size)⟩
end Go.Proofs.YtakidmbnkkhojaaGreat
