import Derived.Test.YtakidmbnkkhojaaGreatC942Sp12
namespace Go.Proofs.YtakidmbnkkhojaaGreat
open Go.RowKit Go.Sort Go.Lib Go.Shelf Go.Proofs Go.Proofs.YtakidmbnkkhojaaGreatW.PrintWords Go.Proofs.YtakidmbnkkhojaaGreatW.PrintLast Go.Proofs.YtakidmbnkkhojaaGreatW.PrintMore
set_option linter.unusedVariables false
set_option linter.unusedSimpArgs false
set_option maxRecDepth 100000
def enP (x:D3×D3):List Value:=enD x.1 ++ enD x.2
def flatP (l:List (D3×D3)):List Value:=l.flatMap enP
theorem boxes0 (w:World) (a0 a1 a2 b0 b1 b2:Int):Boxes ((w.alloc (.cells #[.int .i64 a0, .int .i64 a1, .int .i64 a2] 28)).alloc (.cells #[.int .i64 b0, .int .i64 b1, .int .i64 b2] 28)) w.heap.size (w.heap.size + 1) (a0,a1,a2) (b0,b1,b2):=by
  have h3 : ∀ i v,(w.alloc (.cells #[.int .i64 a0, .int .i64 a1, .int .i64 a2] 28)).cell? ⟨w.heap.size,i,none⟩=some v→((w.alloc (.cells #[.int .i64 a0, .int .i64 a1, .int .i64 a2] 28)).alloc (.cells #[.int .i64 b0, .int .i64 b1, .int .i64 b2] 28)).cell? ⟨w.heap.size,i,none⟩=some v:=fun i v h=>Go.Lib.cell?_alloc_some _ h
  have h4:w.heap.size + 1=(w.alloc (.cells #[.int .i64 a0, .int .i64 a1, .int .i64 a2] 28)).heap.size:=by simp
  refine ⟨by simp;omega,by simp,⟨h3 _ _ ?_,h3 _ _ ?_,h3 _ _ ?_⟩,?_,?_,?_,?_⟩
  · rw [World.cell?_alloc_at _ _ _ _ rfl];rfl
  · rw [World.cell?_alloc_at _ _ _ _ rfl];rfl
  · rw [World.cell?_alloc_at _ _ _ _ rfl];rfl
  · rw [Below.heap_alloc _ _ _ (by simp),heap_alloc_new]
  · rw [World.cell?_alloc_at _ _ _ _ h4];rfl
  · rw [World.cell?_alloc_at _ _ _ _ h4];rfl
  · rw [World.cell?_alloc_at _ _ _ _ h4];rfl
theorem below2 (w:World) (o o':Obj):Below w.heap.size w ((w.alloc o).alloc o'):=(Below.refl _ _ |>.alloc (Nat.le_refl _) _).alloc (by simp) _
theorem ReadsD.below {w w':World} {A:Option Addr} {l:List D3} (h:ReadsD w A l) (hb:Below w.heap.size w w'):ReadsD w' A l:=by
  rcases h with h|⟨b,off,e,hl,hc⟩
  · exact .inl h
  · exact .inr ⟨b,off,e,Nat.lt_of_lt_of_le hl hb.size,fun j u hj=>(hb.cell (p:=⟨b,off + j,none⟩) hl).trans (hc j u hj)⟩
structure LoopW (w9 wr:World) (g3:Nat) (f:D3):Prop where
  by_:w9.grownBy wr (some g3)
  blk:wr.heap[g3]?=some (.cells #[.int .i64 f.1, .int .i64 f.2.1, .int .i64 f.2.2] 28 (0,0))
theorem LoopW.lt {w9 wr:World} {g3:Nat} {f:D3} (h:LoopW w9 wr g3 f):g3 < wr.heap.size:=(Array.getElem?_eq_some_iff.1 h.blk).1
theorem LoopW.grown {w9 wr w':World} {g3:Nat} {f:D3} {row:Option Nat} (h:LoopW w9 wr g3 f) (gr:wr.grownBy w' row) (hr : ∀ k,row=some k→w9.heap.size≤k) (h3:g3 < w9.heap.size):LoopW w9 w' g3 f :=
  ⟨⟨gr.os.trans h.by_.os,gr.tape.trans h.by_.tape,gr.output.trans h.by_.output,Nat.le_trans h.by_.size gr.size,fun k hk hn=>(gr.block k (Nat.lt_of_lt_of_le hk h.by_.size) (fun e=>by have:=hr k e.symm;omega)).trans (h.by_.block k hk hn)⟩,
    (gr.block g3 h.lt (fun e=>by have:=hr g3 e.symm;omega)).trans h.blk⟩
theorem LoopW.alloc {w9 wr:World} {g3:Nat} {f:D3} (h:LoopW w9 wr g3 f) (o:Obj) (h3:g3 < w9.heap.size):LoopW w9 (wr.alloc o) g3 f:=h.grown (World.grownBy_alloc wr o none) (fun k e=>by cases e) h3
theorem LoopW.from_ {w9 wr:World} {g3:Nat} {f0 f1 f2:Int} (h:LoopW w9 wr g3 (f0,f1,f2)) :
    (wr.cell? ⟨g3,0,none⟩=some (.int .i64 f0)∧wr.cell? ⟨g3,1,none⟩=some (.int .i64 f1)∧wr.cell? ⟨g3,2,none⟩=some (.int .i64 f2))∧wr.frozen? ⟨g3,0,none⟩=false∧wr.frozen? ⟨g3,1,none⟩=false∧wr.frozen? ⟨g3,2,none⟩=false:=by
  have hb:=h.blk
  refine ⟨⟨?_,?_,?_⟩,?_,?_,?_⟩ <;> simp [World.cell?,World.frozen?,hb]
theorem LoopW.row {w9 wr:World} {g3 base g cap:Nat} {f:D3} {L:List D3} (h:LoopW w9 wr g3 f) (o:OwnD base w9 g cap L) (hne:g≠g3) {k:Nat} (hk:k < L.length) {x0 x1 x2:Int} (e:L[k]=(x0,x1,x2)) :
    (wr.cell? ⟨g,k * 3,none⟩=some (.int .i64 x0)∧wr.cell? ⟨g,k * 3 + 1,none⟩=some (.int .i64 x1)∧wr.cell? ⟨g,k * 3 + 2,none⟩=some (.int .i64 x2))∧True:=by
  have hb:=h.by_.block g o.lt (fun e=>hne (by cases e;rfl))
  obtain ⟨⟨h0,h1,h2⟩,_⟩:=cells_of o.holds (i:=k) (by simpa using hk) (x0:=x0) (x1:=x1) (x2:=x2) (by simp [hk,e])
  rw [Nat.zero_add] at h0 h1 h2
  exact ⟨⟨(World.cell?_of_block (a:=⟨g,k * 3,none⟩) hb).trans h0,(World.cell?_of_block (a:=⟨g,k * 3 + 1,none⟩) hb).trans h1,(World.cell?_of_block (a:=⟨g,k * 3 + 2,none⟩) hb).trans h2⟩,trivial⟩
theorem LoopW.set {w9 wr:World} {g3:Nat} {f:D3} (h:LoopW w9 wr g3 f) (x0 x1 x2:Int):LoopW w9 (((wr.setCell ⟨g3,0,none⟩ (.int .i64 x0)).setCell ⟨g3,1,none⟩ (.int .i64 x1)).setCell ⟨g3,2,none⟩ (.int .i64 x2)) g3 (x0,x1,x2):=by
  refine ⟨⟨h.by_.os,h.by_.tape,h.by_.output,by simp [World.setCell];exact h.by_.size,fun k hk hn=>?_⟩,?_⟩
  · have hne:k≠g3:=fun e=>hn (by rw [e])
    rw [Below.heap_setCell _ _ _ _ hne,Below.heap_setCell _ _ _ _ hne,Below.heap_setCell _ _ _ _ hne]
    exact h.by_.block k hk hn
  · have hb:=h.blk
    simp [World.setCell,hb,Array.getElem?_modify]
theorem list_neq {ops:Array Oper} {w:World} {Q:Exit→Act→World→Prop} {rest:List Oper} {o:Oper} {a:Act} {x y:Operand} {t:TypeId} {u0 u1 u2 v0 v1 v2:Int} {r:Bool} (hg:o.guard=none) (hop:o.op = .binOp .neq 28 x y t)
    (hx:a.eval x = .agg #[.int .i64 u0, .int .i64 u1, .int .i64 u2]) (hy:a.eval y = .agg #[.int .i64 v0, .int .i64 v1, .int .i64 v2]) (hr:(!decide ((u0,u1,u2)=(v0,v1,v2)))=r) (h:wpList Tryz.prog ops Q rest (a.put o.dst (.bool r)) w) :
    wpList Tryz.prog ops Q (o :: rest) a w:=by
  subst hr
  refine wpList_plain hg fun K hK=>?_
  have hk:=hK _ _ h
  have:=neqD u0 v0 u1 v1 u2 v2 w
  have hgd:=fun (a b:Array Value)=>run_eqGuard_agg (P:=Tryz.prog) w .neq 28 x y a b Tryz.eqGuardType28
  unfold Oper.wp
  simpa [execOp,hop,hx,hy,this,hgd,Oper.upon] using hk
theorem compact_le (l:List D3):(Lib.compact l).length≤l.length:=by
  unfold Lib.compact compactUpTo
  rw [List.length_map]
  exact Nat.le_trans (List.length_filter_le _ _) (by simp)
theorem flatD_snoc (l:List D3) (x:D3):flatD (l ++ [x])=flatD l ++ enD x:=by simp [flatD]
theorem flatD_one1 (x:D3) : ∀ u ∈ enD x,u.oneCell'=true:=by
  intro u hu
  simp [enD] at hu
  rcases hu with rfl|rfl|rfl <;> rfl
theorem grown_set3 (wr:World) (g3:Nat) (v0 v1 v2:Value):wr.grownBy (((wr.setCell ⟨g3,0,none⟩ v0).setCell ⟨g3,1,none⟩ v1).setCell ⟨g3,2,none⟩ v2) (some g3):=by
  refine ⟨rfl,rfl,rfl,by simp [World.setCell],fun k hk hn=>?_⟩
  have hne:k≠g3:=fun e=>hn (by rw [e])
  rw [Below.heap_setCell _ _ _ _ hne,Below.heap_setCell _ _ _ _ hne,Below.heap_setCell _ _ _ _ hne]
theorem own_set3 {wr:World} {base e size n g3:Nat} {v:Value} {xs:List Value} (h:wr.ownsRow base e size v n xs) (hb:g3 < base) (v0 v1 v2:Value):(((wr.setCell ⟨g3,0,none⟩ v0).setCell ⟨g3,1,none⟩ v1).setCell ⟨g3,2,none⟩ v2).ownsRow base e size v n xs:=by
  refine h.kept (grown_set3 wr g3 v0 v1 v2) ?_
  cases hv:v.ownBlock with
  | none=>exact .inl rfl
  | some k=>exact .inr fun e=>by cases e;have:=(h.lt _ hv).1;omega
theorem info55:(Tryz.prog.info? 55).map (fun i=>(i.zero,i.size,i.bytes))=some (some (.agg #[.int .i64 0, .int .i64 0, .int .i64 0, .int .i64 0, .int .i64 0, .int .i64 0]),6,48):=by kernel_rfl
theorem chainD_same (f:D3) (L:List D3) (k:Nat) (h:k < L.length) (e:L[k]=f):chainD f (L.drop k)=chainD f (L.drop (k + 1)):=by
  rw [List.drop_eq_getElem_cons h,e,chainD,if_pos rfl]
theorem chainD_step (f:D3) (L:List D3) (k:Nat) (h:k < L.length) (x:D3) (e:L[k]=x) (hn:x≠f):chainD f (L.drop k)=(f,x) :: chainD x (L.drop (k + 1)):=by
  rw [List.drop_eq_getElem_cons h,e,chainD,if_neg hn]
theorem enP_one (x:D3×D3) : ∀ u ∈ enP x,u.oneCell'=true:=by
  intro u hu
  simp [enP,enD] at hu
  rcases hu with rfl|rfl|rfl|rfl|rfl|rfl <;> rfl
theorem flatP_snoc (l:List (D3×D3)) (x:D3×D3):flatP (l ++ [x])=flatP l ++ enP x:=by simp [flatP]
theorem boxN {wr w':World} {o o':Obj} {row:Option Nat} (gr:((wr.alloc o).alloc o').grownBy w' row) (hr : ∀ k,row=some k→k < wr.heap.size):w'.heap[wr.heap.size]?=some o:=by
  rw [gr.block wr.heap.size (by simp;omega) (fun e=>by have:=hr _ e.symm;omega),Below.heap_alloc _ _ _ (by simp),heap_alloc_new]
theorem cells3_of {w:World} {g:Nat} {v0 v1 v2:Value} {t:TypeId} {z:Nat×Nat} (h:w.heap[g]?=some (.cells #[v0,v1,v2] t z)):w.cell? ⟨g,0,none⟩=some v0∧w.cell? ⟨g,1,none⟩=some v1∧w.cell? ⟨g,2,none⟩=some v2:=by
  refine ⟨?_,?_,?_⟩ <;> simp [World.cell?,h]
theorem own_base {w:World} {base base' e size n:Nat} {v:Value} {xs:List Value} (h:w.ownsRow base e size v n xs) (hb:base'≤base):w.ownsRow base' e size v n xs:=by
  refine ⟨h.1,?_⟩
  rcases h.2 with hn|⟨g,cap,cur,hv,hg,rest⟩
  · exact .inl hn
  · exact .inr ⟨g,cap,cur,hv,Nat.le_trans hb hg,rest⟩
set_option maxHeartbeats 4000000 in
theorem hParts (pw:D3→Bool) (hW : ∀ (W:World) (x:D3),Calls Tryz.prog 33 #[.agg (enD x).toArray] W fun e w'=>e = .returned (.bool (pw x))∧Below W.heap.size W w') (a0 a1 a2 b0 b1 b2:Int) (A:Option Addr) (cap:Nat) (l:List D3) (w:World) (h:ReadsD w A l) (hm:l.length≤1000000000000) :
    Calls Tryz.prog 11 #[.agg #[.int .i64 a0, .int .i64 a1, .int .i64 a2], .agg #[.int .i64 b0, .int .i64 b1, .int .i64 b2], .slice A l.length cap] w fun e w'=>∃ v,e = .returned (.tuple #[v, .int .i64 (partsD pw (a0,a1,a2) (b0,b1,b2) l).2]) ∧
      w'.ownsRow w.heap.size 55 6 v (partsD pw (a0,a1,a2) (b0,b1,b2) l).1.length (flatP (partsD pw (a0,a1,a2) (b0,b1,b2) l).1)∧Below w.heap.size w w':=by
  have hWa:=fun W=>hW W (a0,a1,a2)
  have hWb:=fun W=>hW W (b0,b1,b2)
  change ∀ W,Calls Tryz.prog 33 #[.agg #[.int .i64 a0, .int .i64 a1, .int .i64 a2]] W _ at hWa
  change ∀ W,Calls Tryz.prog 33 #[.agg #[.int .i64 b0, .int .i64 b1, .int .i64 b2]] W _ at hWb
  have hC:=fun W hR=>hContains pw hW A cap l W hR (by simp only [maxLen];omega)
  have B0:Aside (Boxes ((w.alloc (.cells #[.int .i64 a0, .int .i64 a1, .int .i64 a2] 28)).alloc (.cells #[.int .i64 b0, .int .i64 b1, .int .i64 b2] 28)) w.heap.size (w.heap.size + 1) (a0,a1,a2) (b0,b1,b2)):=boxes0 w a0 a1 a2 b0 b1 b2
  have R0:Aside (ReadsD ((w.alloc (.cells #[.int .i64 a0, .int .i64 a1, .int .i64 a2] 28)).alloc (.cells #[.int .i64 b0, .int .i64 b1, .int .i64 b2] 28)) A l):=h.below (below2 w _ _)
  clear h hW
  cases hpa:pw (a0,a1,a2) with
  | true =>
    have e:partsD pw (a0,a1,a2) (b0,b1,b2) l=([],11):=by unfold partsD;rw [if_pos (by rw [hpa];rfl)]
    rw [e]
    rw [hpa] at hWa
    clear e hWb hC
    go_enter Tryz.func11,Tryz.ntmps11
    go_wp2_with (go_at_call 33;refine (hWa _).mono ?_;rintro e w1 ⟨rfl,hb1⟩)
    go_ret2
    exact ⟨_,rfl,World.ownsRow_nil _ _ _ _,(below2 w _ _).trans (hb1.mono (by simp;omega))⟩
  | false =>
    rw [hpa] at hWa
    cases hpb:pw (b0,b1,b2) with
    | true =>
      have e:partsD pw (a0,a1,a2) (b0,b1,b2) l=([],11):=by unfold partsD;rw [if_pos (by rw [hpa,hpb];rfl)]
      rw [e]
      rw [hpb] at hWb
      clear e hC
      go_enter Tryz.func11,Tryz.ntmps11
      go_wp2_with (go_at_call 33;first
        | (with_reducible refine (hWa _).mono ?_;rintro e w1 ⟨rfl,hb1⟩
           have B1:Aside (Boxes w1 w.heap.size (w.heap.size + 1) (a0,a1,a2) (b0,b1,b2)):=B0.out.below hb1 B0.out.l3 B0.out.l4
           obtain ⟨q0,q1,q2⟩:=B1.out.q)
        | (with_reducible refine (hWb _).mono ?_;rintro e w2 ⟨rfl,hb2⟩))
      go_ret2
      exact ⟨_,rfl,World.ownsRow_nil _ _ _ _,((below2 w _ _).trans (hb1.mono (by simp;omega))).trans (hb2.mono (Nat.le_trans (by simp;omega) hb1.size))⟩
    | false =>
      rw [hpb] at hWb
      cases hpl:l.any pw with
      | true =>
        have e:partsD pw (a0,a1,a2) (b0,b1,b2) l=([],11):=by unfold partsD;rw [if_pos (by rw [hpl];simp)]
        rw [e]
        rw [hpl] at hC
        clear e
        go_enter Tryz.func11,Tryz.ntmps11
        go_wp2_with (first
          | (go_at_call 33;first
            | (with_reducible refine (hWa _).mono ?_;rintro e w1 ⟨rfl,hb1⟩
               have B1:Aside (Boxes w1 w.heap.size (w.heap.size + 1) (a0,a1,a2) (b0,b1,b2)):=B0.out.below hb1 B0.out.l3 B0.out.l4
               have R1:Aside (ReadsD w1 A l):=R0.out.below hb1
               have H1:Aside (Below w.heap.size w w1):=(below2 w _ _).trans (hb1.mono (by simp;omega))
               clear hb1
               obtain ⟨q0,q1,q2⟩:=B1.out.q)
            | (with_reducible refine (hWb _).mono ?_;rintro e w2 ⟨rfl,hb2⟩
               have R2:Aside (ReadsD w2 A l):=R1.out.below hb2
               have H2:Aside (Below w.heap.size w w2):=H1.out.trans (hb2.mono H1.out.size)
               clear hb2))
          | (go_at_call 34;refine (hC _ R2.out).mono ?_;rintro e w3 ⟨rfl,hb3⟩))
        go_ret2
        exact ⟨_,rfl,World.ownsRow_nil _ _ _ _,H2.out.trans (hb3.mono H2.out.size)⟩
      | false =>
        rw [hpl] at hC
        have hD:=hDateB (a0,a1,a2) (b0,b1,b2)
        change ∀ w,Calls Tryz.prog 26 #[.agg #[.int .i64 a0, .int .i64 a1, .int .i64 a2], .agg #[.int .i64 b0, .int .i64 b1, .int .i64 b2]] w _ at hD
        have hno : ¬ ((pw (a0,a1,a2) || pw (b0,b1,b2) || l.any pw)=true):=by rw [hpa,hpb,hpl];decide
        by_cases hgt:cmpD (a0,a1,a2) (b0,b1,b2) > 0
        · have e:partsD pw (a0,a1,a2) (b0,b1,b2) l=([],12):=by unfold partsD;rw [if_neg hno,if_pos hgt]
          rw [e]
          clear e hno
          generalize cmpD (a0,a1,a2) (b0,b1,b2)=u at *
          go_enter Tryz.func11,Tryz.ntmps11
          go_wp2_with (first
            | (go_at_call 33;first
              | (with_reducible refine (hWa _).mono ?_;rintro e w1 ⟨rfl,hb1⟩
                 have B1:Aside (Boxes w1 w.heap.size (w.heap.size + 1) (a0,a1,a2) (b0,b1,b2)):=B0.out.below hb1 B0.out.l3 B0.out.l4
                 have R1:Aside (ReadsD w1 A l):=R0.out.below hb1
                 have H1:Aside (Below w.heap.size w w1):=(below2 w _ _).trans (hb1.mono (by simp;omega))
                 clear hb1
                 obtain ⟨q0,q1,q2⟩:=B1.out.q)
              | (with_reducible refine (hWb _).mono ?_;rintro e w2 ⟨rfl,hb2⟩
                 have B2:Aside (Boxes w2 w.heap.size (w.heap.size + 1) (a0,a1,a2) (b0,b1,b2)):=B1.out.below hb2 B1.out.l3 B1.out.l4
                 have R2:Aside (ReadsD w2 A l):=R1.out.below hb2
                 have H2:Aside (Below w.heap.size w w2):=H1.out.trans (hb2.mono H1.out.size)
                 clear hb2))
            | (go_at_call 34;refine (hC _ R2.out).mono ?_;rintro e w3 ⟨rfl,hb3⟩
               have B3:Aside (Boxes w3 w.heap.size (w.heap.size + 1) (a0,a1,a2) (b0,b1,b2)):=B2.out.below hb3 B2.out.l3 B2.out.l4
               have H3:Aside (Below w.heap.size w w3):=H2.out.trans (hb3.mono H2.out.size)
               clear hb3
               obtain ⟨p0,p1,p2⟩:=B3.out.p
               obtain ⟨q0,q1,q2⟩:=B3.out.q)
            | (go_at_call 26;with_reducible refine (hD _).mono ?_;rintro e w4 ⟨rfl,hb4⟩))
          go_ret2
          exact ⟨_,rfl,World.ownsRow_nil _ _ _ _,H3.out.trans (hb4.mono H3.out.size)⟩
        · have e:partsD pw (a0,a1,a2) (b0,b1,b2) l=(chainD (a0,a1,a2) (atD (a0,a1,a2) (b0,b1,b2) l),0):=by unfold partsD;rw [if_neg hno,if_neg hgt]
          rw [e]
          clear e hno
          obtain ⟨i28,HI⟩ : ∃ i,Aside (Tryz.prog.info? 28=some i∧i.zero=some (.agg #[.int .i64 0, .int .i64 0, .int .i64 0])∧i.size=3∧i.bytes=24):=by
            have h:=info28
            obtain ⟨i,h1,h2⟩:=Option.map_eq_some_iff.1 h
            simp only [Prod.mk.injEq] at h2
            exact ⟨i,h1,h2.1,h2.2.1,h2.2.2⟩
          obtain ⟨i55,H5⟩ : ∃ i,Aside (Tryz.prog.info? 55=some i∧i.zero=some (.agg #[.int .i64 0, .int .i64 0, .int .i64 0, .int .i64 0, .int .i64 0, .int .i64 0])∧i.size=6∧i.bytes=48):=by
            have h:=info55
            obtain ⟨i,h1,h2⟩:=Option.map_eq_some_iff.1 h
            simp only [Prod.mk.injEq] at h2
            exact ⟨i,h1,h2.1,h2.2.1,h2.2.2⟩
          have HM:Aside (l.length≤1000000000000):=hm
          clear hm
          obtain ⟨fl,hfl⟩ : ∃ fl,fl=l.filter fun x=>!delD (a0,a1,a2) (b0,b1,b2) x:=⟨_,rfl⟩
          obtain ⟨L,hL⟩ : ∃ L,L=atD (a0,a1,a2) (b0,b1,b2) l:=⟨_,rfl⟩
          have HL:Aside (L=Lib.compact (srtD fl ++ [(b0,b1,b2)])):=by rw [hL,hfl];rfl
          have HF:Aside (fl=l.filter fun x=>!delD (a0,a1,a2) (b0,b1,b2) x):=hfl
          have HFL:Aside (fl.length≤1000000000000):=by rw [hfl];exact Nat.le_trans (List.length_filter_le _ _) HM.out
          rw [← hL]
          clear hL hfl
          have hle:cmpD (a0,a1,a2) (b0,b1,b2)≤0:=by omega
          clear hgt
          generalize cmpD (a0,a1,a2) (b0,b1,b2)=u at *
          go_enter Tryz.func11,Tryz.ntmps11
          go_wp2_with (first
            | (go_at_call 33;first
              | (with_reducible refine (hWa _).mono ?_;rintro e w1 ⟨rfl,hb1⟩
                 have B1:Aside (Boxes w1 w.heap.size (w.heap.size + 1) (a0,a1,a2) (b0,b1,b2)):=B0.out.below hb1 B0.out.l3 B0.out.l4
                 have R1:Aside (ReadsD w1 A l):=R0.out.below hb1
                 have H1:Aside (Below w.heap.size w w1):=(below2 w _ _).trans (hb1.mono (by simp;omega))
                 clear hb1
                 obtain ⟨q0,q1,q2⟩:=B1.out.q)
              | (with_reducible refine (hWb _).mono ?_;rintro e w2 ⟨rfl,hb2⟩
                 have B2:Aside (Boxes w2 w.heap.size (w.heap.size + 1) (a0,a1,a2) (b0,b1,b2)):=B1.out.below hb2 B1.out.l3 B1.out.l4
                 have R2:Aside (ReadsD w2 A l):=R1.out.below hb2
                 have H2:Aside (Below w.heap.size w w2):=H1.out.trans (hb2.mono H1.out.size)
                 clear hb2))
            | (go_at_call 34;refine (hC _ R2.out).mono ?_;rintro e w3 ⟨rfl,hb3⟩
               have B3:Aside (Boxes w3 w.heap.size (w.heap.size + 1) (a0,a1,a2) (b0,b1,b2)):=B2.out.below hb3 B2.out.l3 B2.out.l4
               have R3:Aside (ReadsD w3 A l):=R2.out.below hb3
               have H3:Aside (Below w.heap.size w w3):=H2.out.trans (hb3.mono H2.out.size)
               clear hb3
               obtain ⟨p0,p1,p2⟩:=B3.out.p
               obtain ⟨r0,r1,r2⟩:=B3.out.q)
            | (go_at_call 26;with_reducible refine (hD _).mono ?_;rintro e w4 ⟨rfl,hb4⟩
               have B4:Aside (Boxes w4 w.heap.size (w.heap.size + 1) (a0,a1,a2) (b0,b1,b2)):=B3.out.below hb4 B3.out.l3 B3.out.l4
               have R4:Aside (ReadsD w4 A l):=R3.out.below hb4
               have H4:Aside (Below w.heap.size w w4):=H3.out.trans (hb4.mono H3.out.size)
               clear hb4)
            | (go_at_call 27;refine (hClone A cap l w4 R4.out (by have:=HM.out;simp only [maxLen];omega) (by have:=HM.out;omega)).mono ?_;rintro e w5 ⟨v1,rfl,own1,hb5⟩
               have OW5:Aside (w5.ownsRow w4.heap.size 28 3 v1 l.length (flatD l)):=own1
               have HB5:Aside (Below w4.heap.size w4 w5):=hb5
               have B5:Aside (Boxes w5 w.heap.size (w.heap.size + 1) (a0,a1,a2) (b0,b1,b2)):=B4.out.below hb5 B4.out.l3 B4.out.l4
               clear own1 hb5)
            | (go_at_call 35;refine (hDelO OW5.out B5.out B4.out.l3 B4.out.l4 HB5.out.size (by have:=HM.out;simp only [maxLen];omega)).mono ?_;rintro e w6 ⟨v2,rfl,own2,hb6⟩
               rw [← HF.out] at own2
               have OW6:Aside (w6.ownsRow w4.heap.size 28 3 v2 fl.length (flatD fl)):=own2
               have HB6:Aside (Below w4.heap.size w4 w6):=HB5.out.trans hb6
               clear own2 hb6)
            | (go_at_call 37;refine (hSortO OW6.out HB6.out.size (by have:=HFL.out;omega)).mono ?_;rintro e w7 ⟨rfl,own3,hb7⟩
               have OW7:Aside (w7.ownsRow w4.heap.size 28 3 v2 fl.length (flatD (srtD fl))):=own3
               have HB7:Aside (Below w4.heap.size w4 w7):=HB6.out.trans hb7
               have B7:Aside (Boxes w7 w.heap.size (w.heap.size + 1) (a0,a1,a2) (b0,b1,b2)):=B4.out.below HB7.out B4.out.l3 B4.out.l4
               clear own3 hb7
               obtain ⟨s0,s1,s2⟩:=B7.out.q)
            | ((with_reducible refine gate_builtin (b:=.append) rfl ?_);refine wpList_append_own (w7.alloc (.cells #[.int .i64 b0, .int .i64 b1, .int .i64 b2] 28)) rfl (.tmp 34) (.tmp 36) 29 rfl w4.heap.size 28 i28 _ 3 24 Tryz.underlying29 HI.out.1 HI.out.2.1 HI.out.2.2.1 HI.out.2.2.2 rfl (by decide) v2 fl.length (flatD (srtD fl)) rfl (OW7.out.alloc _) ⟨w7.heap.size,0,none⟩ 1 1 (enD (b0,b1,b2)) rfl rfl
                (fun j u hj=>by rw [Addr.add_lit,Nat.zero_add,World.cell?_alloc_at _ _ _ _ rfl];simpa [enD] using hj) (flatD_one1 _) (by have:=HFL.out;simp only [maxLen];omega) (by have:=HFL.out;omega) (by have:=HB7.out.size;simp;omega) ?_;intro v3 w8 own4 gr _
               have OW8:Aside (w8.ownsRow w4.heap.size 28 3 v3 (fl.length + 1) (flatD (srtD fl ++ [(b0,b1,b2)]))):=by rw [flatD_snoc];exact own4
               have HB8:Aside (Below w4.heap.size w4 w8):=(HB7.out.alloc HB7.out.size _).grown gr (by have:=HB7.out.size;simp;omega) (fun k hk=>(OW7.out.lt k hk).1)
               clear own4 gr)
            | (go_at_call 38;refine (hCompO OW8.out (by simp) HB8.out.size (by have:=HFL.out;have:=(srtD_perm fl).length_eq;simp only [maxLen,List.length_append,List.length_cons,List.length_nil];omega)).mono ?_;rintro e w9 ⟨g,cap9,rfl,own5,hb9⟩
               rw [← HL.out] at own5
               rw [← HL.out]
               have OW9:Aside (OwnD w4.heap.size w9 g cap9 L):=own5
               have HB9:Aside (Below w4.heap.size w4 w9):=HB8.out.trans hb9
               clear own5 hb9))
          have H9:Aside (Below w.heap.size w w9):=H4.out.trans (HB9.out.mono H4.out.size)
          have B9:Aside (Boxes w9 w.heap.size (w.heap.size + 1) (a0,a1,a2) (b0,b1,b2)):=B4.out.below HB9.out B4.out.l3 B4.out.l4
          have G9:Aside (w.heap.size < g∧w.heap.size < w9.heap.size):=⟨Nat.lt_of_lt_of_le B4.out.l3 OW9.out.base_,B9.out.l3⟩
          have n9:L.length≤1000000000001:=by
            rw [HL.out]
            have h1:=compact_le (srtD fl ++ [(b0,b1,b2)])
            have h2:=(srtD_perm fl).length_eq
            have h3:=HFL.out
            simp only [List.length_append,List.length_cons,List.length_nil] at h1
            omega
          have N9:Aside (L.length≤1000000000001):=n9
          clear n9
          clear OW5 OW6 OW7 OW8 HB5 HB6 HB7 HB8 B0 B1 B2 B3 B5 B7 R0 R1 R2 R3 R4 H1 H2 H3 hWa hWb hC hD s0 s1 s2 p0 p1 p2 r0 r1 r2 q0 q1 q2
          go_loopg [9,41] L.length (fun gg s9 s41 wr=>∃ (k:Nat) (f:D3) (ps:List (D3×D3)),s41 = .int .i64 k∧k≤L.length∧L.length - k≤gg∧Aside (wr.ownsRow w9.heap.size 55 6 s9 ps.length (flatP ps))∧Aside (LoopW w9 wr w.heap.size f)∧Aside (ps ++ chainD f (L.drop k)=chainD (a0,a1,a2) L)∧Aside (ps.length≤k))
          case atStart=>exact ⟨0,(a0,a1,a2),[],rfl,Nat.zero_le _,by omega,World.ownsRow_nil _ _ _ _,⟨⟨rfl,rfl,rfl,Nat.le_refl _,fun _ _ _=>rfl⟩,B9.out.c⟩,rfl,Nat.zero_le _⟩
          case round =>
            obtain ⟨k,f,ps,rfl,hk,hgg,OR,LW,CH,PK⟩:=hrel
            by_cases hlt:k < L.length
            · obtain ⟨x0,x1,x2,hx⟩ : ∃ x0 x1 x2,L[k]=(x0,x1,x2):=⟨_,_,_,rfl⟩
              obtain ⟨f0,f1,f2⟩:=f
              obtain ⟨⟨c0,c1,c2⟩,_⟩:=LW.out.row OW9.out (by have:=G9.out.1;omega) hlt hx
              obtain ⟨⟨e0,e1,e2⟩,z0,z1,z2⟩:=LW.out.from_
              have hltz:(k:Int) < (L.length:Int):=by omega
              have l3:=LW.out.lt
              by_cases hxf:(x0,x1,x2)=(f0,f1,f2)
              · have HB:Aside ((!decide ((x0,x1,x2)=(f0,f1,f2)))=false):=by rw [decide_eq_true hxf];rfl
                have HX:Aside ((x0,x1,x2)=(f0,f1,f2)):=hxf
                clear hxf
                go_wp2_with ((with_reducible refine gate_ (.binOp .neq 28 (.tmp 45) (.tmp 46) 28) rfl ?_);refine list_neq rfl rfl rfl rfl HB.out ?_)
                have hw:wrap64 ((k:Int) + 1)=((k + 1:Nat):Int):=by have:=N9.out;rw [show ((k:Int) + 1)=((k + 1:Nat):Int) by omega];unfold wrap64;omega
                rw [hw]
                go_roundg (L.length - (k + 1))
                · refine ⟨k + 1,(x0,x1,x2),ps,rfl,hlt,Nat.le_refl _,(own_set3 OR.out G9.out.2 _ _ _).alloc _,(LW.out.set x0 x1 x2).alloc _ G9.out.2,?_,Nat.le_succ_of_le PK.out⟩
                  have h1:=chainD_same (f0,f1,f2) L k hlt (hx.trans HX.out)
                  rw [show ((x0,x1,x2):D3)=(f0,f1,f2) from HX.out,← h1]
                  exact CH
                · omega
              · have HB:Aside ((!decide ((x0,x1,x2)=(f0,f1,f2)))=true):=by rw [decide_eq_false hxf];rfl
                have HX:Aside ((x0,x1,x2)≠(f0,f1,f2)):=hxf
                clear hxf
                go_wp2_with (first
                  | ((with_reducible refine gate_ (.binOp .neq 28 (.tmp 45) (.tmp 46) 28) rfl ?_);refine list_neq rfl rfl rfl rfl HB.out ?_)
                  | ((with_reducible refine gate_builtin (b:=.append) rfl ?_);refine wpList_append_own ((wr.alloc (.cells #[.int .i64 x0, .int .i64 x1, .int .i64 x2] 28)).alloc (.cells #[.int .i64 f0, .int .i64 f1, .int .i64 f2, .int .i64 x0, .int .i64 x1, .int .i64 x2] 55)) rfl (.tmp 48) (.tmp 52) 39 rfl w9.heap.size 55 i55 _ 6 48 Tryz.underlying39 H5.out.1 H5.out.2.1 H5.out.2.2.1 H5.out.2.2.2 rfl (by decide) u9 ps.length (flatP ps) rfl ((OR.out.alloc _).alloc _) ⟨wr.heap.size + 1,0,none⟩ 1 1 (enP ((f0,f1,f2),(x0,x1,x2))) rfl rfl
                      (fun j u hj=>by rw [Addr.add_lit,Nat.zero_add,World.cell?_alloc_at _ _ _ _ (by simp)];simpa [enP,enD] using hj) (enP_one _) (by have:=N9.out;have:=PK.out;simp only [maxLen];omega) (by have:=N9.out;have:=PK.out;omega) (by have:=LW.out.by_.size;simp;omega) ?_;intro v4 w10 own6 gr _
                     have LWN:Aside (LoopW w9 w10 w.heap.size (f0,f1,f2)):=((LW.out.alloc _ G9.out.2).alloc _ G9.out.2).grown gr (fun k hk=>(OR.out.lt k hk).1) G9.out.2
                     have ORN:Aside (w10.ownsRow w9.heap.size 55 6 v4 (ps ++ [((f0,f1,f2),(x0,x1,x2))]).length (flatP (ps ++ [((f0,f1,f2),(x0,x1,x2))]))):=by rw [flatP_snoc,List.length_append];exact own6
                     obtain ⟨y0,y1,y2⟩:=cells3_of (boxN gr (fun k hk=>(OR.out.lt k hk).2))
                     clear own6 gr e0 e1 e2 z0 z1 z2 c0 c1 c2
                     obtain ⟨⟨e0,e1,e2⟩,z0,z1,z2⟩:=LWN.out.from_))
                have hw:wrap64 ((k:Int) + 1)=((k + 1:Nat):Int):=by have:=N9.out;rw [show ((k:Int) + 1)=((k + 1:Nat):Int) by omega];unfold wrap64;omega
                rw [hw]
                go_roundg (L.length - (k + 1))
                · refine ⟨k + 1,(x0,x1,x2),ps ++ [((f0,f1,f2),(x0,x1,x2))],rfl,hlt,Nat.le_refl _,own_set3 ORN.out G9.out.2 _ _ _,LWN.out.set x0 x1 x2,?_,by rw [List.length_append];exact Nat.succ_le_succ PK.out⟩
                  have h1:=chainD_step (f0,f1,f2) L k hlt (x0,x1,x2) hx HX.out
                  show (ps ++ [((f0,f1,f2),(x0,x1,x2))]) ++ chainD (x0,x1,x2) (L.drop (k + 1))=chainD (a0,a1,a2) L
                  rw [List.append_assoc,List.singleton_append,← h1]
                  exact CH
                · omega
            · have hke:k=L.length:=by omega
              subst hke
              have hltz : ¬ (L.length:Int) < (L.length:Int):=by omega
              go_wp2
              go_ret2
              have hps:ps=chainD (a0,a1,a2) L:=by
                have h:=CH.out
                rwa [List.drop_length,chainD,List.append_nil] at h
              rw [← hps]
              exact ⟨_,rfl,own_base OR.out (Nat.le_of_lt G9.out.2),H9.out.grown LW.out.by_ H9.out.size (fun k hk=>by cases hk;exact Nat.le_refl _)⟩
end Go.Proofs.YtakidmbnkkhojaaGreat
