import Derived.Test.YtakidmbnkkhojaaGreatC942Sp6
import Derived.Test.YtakidmbnkkhojaaGreatC942WEqStruct
import Derived.Lib.SlicesCompact
import Derived.StillTailTactics
namespace Go.Proofs.YtakidmbnkkhojaaGreat
open Go.RowKit Go.Sort Go.Lib Go.Shelf Go.Proofs Go.Proofs.YtakidmbnkkhojaaGreatW.PrintWords Go.Proofs.YtakidmbnkkhojaaGreatX
set_option linter.unusedVariables false
set_option linter.unusedSimpArgs false
set_option maxRecDepth 100000
theorem eqD (d:Nat) (w:World) (x0 y0 x1 y1 x2 y2:Int) :
    (Op.equalIn (d + 2) 28 (.agg #[.int .i64 x0, .int .i64 x1, .int .i64 x2]) (.agg #[.int .i64 y0, .int .i64 y1, .int .i64 y2])).run Tryz.prog w = .ok (x0 == y0 && (x1 == y1 && (x2 == y2))) w:=by
  refine eqA_of Tryz.underlying28 (by kernel_rfl) ?_
  refine eqf_cons (by rfl) (by go_simp;rfl) (by go_simp;rfl) (by go_simp) ?_
  refine eqf_cons (by rfl) (by go_simp;rfl) (by go_simp;rfl) (by go_simp) ?_
  exact eqf_last (by rfl) (by go_simp;rfl) (by go_simp;rfl) (by go_simp)
theorem eqD_eq (x0 y0 x1 y1 x2 y2:Int):(x0 == y0 && (x1 == y1 && (x2 == y2)))=decide ((x0,x1,x2)=(y0,y1,y2)):=by
  by_cases h0:x0=y0 <;> by_cases h1:x1=y1 <;> by_cases h2:x2=y2 <;> simp [h0,h1,h2]
theorem eqlD (x0 y0 x1 y1 x2 y2:Int) (w:World):(binOp .eql 28 (.agg #[.int .i64 x0, .int .i64 x1, .int .i64 x2]) (.agg #[.int .i64 y0, .int .i64 y1, .int .i64 y2])).run Tryz.prog w = .ok (.bool (decide ((x0,x1,x2)=(y0,y1,y2)))) w:=by
  rw [← eqD_eq]
  simp [binOp,Op.equal,Op.maxDepth,eqD 9998]
theorem neqD (x0 y0 x1 y1 x2 y2:Int) (w:World):(binOp .neq 28 (.agg #[.int .i64 x0, .int .i64 x1, .int .i64 x2]) (.agg #[.int .i64 y0, .int .i64 y1, .int .i64 y2])).run Tryz.prog w = .ok (.bool (!decide ((x0,x1,x2)=(y0,y1,y2)))) w:=by
  rw [← eqD_eq]
  simp [binOp,Op.equal,Op.maxDepth,eqD 9998]
theorem still_neq {ops:Array Oper} {w:World} {Q:Act→Prop} {rest:List Oper} {o:Oper} {a:Act} {x y:Operand} {t:TypeId} {u0 u1 u2 v0 v1 v2:Int} {r:Bool} (hg:o.guard=none) (hop:o.op = .binOp .neq 28 x y t)
    (hx:a.eval x = .agg #[.int .i64 u0, .int .i64 u1, .int .i64 u2]) (hy:a.eval y = .agg #[.int .i64 v0, .int .i64 v1, .int .i64 v2]) (hr:(!decide ((u0,u1,u2)=(v0,v1,v2)))=r) (h:wpStill Tryz.prog ops w Q rest (a.put o.dst (.bool r))) :
    wpStill Tryz.prog ops w Q (o :: rest) a:=by
  subst hr
  unfold wpStill
  rw [if_pos (by simp [Region.wanted,hg])]
  unfold Oper.still
  have:=neqD u0 v0 u1 v1 u2 v2 w
  have hgd:=fun (a b:Array Value)=>run_eqGuard_agg (P:=Tryz.prog) w .neq 28 x y a b Tryz.eqGuardType28
  simpa [execOp,hop,hx,hy,this,hgd,Oper.stillUpon] using h
theorem i64_sub1 {k:Nat} (h:1≤k) (h2:k≤9223372036854775807):IntKind.i64.wrap ((k:Int) - 1)=((k - 1:Nat):Int)∧(0:Int)≤((k - 1:Nat):Int):=by
  have e:((k - 1:Nat):Int)=(k:Int) - 1:=by omega
  rw [e]
  refine ⟨?_,by omega⟩
  simp only [IntKind.wrap,IntKind.bits,IntKind.signed]
  simp
  omega
theorem Rw.drew {w w':World} {blk off:Nat} {d:Array D3} (h:Rw w w' blk off d):Rw w w'.drew blk off d:=h.below (Below.refl _ _ |>.drew)
set_option maxHeartbeats 4000000 in
theorem hComp (blk off cap:Nat) (d:Array D3) (w:World) (hH:HoldsK enD 3 w blk off d) (hb:blk < w.heap.size) (hs:d.size≤9223372036854775807) (hcap:d.size≤cap) :
    Calls Tryz.prog 38 #[.slice (some ⟨blk,off,none⟩) d.size cap] w fun e w'=>∃ d',e = .returned (.slice (some ⟨blk,off,none⟩) (compactUpTo d d.size).length cap)∧Rw w w' blk off d'∧d'.toList.take (compactUpTo d d.size).length=compactUpTo d d.size∧d'.size=d.size:=by
  have same : ∀ wr,(∀ j,j < d.size→keeps d j=true)→Rw w wr blk off d→(compactUpTo d d.size).length=d.size∧∃ d',Rw w wr blk off d'∧d'.toList.take (compactUpTo d d.size).length=compactUpTo d d.size∧d'.size=d.size:=by
    intro wr hall hR
    have e:compactUpTo d d.size=d.toList:=by rw [compactUpTo_all d _ hall,range_map_get]
    rw [e]
    exact ⟨by simp,d,hR,List.take_length,rfl⟩
  have HS:Aside (∀ wr,(∀ j,j < d.size→keeps d j=true)→Rw w wr blk off d→(compactUpTo d d.size).length=d.size∧∃ d',Rw w wr blk off d'∧d'.toList.take (compactUpTo d d.size).length=compactUpTo d d.size∧d'.size=d.size):=same
  clear same
  have AR:Aside (Rw w w blk off d):=Rw.refl hH hb
  clear hH hb
  by_cases h2:d.size < 2
  · go_enter Tryz.func38,Tryz.ntmps38
    go_wp2
    go_ret
    obtain ⟨e1,d',e2,e3⟩:=HS.out w (fun j hj=>keeps_lt_one d j (by omega)) AR.out
    exact ⟨d',by rw [e1];rfl,e2,e3⟩
  · go_enter Tryz.func38,Tryz.ntmps38
    go_wp2
    go_loopg [3] d.size (fun g s3 wr=>∃ k:Nat,1≤k∧k≤d.size∧d.size - k≤g∧s3 = .int .i64 k∧Aside (Rw w wr blk off d)∧Aside (∀ j,j < k→keeps d j=true))
    case atStart=>exact ⟨1,Nat.le_refl _,by omega,by omega,rfl,AR,keeps_lt_one d⟩
    case round =>
      obtain ⟨k,hk1,hk,hg,rfl,R,A⟩:=hrel
      by_cases hlt:k < d.size
      · obtain ⟨x0,x1,x2,hx⟩ : ∃ x0 x1 x2,d[k]! = (x0,x1,x2):=⟨_,_,_,rfl⟩
        obtain ⟨y0,y1,y2,hy⟩ : ∃ y0 y1 y2,d[k - 1]! = (y0,y1,y2):=⟨_,_,_,rfl⟩
        obtain ⟨⟨c0,c1,c2⟩,_⟩:=cells_of R.out.holds (i:=k) (by omega) hx
        obtain ⟨⟨b0,b1,b2⟩,_⟩:=cells_of R.out.holds (i:=k - 1) (by omega) hy
        have hq:=fun w=>eqlD x0 y0 x1 y1 x2 y2 w
        have hltz:(k:Int) < (d.size:Int):=by omega
        have hw:=i64_sub1 hk1 (by omega:k≤9223372036854775807)
        have hl1:((k - 1:Nat):Int) < (d.size:Int):=by omega
        by_cases hdup:x0=y0∧x1=y1∧x2=y2
        · have hbool:(decide (x0=y0) && (decide (x1=y1) && decide (x2=y2)))=true:=by simp [hdup]
          have hkd:keeps d k=false:=keeps_neg (by omega) (by rw [hx,hy,hdup.1,hdup.2.1,hdup.2.2])
          go_wp2_with fail
          refine wp_region_still_lit (by kernel_rfl) (by kernel_rfl) ?_
          change wpStill _ _ (World.drew _) _ _ _
          repeat (first|still_step|(refine wpStill_step (fun K hK=>?_);go_simp;rw [hw.1];go_simp;refine hK _ ?_;clear hK K))
          refine wpStill_nil ?_
          try rw [hbool]
          change Exit.then _ _ _ _ (World.drew _)
          clear hw hl1 hbool
          go_wp2
          clear c0 c1 c2 b0 b1 b2 hq
          go_loopg [3,5] d.size (fun g s3 s5 wr=>∃ (kk k2:Nat) (dk:Array D3),s3 = .int .i64 kk∧s5 = .int .i64 k2∧1≤k2∧k + k2≤d.size∧d.size - (k + k2)≤g∧Aside (Rw w wr blk off dk)∧Aside (CompInv d (k + k2) kk dk))
          case atStart=>exact ⟨k,1,d,rfl,rfl,Nat.le_refl _,by omega,by omega,R.out.drew,CompInv.start A.out hkd⟩
          case round =>
            obtain ⟨kk,k2,dk,rfl,rfl,h1,hle,hg2,R2,I⟩:=hrel
            have hkk:=I.out.lt
            have hds:=I.out.size
            by_cases hlt2:k + k2 < d.size
            · obtain ⟨u0,u1,u2,hu⟩ : ∃ u0 u1 u2,d[k + k2]! = (u0,u1,u2):=⟨_,_,_,rfl⟩
              obtain ⟨v0,v1,v2,hv⟩ : ∃ v0 v1 v2,d[k + k2 - 1]! = (v0,v1,v2):=⟨_,_,_,rfl⟩
              obtain ⟨o0,o1,o2,ho⟩ : ∃ o0 o1 o2,dk[kk]! = (o0,o1,o2):=⟨_,_,_,rfl⟩
              obtain ⟨⟨c0,c1,c2⟩,_⟩:=cells_of R2.out.holds (i:=k + k2) (by omega) ((I.out.high _ (by omega)).trans hu)
              obtain ⟨⟨b0,b1,b2⟩,_⟩:=cells_of R2.out.holds (i:=k + k2 - 1) (by omega) ((I.out.high _ (by omega)).trans hv)
              rw [show off + (k + k2) * 3=off + k * 3 + k2 * 3 by omega] at c0 c1 c2
              rw [show off + (k + k2 - 1) * 3=off + k * 3 + (k2 - 1) * 3 by omega] at b0 b1 b2
              have hw:=i64_sub1 h1 (by omega:k2≤9223372036854775807)
              have hl1:((k2 - 1:Nat):Int) < ((d.size - k:Nat):Int):=by omega
              have hl2:(k2:Int) < ((d.size - k:Nat):Int):=by omega
              by_cases huv:u0=v0∧u1=v1∧u2=v2
              · have hkd:keeps d (k + k2)=false:=keeps_neg (by omega) (by rw [hu,hv,huv.1,huv.2.1,huv.2.2])
                have HB:Aside ((!decide ((u0,u1,u2)=(v0,v1,v2)))=false):=by rw [decide_eq_true (by rw [huv.1,huv.2.1,huv.2.2])];rfl
                have HK:Aside (keeps d (k + k2)=false):=hkd
                clear huv hkd
                go_wp2_with fail
                refine wp_region_still_lit (by kernel_rfl) (by kernel_rfl) ?_
                change wpStill _ _ (World.drew _) _ _ _
                iterate 9 (first|still_step|(refine wpStill_step (fun K hK=>?_);go_simp;rw [hw.1];go_simp;refine hK _ ?_;clear hK K))
                refine still_neq rfl rfl rfl rfl HB.out ?_
                refine wpStill_nil ?_
                change Exit.then _ _ _ _ (World.drew _)
                clear hw hl1 hl2
                go_wp2
                go_roundg (d.size - (k + (k2 + 1)))
                case measure=>omega
                case rel=>exact ⟨kk,k2 + 1,dk,rfl,by go_num,by omega,by omega,Nat.le_refl _,R2.out.drew,I.out.skip HK.out⟩
              · have hkd:keeps d (k + k2)=true:=keeps_pos (by rw [hu,hv];intro e;injection e with e0 e;injection e with e1 e2;exact huv ⟨e0,e1,e2⟩)
                have HB:Aside ((!decide ((u0,u1,u2)=(v0,v1,v2)))=true):=by rw [decide_eq_false (fun e=>by injection e with e0 e;injection e with e1 e2;exact huv ⟨e0,e1,e2⟩)];rfl
                have HK:Aside (keeps d (k + k2)=true):=hkd
                clear huv hkd
                go_wp2_with fail
                refine wp_region_still_lit (by kernel_rfl) (by kernel_rfl) ?_
                change wpStill _ _ (World.drew _) _ _ _
                iterate 9 (first|still_step|(refine wpStill_step (fun K hK=>?_);go_simp;rw [hw.1];go_simp;refine hK _ ?_;clear hK K))
                refine still_neq rfl rfl rfl rfl HB.out ?_
                refine wpStill_nil ?_
                change Exit.then _ _ _ _ (World.drew _)
                clear hw hl1 b0 b1 b2
                obtain ⟨⟨m0,m1,m2⟩,z0,z1,z2⟩:=cells_of R2.out.holds (i:=kk) (by omega) ho
                have hl3:(kk:Int) < (d.size:Int):=by omega
                go_wp2_with fail
                go_roundg (d.size - (k + (k2 + 1)))
                case measure=>omega
                case rel=>exact ⟨kk + 1,k2 + 1,dk.setIfInBounds kk d[k + k2]!,by go_num,by go_num,by omega,by omega,Nat.le_refl _,by rw [hu];exact (R2.out.set kk (u0,u1,u2) (by omega)).drew,I.out.keep hlt2 HK.out⟩
            · have hend:k + k2=d.size:=by omega
              have hcl:=run_clear_D wr blk (off + kk * 3) (d.size - kk) (cap - kk) (by omega) (fun q hq=>by
                have:=R2.out.holds (kk * 3 + q) (by rw [size_flatK];omega)
                rw [← Nat.add_assoc] at this
                exact ⟨by rw [this.1];rfl,this.2⟩)
              have hl2 : ¬ (k2:Int) < ((d.size - k:Nat):Int):=by omega
              have hl3:(kk:Int)≤(d.size:Int):=by omega
              go_wp2
              go_ret
              obtain ⟨d2,r1,r2,r3⟩:=Rw.zero (d.size - kk) (i:=kk) (dk:=dk) (by omega) R2.out
              have hI:=I.out
              rw [hend] at hI
              rw [hI.len]
              refine ⟨rfl,d2,r1,?_,r3.trans hds⟩
              rw [r2]
              apply List.ext_getElem?
              intro q
              rw [List.getElem?_take]
              by_cases hq:q < kk
              · rw [if_pos hq,hI.low q hq]
                simp [show q < dk.size by omega]
              · rw [if_neg hq,List.getElem?_eq_none (by rw [hI.len];omega)]
        · have HB:Aside ((decide (x0=y0) && (decide (x1=y1) && decide (x2=y2)))=false):=by
            show (decide (x0=y0) && (decide (x1=y1) && decide (x2=y2)))=false
            rw [Bool.eq_false_iff]
            intro h
            simp at h
            exact hdup h
          have HK:Aside (keeps d k=true):=keeps_pos (by rw [hx,hy];intro e;injection e with e0 e;injection e with e1 e2;exact hdup ⟨e0,e1,e2⟩)
          clear hdup
          go_wp2_with fail
          refine wp_region_still_lit (by kernel_rfl) (by kernel_rfl) ?_
          change wpStill _ _ (World.drew _) _ _ _
          repeat (first|still_step|(refine wpStill_step (fun K hK=>?_);go_simp;rw [hw.1];go_simp;refine hK _ ?_;clear hK K))
          refine wpStill_nil ?_
          rw [HB.out]
          change Exit.then _ _ _ _ (World.drew _)
          clear hw hl1
          go_wp2
          go_roundg (d.size - (k + 1))
          case measure=>omega
          case rel =>
            refine ⟨k + 1,by omega,by omega,Nat.le_refl _,by go_num,R.out.drew,fun j hj=>?_⟩
            by_cases e:j=k
            · subst e;exact HK.out
            · exact A.out j (by omega)
      · have hkd:k=d.size:=by omega
        have hltz : ¬ (k:Int) < (d.size:Int):=by omega
        obtain ⟨e1,d',e2,e3⟩:=HS.out wr (fun j hj=>A.out j (by omega)) R.out
        have HE:Aside ((compactUpTo d d.size).length=d.size∧Rw w wr blk off d'∧d'.toList.take (compactUpTo d d.size).length=compactUpTo d d.size∧d'.size=d.size):=⟨e1,e2,e3⟩
        clear e1 e2 e3
        go_wp2
        go_ret
        exact ⟨by rw [HE.out.1];rfl,d',HE.out.2.1,HE.out.2.2⟩
end Go.Proofs.YtakidmbnkkhojaaGreat
