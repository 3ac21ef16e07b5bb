import Derived.Test.YtakidmbnkkhojaaGreatC942Sp5
namespace Go.Proofs.YtakidmbnkkhojaaGreat
open Go.RowKit Go.Sort Go.Lib Go.Shelf Go.Proofs
set_option linter.unusedVariables false
set_option linter.unusedSimpArgs false
set_option maxRecDepth 100000
theorem setCells_append (b:Nat) : ∀ (l l':List Value) (o:Nat) (w:World),w.setCells b o (l ++ l')=(w.setCells b o l).setCells b (o + l.length) l'
  | [],l',o,w=>rfl
  | v :: l,l',o,w=>by
    show (w.setCell ⟨b,o,none⟩ v).setCells b (o + 1) (l ++ l')=((w.setCell ⟨b,o,none⟩ v).setCells b (o + 1) l).setCells b (o + (l.length + 1)) l'
    rw [setCells_append b l l' (o + 1),Nat.add_assoc,Nat.add_comm 1]
theorem Rw.zero {w:World} {blk off:Nat} : ∀ (m:Nat) {wr:World} {i:Nat} {dk:Array D3},i + m=dk.size→Rw w wr blk off dk →
    ∃ d',Rw w (wr.setCells blk (off + i * 3) (List.replicate (3 * m) (.int .i64 0))) blk off d'∧d'.toList.take i=dk.toList.take i∧d'.size=dk.size
  | 0,wr,i,dk,_,h=>⟨dk,h,rfl,rfl⟩
  | m + 1,wr,i,dk,hi,h=>by
    have h1:=h.set i (0,0,0) (by omega)
    obtain ⟨d',h2,h3,h4⟩:=Rw.zero m (i:=i + 1) (dk:=dk.setIfInBounds i (0,0,0)) (by simp;omega) h1
    refine ⟨d',?_,?_,by rw [h4];simp⟩
    · have e:List.replicate (3 * (m + 1)) (Value.int .i64 0)=enD (0,0,0) ++ List.replicate (3 * m) (.int .i64 0):=by
        rw [show 3 * (m + 1)=3 + 3 * m by omega,← List.replicate_append_replicate];rfl
      rw [e,setCells_append,show off + i * 3 + (enD (0,0,0)).length=off + (i + 1) * 3 by show off + i * 3 + 3=_;omega]
      exact h2
    · have:=congrArg (List.take i) h3
      rw [List.take_take,Nat.min_eq_left (by omega),List.take_take,Nat.min_eq_left (by omega)] at this
      rw [this]
      have e2:(dk.setIfInBounds i (0,0,0)).toList=dk.toList.set i (0,0,0):=by simp
      rw [e2,List.take_set_of_le (Nat.le_refl _)]
theorem first_hit (p:Nat→Bool) : ∀ n,(∃ k,k < n∧p k=true∧∀ j,j < k→p j=false)∨(∀ j,j < n→p j=false)
  | 0=>.inr fun j hj=>absurd hj (Nat.not_lt_zero _)
  | n + 1=>by
    rcases first_hit p n with ⟨k,h1,h2,h3⟩|h
    · exact .inl ⟨k,by omega,h2,h3⟩
    · cases hp:p n with
      | true=>exact .inl ⟨n,by omega,hp,h⟩
      | false =>
        refine .inr fun j hj=>?_
        by_cases e:j=n
        · rw [e];exact hp
        · exact h j (by omega)
theorem cells_of {w:World} {blk off:Nat} {d:Array D3} (h:HoldsK enD 3 w blk off d) {i:Nat} (hi:i < d.size) {x0 x1 x2:Int} (e:d[i]! = (x0,x1,x2)) :
    (w.cell? ⟨blk,off + i * 3,none⟩=some (.int .i64 x0)∧w.cell? ⟨blk,off + i * 3 + 1,none⟩=some (.int .i64 x1)∧w.cell? ⟨blk,off + i * 3 + 2,none⟩=some (.int .i64 x2)) ∧
    (w.frozen? ⟨blk,off + i * 3,none⟩=false∧w.frozen? ⟨blk,off + i * 3 + 1,none⟩=false∧w.frozen? ⟨blk,off + i * 3 + 2,none⟩=false):=by
  have h0:=HoldsK.cell h hi (c:=0) (by decide)
  have h1:=HoldsK.cell h hi (c:=1) (by decide)
  have h2:=HoldsK.cell h hi (c:=2) (by decide)
  rw [e] at h0 h1 h2
  exact ⟨⟨h0.1,h1.1,h2.1⟩,h0.2,h1.2,h2.2⟩
theorem run_clear_D (w:World) (b o n c:Nat) (hn:0 < n) (hc : ∀ j,j < n * 3→(w.cell? ⟨b,o + j,none⟩).isSome=true∧w.frozen? ⟨b,o + j,none⟩=false) (ty:TypeId) :
    (Builtin.clear_ #[29] ty #[.slice (some ⟨b,o,none⟩) n c]).run Tryz.prog w = .ok (.tuple #[]) (w.setCells b o (List.replicate (3 * n) (.int .i64 0))):=by
  have hzc:(Builtin.zeroCells (Value.agg #[.int .i64 0, .int .i64 0, .int .i64 0]).cells n).toList=List.replicate (3 * n) (.int .i64 0):=by
    apply List.ext_getElem
    · simp [Builtin.zeroCells,Value.cells];omega
    · intro i h1 h2
      simp [Builtin.zeroCells,Value.cells]
      have:i % 3=0∨i % 3=1∨i % 3=2:=by omega
      rcases this with h|h|h <;> simp [h]
  have hst:=run_storeCells_cells (P:=Tryz.prog) b o (List.replicate (3 * n) (.int .i64 0)) 0 w (fun j hj=>by rw [List.length_replicate] at hj;exact (hc j (by omega)).1) (fun j hj=>by rw [List.length_replicate] at hj;exact (hc j (by omega)).2) (by intro v hv';rw [List.eq_of_mem_replicate hv'];rfl)
  simp only [Nat.add_zero] at hst
  obtain ⟨m,rfl⟩ : ∃ m,n=m + 1:=⟨n - 1,by omega⟩
  simp [Builtin.clear_,run_underlying Tryz.underlying29,Tryz.zeroValue28,hzc,hst]
set_option maxHeartbeats 4000000 in
theorem hDel (g:Nat) (lb:Array Value) (p:D3→Bool) (eg : ∀ args w,(callFunc g args).run Tryz.prog w = .ok (.enter g args) w) (blk off cap:Nat) (d:Array D3) (w:World) (G:World→Prop) (hG : ∀ W d',Rw w W blk off d'→G W)
    (hp:PredIn g lb p G) (hH:HoldsK enD 3 w blk off d) (hb:blk < w.heap.size) (hs:d.size≤9223372036854775807) (hcap:d.size≤cap) :
    Calls Tryz.prog 35 #[.slice (some ⟨blk,off,none⟩) d.size cap, .func (.func g) #[] lb] w fun e w'=>∃ d',e = .returned (.slice (some ⟨blk,off,none⟩) (d.toList.filter fun x=>!p x).length cap)∧Rw w w' blk off d' ∧
      d'.toList.take (d.toList.filter fun x=>!p x).length=(d.toList.filter fun x=>!p x)∧d'.size=d.size:=by
  have hi:=hIndex g lb p eg blk off cap d w G (fun W hW=>hG W d ((Rw.refl hH hb).below hW)) hp hH hb hs
  rcases first_hit (fun j=>p d[j]!) d.size with ⟨k,hk,hpk,hlow⟩|hno
  · have e:Lib.idxBy (fun _ y=>p y) d.toList default=(k:Int):=by
      have:=Lib.idxBy_hit (fun _ y=>p y) d.toList d.size k default hk (by simp) (by simpa [hk] using hpk) (fun j hj=>by have:=hlow j hj;simpa [show j < d.size by omega] using this)
      rwa [List.take_of_length_le (by simp)] at this
    rw [e] at hi
    clear e
    have AH:Aside (HoldsK enD 3 w blk off d∧blk < w.heap.size):=⟨hH,hb⟩
    clear hH hb
    go_enter Tryz.func35,Tryz.ntmps35
    go_wp2_with (go_at_call 75;refine hi.mono ?_;rintro e w1 ⟨rfl,hb1⟩)
    go_loopg [5,6] d.size (fun gg s5 s6 wr=>∃ (i j:Nat) (dk:Array D3),s5 = .int .i64 i∧s6 = .int .i64 j∧j≤d.size∧d.size - j≤gg∧Aside (Rw w wr blk off dk)∧Aside (DelInv p d i j dk))
    case atStart =>
      refine ⟨k,k + 1,d,rfl,by go_num,by omega,by omega,(Rw.refl AH.out.1 AH.out.2).below hb1,⟨by omega,rfl,?_,fun t _ _=>rfl⟩⟩
      rw [List.take_succ_eq_append_getElem (l:=d.toList) (by simpa using hk),List.filter_append]
      have e:d.toList[k]'(by simpa using hk)=d[k]!:=by simp [hk]
      rw [e,List.filter_eq_self.2 (fun x hx=>?_)]
      · simp [hpk]
      · obtain ⟨j,hj,rfl⟩:=List.getElem_of_mem hx
        have hj':j < k:=by simp at hj;omega
        have:=hlow j hj'
        simp only [List.getElem_take]
        simpa [show j < d.size by omega] using this
    case round =>
      obtain ⟨i,j,dk,rfl,rfl,hj,hgg,R,DI⟩:=hrel
      clear hb1 hi
      by_cases hlt:j < d.size
      · obtain ⟨x0,x1,x2,hx⟩ : ∃ x0 x1 x2,d[j]! = (x0,x1,x2):=⟨_,_,_,rfl⟩
        have hdk:dk[j]! = (x0,x1,x2):=by rw [DI.out.high j (Nat.le_refl _) hlt,hx]
        have hds:=DI.out.size
        have hij:=DI.out.le
        obtain ⟨⟨c0,c1,c2⟩,_⟩:=cells_of R.out.holds (i:=j) (by omega) hdk
        have hcall:=fun W h=>hp W (x0,x1,x2) h
        change ∀ W,G W→Calls Tryz.prog g (#[.agg #[.int .i64 x0, .int .i64 x1, .int .i64 x2]] ++ lb) W _ at hcall
        have hltz:(j:Int) < (d.size:Int):=by omega
        cases hpx:p (x0,x1,x2) with
        | true =>
          rw [hpx] at hcall
          go_wp2_with (go_at_fn g;refine (hcall _ (hG _ dk (R.out.below (Below.refl _ _ |>.alloc (Nat.le_refl _) _)))).mono ?_;rintro e w2 ⟨rfl,hb2⟩)
          go_roundg (d.size - (j + 1))
          case measure=>omega
          case rel=>exact ⟨i,j + 1,dk,rfl,by go_num,by omega,Nat.le_refl _,(R.out.below (Below.refl _ _ |>.alloc (Nat.le_refl _) _)).below hb2,DI.out.skip hlt (by rw [hx];exact hpx)⟩
        | false =>
          rw [hpx] at hcall
          obtain ⟨y0,y1,y2,hy⟩ : ∃ y0 y1 y2,dk[i]! = (y0,y1,y2):=⟨_,_,_,rfl⟩
          go_wp2_with (go_at_fn g;refine (hcall _ (hG _ dk (R.out.below (Below.refl _ _ |>.alloc (Nat.le_refl _) _)))).mono ?_;rintro e w2 ⟨rfl,hb2⟩
                       have k0:w2.cell? ⟨wr.heap.size,0,none⟩=some (.int .i64 x0):=(hb2.cell (p:=⟨wr.heap.size,0,none⟩) (by simp)).trans (by rw [World.cell?_alloc_at _ _ _ _ rfl];rfl)
                       have k1:w2.cell? ⟨wr.heap.size,1,none⟩=some (.int .i64 x1):=(hb2.cell (p:=⟨wr.heap.size,1,none⟩) (by simp)).trans (by rw [World.cell?_alloc_at _ _ _ _ rfl];rfl)
                       have k2:w2.cell? ⟨wr.heap.size,2,none⟩=some (.int .i64 x2):=(hb2.cell (p:=⟨wr.heap.size,2,none⟩) (by simp)).trans (by rw [World.cell?_alloc_at _ _ _ _ rfl];rfl)
                       have R2:Aside (Rw w w2 blk off dk):=(R.out.below (Below.refl _ _ |>.alloc (Nat.le_refl _) _)).below hb2
                       obtain ⟨⟨m0,m1,m2⟩,z0,z1,z2⟩:=cells_of R2.out.holds (i:=i) (by omega) hy
                       clear hb2 c0 c1 c2)
          go_roundg (d.size - (j + 1))
          case measure=>omega
          case rel=>exact ⟨i + 1,j + 1,dk.setIfInBounds i d[j]!,by go_num,by go_num,by omega,Nat.le_refl _,by rw [hx];exact R2.out.set i (x0,x1,x2) (by omega),DI.out.keep hlt (by rw [hx];exact hpx)⟩
      · have hjd:j=d.size:=by omega
        have hij:=DI.out.le
        have hds:=DI.out.size
        have hcl:=run_clear_D wr blk (off + i * 3) (d.size - i) (cap - i) (by omega) (fun q hq=>by
          have:=R.out.holds (i * 3 + q) (by rw [size_flatK];omega)
          rw [← Nat.add_assoc] at this
          exact ⟨by rw [this.1];rfl,this.2⟩)
        have hltz : ¬ (j:Int) < (d.size:Int):=by omega
        go_wp2
        go_ret
        obtain ⟨d2,r1,r2,r3⟩:=Rw.zero (d.size - i) (i:=i) (dk:=dk) (by omega) R.out
        have hf:(d.toList.filter fun x=>!p x)=dk.toList.take i:=by rw [DI.out.low,hjd,List.take_of_length_le (by simp)]
        have hl:(dk.toList.take i).length=i:=by rw [List.length_take];simp;omega
        rw [hf,hl]
        exact ⟨rfl,d2,r1,r2,r3.trans hds⟩
  · have e:Lib.idxBy (fun _ y=>p y) d.toList default = -1:=by
      have:=Lib.idxBy_miss (fun _ y=>p y) d.toList d.size default (fun j hj=>by have:=hno j hj;simpa [hj] using this)
      rwa [List.take_of_length_le (by simp)] at this
    rw [e] at hi
    have hf:(d.toList.filter fun x=>!p x)=d.toList:=List.filter_eq_self.2 (fun x hx=>by
      obtain ⟨j,hj,rfl⟩:=List.getElem_of_mem hx
      have hj':j < d.size:=by simpa using hj
      have:=hno j hj'
      simpa [hj'] using this)
    rw [hf]
    clear e hno hf
    have AH:Aside (HoldsK enD 3 w blk off d∧blk < w.heap.size):=⟨hH,hb⟩
    clear hH hb
    go_enter Tryz.func35,Tryz.ntmps35
    go_wp2_with (go_at_call 75;refine hi.mono ?_;rintro e w1 ⟨rfl,hb1⟩)
    go_ret
    exact ⟨d,by show Ending.returned (.slice _ d.size cap)=_;rw [Array.length_toList],(Rw.refl AH.out.1 AH.out.2).below hb1,List.take_length,rfl⟩
end Go.Proofs.YtakidmbnkkhojaaGreat
