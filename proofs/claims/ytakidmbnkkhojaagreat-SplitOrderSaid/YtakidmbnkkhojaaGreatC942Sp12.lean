import Derived.Test.YtakidmbnkkhojaaGreatC942Sp11
namespace Go.Proofs.YtakidmbnkkhojaaGreat
open Go.RowKit Go.Sort Go.Lib Go.Shelf Go.Proofs Go.Proofs.YtakidmbnkkhojaaGreatW.PrintWords Go.Proofs.YtakidmbnkkhojaaGreatW.PrintLast Go.Proofs.YtakidmbnkkhojaaGreatW.PrintMore
set_option linter.unusedVariables false
set_option linter.unusedSimpArgs false
set_option maxRecDepth 100000
theorem own_cases {base n:Nat} {w:World} {v:Value} {l:List D3} (h:w.ownsRow base 28 3 v n (flatD l)):n=l.length∧((v = .slice none 0 0∧l = [])∨∃ g cap,v = .slice (some ⟨g,0,none⟩) n cap∧OwnD base w g cap l):=by
  have hn:n=l.length:=by
    have:=h.1
    rw [flatD_len] at this
    omega
  refine ⟨hn,?_⟩
  rcases h.2 with ⟨e,e0⟩|⟨g,cap,cur,e,_⟩
  · exact .inl ⟨e,List.eq_nil_of_length_eq_zero (by omega)⟩
  · subst e
    exact .inr ⟨g,cap,rfl,own_to h hn⟩
theorem Rw.belowB {w w':World} {blk off base:Nat} {d:Array D3} (h:Rw w w' blk off d) (hb:base≤blk) (hs:base≤w.heap.size):Below base w w' :=
  ⟨h.by_.os,h.by_.tape,h.by_.output,h.by_.size,fun k hk=>h.by_.block k (by omega) (fun e=>by cases e;omega)⟩
theorem enters36 : ∀ args w,(callFunc 36 args).run Tryz.prog w = .ok (.enter 36 args) w:=enters_of Tryz.func36 (by kernel_rfl) rfl
theorem enters33 : ∀ args w,(callFunc 33 args).run Tryz.prog w = .ok (.enter 33 args) w:=enters_of Tryz.func33 (by kernel_rfl) rfl
structure Boxes (w:World) (g3 g4:Nat) (a b:D3):Prop where
  l3:g3 < w.heap.size
  l4:g4 < w.heap.size
  p:w.cell? ⟨g3,0,none⟩=some (.int .i64 a.1)∧w.cell? ⟨g3,1,none⟩=some (.int .i64 a.2.1)∧w.cell? ⟨g3,2,none⟩=some (.int .i64 a.2.2)
  c:w.heap[g3]?=some (.cells #[.int .i64 a.1, .int .i64 a.2.1, .int .i64 a.2.2] 28 (0,0))
  q:w.cell? ⟨g4,0,none⟩=some (.int .i64 b.1)∧w.cell? ⟨g4,1,none⟩=some (.int .i64 b.2.1)∧w.cell? ⟨g4,2,none⟩=some (.int .i64 b.2.2)
theorem Boxes.below {w w':World} {g3 g4 base:Nat} {a b:D3} (h:Boxes w g3 g4 a b) (hb:Below base w w') (h3:g3 < base) (h4:g4 < base):Boxes w' g3 g4 a b :=
  ⟨Nat.lt_of_lt_of_le h.l3 hb.size,Nat.lt_of_lt_of_le h.l4 hb.size,
    ⟨(hb.cell (p:=⟨g3,0,none⟩) h3).trans h.p.1,(hb.cell (p:=⟨g3,1,none⟩) h3).trans h.p.2.1,(hb.cell (p:=⟨g3,2,none⟩) h3).trans h.p.2.2⟩,(hb.block g3 h3).trans h.c,
    ⟨(hb.cell (p:=⟨g4,0,none⟩) h4).trans h.q.1,(hb.cell (p:=⟨g4,1,none⟩) h4).trans h.q.2.1,(hb.cell (p:=⟨g4,2,none⟩) h4).trans h.q.2.2⟩⟩
theorem hDelO {base n g3 g4:Nat} {w:World} {v:Value} {l:List D3} {a b:D3} (h:w.ownsRow base 28 3 v n (flatD l)) (hB:Boxes w g3 g4 a b) (h3:g3 < base) (h4:g4 < base) (hbs:base≤w.heap.size) (hm:l.length≤maxLen) :
    Calls Tryz.prog 35 #[v, .func (.func 36) #[] #[.pointer (some ⟨g3,0,none⟩), .pointer (some ⟨g4,0,none⟩)]] w fun e w'=>∃ v',e = .returned v'∧w'.ownsRow base 28 3 v' (l.filter fun x=>!delD a b x).length (flatD (l.filter fun x=>!delD a b x))∧Below base w w':=by
  obtain ⟨hn,⟨rfl,rfl⟩|⟨g,cap,rfl,hO⟩⟩:=own_cases h
  · refine (hDel0 _ _ _).mono fun e w' ⟨he,hw⟩=>⟨_,he,?_,?_⟩
    · exact World.ownsRow_nil _ _ _ _
    · rw [hw];exact Below.refl _ _
  · subst hn
    have hs:l.length≤9223372036854775807:=by simp only [maxLen] at hm;omega
    have hd:=hDel 36 #[.pointer (some ⟨g3,0,none⟩), .pointer (some ⟨g4,0,none⟩)] (delD a b) enters36 g 0 cap l.toArray w (fun W=>Boxes W g3 g4 a b) (fun W d' r=>hB.below (r.belowB hO.base_ hbs) h3 h4)
      (fun W x hW=>by
        obtain ⟨a0,a1,a2⟩:=a
        obtain ⟨b0,b1,b2⟩:=b
        exact hClo x.1 x.2.1 x.2.2 a0 a1 a2 b0 b1 b2 g3 g4 W hW.l3 hW.l4 hW.p.1 hW.p.2.1 hW.p.2.2 hW.q.1 hW.q.2.1 hW.q.2.2) hO.holds hO.lt (by simpa using hs) (by simpa using hO.len)
    rw [List.size_toArray] at hd
    refine hd.mono fun e w' ⟨d',he,r,ht,hz⟩=>⟨_,he,?_,r.belowB hO.base_ hbs⟩
    have hsz:d'.size=l.length:=by rw [hz]
    have ho:=hO.rw r (l.filter fun x=>!delD a b x).length (by rw [hsz];exact List.length_filter_le _ _) hsz
    have ht:d'.toList.take (l.filter fun x=>!delD a b x).length=l.filter fun x=>!delD a b x:=ht
    rw [ht] at ho
    exact to_own ho
theorem hSortO {base n:Nat} {w:World} {v:Value} {l:List D3} (h:w.ownsRow base 28 3 v n (flatD l)) (hbs:base≤w.heap.size) (hm:l.length≤100000000000000) :
    Calls Tryz.prog 37 #[v, .func (.func 26) #[] #[]] w fun e w'=>e = .returned (.tuple #[])∧w'.ownsRow base 28 3 v n (flatD (srtD l))∧Below base w w':=by
  obtain ⟨hn,⟨rfl,rfl⟩|⟨g,cap,rfl,hO⟩⟩:=own_cases h
  · refine (hSort0 _ _).mono fun e w' ⟨he,hw⟩=>⟨he,?_,?_⟩
    · rw [hn];exact World.ownsRow_nil _ _ _ _
    · rw [hw];exact Below.refl _ _
  · subst hn
    have hd:=hSort g 0 cap l.toArray w hO.holds hO.lt (by simp;omega)
    rw [List.size_toArray] at hd
    refine hd.mono fun e w' ⟨he,d',m,os,hp,hs,hw⟩=>?_
    have hsz:d'.size=l.length:=by rw [hp.1];simp
    have e1:=sorted_is (d:=l.toArray) (by simpa using hp) (by simpa using hs)
    have r:Rw w w' g 0 d':=by rw [hw];exact Rw.sorted hO.holds hO.lt (by rw [hsz];simp)
    refine ⟨he,?_,r.belowB hO.base_ hbs⟩
    have ho:=to_own (hO.of_rw r hsz)
    rw [e1] at ho
    have e2:(srtD l).length=l.length:=(srtD_perm l).length_eq
    rw [show (l.toArray).toList=l from rfl,e2] at ho
    exact ho
theorem hCompO {base n:Nat} {w:World} {v:Value} {l:List D3} (h:w.ownsRow base 28 3 v n (flatD l)) (hne:l≠[]) (hbs:base≤w.heap.size) (hm:l.length≤maxLen) :
    Calls Tryz.prog 38 #[v] w fun e w'=>∃ g cap,e = .returned (.slice (some ⟨g,0,none⟩) (Lib.compact l).length cap)∧OwnD base w' g cap (Lib.compact l)∧Below base w w':=by
  obtain ⟨hn,⟨rfl,rfl⟩|⟨g,cap,rfl,hO⟩⟩:=own_cases h
  · exact absurd rfl hne
  · subst hn
    have hd:=hComp g 0 cap l.toArray w hO.holds hO.lt (by simp only [maxLen] at hm;simp;omega) (by simpa using hO.len)
    rw [List.size_toArray] at hd
    refine hd.mono fun e w' ⟨d',he,r,ht,hz⟩=>⟨g,cap,he,?_,r.belowB hO.base_ hbs⟩
    have hsz:d'.size=l.length:=by rw [hz]
    have hle:(compactUpTo l.toArray l.length).length≤l.length:=by
      unfold compactUpTo
      rw [List.length_map]
      exact Nat.le_trans (List.length_filter_le _ _) (by simp)
    have ho:=hO.rw r (compactUpTo l.toArray l.length).length (by rw [hsz];exact hle) hsz
    rw [ht] at ho
    exact ho
theorem hContains (pw:D3→Bool) (hW : ∀ (W:World) (x:D3),Calls Tryz.prog 33 #[.agg (enD x).toArray] W fun e w'=>e = .returned (.bool (pw x))∧Below W.heap.size W w') (A:Option Addr) (cap:Nat) (l:List D3) (w:World) (h:ReadsD w A l) (hm:l.length≤maxLen) :
    Calls Tryz.prog 34 #[.slice A l.length cap, .func (.func 33) #[] #[]] w fun e w'=>e = .returned (.bool (l.any pw))∧Below w.heap.size w w':=by
  have hi:Calls Tryz.prog 75 #[.slice A l.length cap, .func (.func 33) #[] #[]] w fun e w'=>e = .returned (.int .i64 (Lib.idxBy (fun _ y=>pw y) l default))∧Below w.heap.size w w':=by
    rcases h with h|⟨b,off,rfl,hb,hc⟩
    · have:=List.eq_nil_of_length_eq_zero h
      subst this
      exact (hIndex0 _ _ _ _ _).mono fun e w' ⟨he,hw⟩=>⟨he,by rw [hw];exact Below.refl _ _⟩
    · have hh:=AnyQ.slices_IndexFunc ilays 3 Tryz.isAgg28 Tryz.sizeOf28 enD (fun _=>rfl) pw 33 #[] enters33 b off l.length cap l w
        (fun W x hW'=>(hW W x).mono fun e w' ⟨he,hb'⟩=>⟨he,hW'.trans (hb'.mono hW'.size)⟩) (Nat.le_refl _) (by simp only [maxLen] at hm;omega) hb (fun j hj i v hv=>by
          have hi:i < 3:=(List.getElem?_eq_some_iff.1 hv).1
          have:=flatD_get l (j * 3 + i) (by omega)
          rw [show (j * 3 + i) / 3=j by omega,show (j * 3 + i) % 3=i by omega,List.getElem!_eq_getElem?_getD,hv] at this
          have:=hc _ _ this
          rw [Nat.add_assoc]
          exact this)
      rw [List.take_of_length_le (Nat.le_refl _)] at hh
      exact hh
  have e:decide (0≤Lib.idxBy (fun _ y=>pw y) l default)=l.any pw:=Lib.idxBy_nonneg_iff (fun _ y=>pw y) l default
  rw [← e]
  clear e h hW
  generalize Lib.idxBy (fun _ y=>pw y) l default=q at *
  go_enter Tryz.func34,Tryz.ntmps34
  go_wp2_with (go_at_call 75;refine hi.mono ?_;rintro e w1 ⟨rfl,hb1⟩)
  go_ret
  exact ⟨rfl,hb1⟩
end Go.Proofs.YtakidmbnkkhojaaGreat
