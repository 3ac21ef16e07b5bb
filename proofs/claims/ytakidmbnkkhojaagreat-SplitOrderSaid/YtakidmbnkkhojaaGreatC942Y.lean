import Derived.Test.YtakidmbnkkhojaaGreatC942JG2
import Derived.OpenShut
import Derived.ChangeOld
import Derived.ShutString
import Derived.Deep.Strs
import Derived.Deep.Slices
import Derived.ChangeArms
import Derived.ChangeSlices
import Derived.Laws.IdiomArrays
namespace Go.Proofs.YtakidmbnkkhojaaGreat
open Go.AVL Go.ChangeShapes Go.WideShapes Go.Deep Go.RowKit Go.Proofs.YtakidmbnkkhojaaGreat.F Go.Proofs.YtakidmbnkkhojaaGreatW.PrintWords
set_option linter.unusedVariables false
set_option maxRecDepth 100000
section
variable {H : Type} {enc : TypeId × Value → H} {w : World} {held : Bool} {n : Nat} {cs : List Value} {x : DataW H × List MemPlace}
theorem opI {k:IntKind} {t:TypeId} (u:Tryz.prog.underlying t=some (.int k)) (h:DataW.trod enc Tryz.prog w 0 (fun _=>true) held n t cs=some x) : ∃ z,cs = [.int k z]∧(Lit.int k z).wf=true:=by
  obtain ⟨m,h1,h2,h3⟩:=DataW.trod_int u h
  exact ⟨m,h1,h3⟩
theorem opA (h:DataW.trod enc Tryz.prog w 0 (fun _=>true) held n 22 cs=some x) : ∃ a b c,cs = [.int .i64 a, .int .i64 b, .int .i64 c]:=by
  have hl:cs.length=3:=by
    obtain ⟨xs,m,_,_,hl,_⟩:=DataW.trod_array Tryz.underlying22 h
    rw [hl];kernel_rfl
  match cs,hl with
  | [v0,v1,v2],_ =>
    obtain ⟨y0,y1,y2,m,_,h0,h1,h2⟩:=trod_array3 Tryz.underlying22 (by kernel_rfl) h
    obtain ⟨a,ha,_⟩:=opI Tryz.underlying3 h0
    obtain ⟨b,hb,_⟩:=opI Tryz.underlying3 h1
    obtain ⟨c,hc,_⟩:=opI Tryz.underlying3 h2
    simp at ha hb hc
    exact ⟨a,b,c,by rw [ha,hb,hc]⟩
theorem opN (h:DataW.trod enc Tryz.prog w 0 (fun _=>true) held n 24 cs=some x) : ∃ a cap l,cs = [.slice a (List.length l) cap]∧VR (allOf w) w noB (fun _=>default) (.fi .i16 l) (.slice a l.length cap)∧∀ z ∈ l,(Lit.int .i16 z).wf=true:=by
  rcases open_ints Tryz.underlying24 Tryz.underlying64 (by kernel_rfl) h with ⟨rfl,_⟩|⟨ad,l,c,zs,rfl,_,hl,hm,hz,_,hcell,hwz⟩
  · exact ⟨none,0,[],rfl, .fi _ [] none 0 (Nat.le_refl _) (fun i hi=>absurd hi (Nat.not_lt_zero i)),fun z hz=>absurd hz (by simp)⟩
  · have hr:(some ad=none∧l=0∧c=0∧zs = [])∨∃ x,some ad=some x∧l≤c∧c≤maxLen∧zs.length=c∧(∀ i,i < zs.length→w.cell? (x.add i)=some (.int .i16 (zs.getD i 0)))∧∀ n ∈ zs,(Lit.int .i16 n).wf=true:=.inr ⟨ad,rfl,hl,hm,by simpa using hz,hcell,hwz⟩
    obtain ⟨l0,rfl,hr0,hm0,hw0,hc0⟩:=ReadsInt.ofRowC hr
    exact ⟨some ad,c,l0,rfl,vr_reads hr0 hc0,hw0⟩
theorem add_zero (a:Addr):a.add 0=a:=by simp [Addr.add]
theorem seven {cs:List Value} (h:cs.length=7) : ∃ c0 c1 c2 c3 c4 c5 c6,cs = [c0,c1,c2,c3,c4,c5,c6]:=by
  match cs,h with
  | [c0,c1,c2,c3,c4,c5,c6],_=>exact ⟨c0,c1,c2,c3,c4,c5,c6,rfl⟩
theorem opT (h:DataW.trod enc Tryz.prog w 0 (fun _=>true) held n 26 cs=some x) : ∃ a0 a1 a2 a3 a6 l4 l5,(Lit.int .u16 a3).wf=true∧(Lit.int .u8 a6).wf=true∧(∀ z ∈ l4,(Lit.int .i16 z).wf=true)∧(∀ z ∈ l5,(Lit.int .i16 z).wf=true) ∧
    VRs w (fun _=>default) [.int .i64 a0, .int .i64 a1, .int .i64 a2, .int .u16 a3, .fi .i16 l4, .fi .i16 l5, .int .u8 a6] cs:=by
  obtain ⟨xs,m,_,_,hl,hlen,hf⟩:=DataW.trod_struct Tryz.underlying26 h
  have hlen:xs.length=5:=hlen
  have hl:cs.length=7:=by rw [hl];kernel_rfl
  obtain ⟨c0,c1,c2,c3,c4,c5,c6,rfl⟩:=seven hl
  have k22:Tryz.prog.cellsOf 22=3:=by kernel_rfl
  have k23:Tryz.prog.cellsOf 23=1:=by kernel_rfl
  have k24:Tryz.prog.cellsOf 24=1:=by kernel_rfl
  have k5:Tryz.prog.cellsOf 5=1:=by kernel_rfl
  have hx : ∀ i,i < 5→∃ y,xs[i]?=some y:=fun i hi=>⟨xs[i]'(by omega),List.getElem?_eq_getElem _⟩
  obtain ⟨y0,e0⟩:=hx 0 (by omega)
  obtain ⟨y1,e1⟩:=hx 1 (by omega)
  obtain ⟨y2,e2⟩:=hx 2 (by omega)
  obtain ⟨y3,e3⟩:=hx 3 (by omega)
  obtain ⟨y4,e4⟩:=hx 4 (by omega)
  have h0:DataW.trod enc Tryz.prog w 0 (fun _=>true) held m 22 ((([c0,c1,c2,c3,c4,c5,c6]:List Value).drop 0).take (Tryz.prog.cellsOf 22))=some y0:=(hf 0 _ rfl).trans e0
  have h1:DataW.trod enc Tryz.prog w 0 (fun _=>true) held m 23 ((([c0,c1,c2,c3,c4,c5,c6]:List Value).drop 3).take (Tryz.prog.cellsOf 23))=some y1:=(hf 1 _ rfl).trans e1
  have h2:DataW.trod enc Tryz.prog w 0 (fun _=>true) held m 24 ((([c0,c1,c2,c3,c4,c5,c6]:List Value).drop 4).take (Tryz.prog.cellsOf 24))=some y2:=(hf 2 _ rfl).trans e2
  have h3:DataW.trod enc Tryz.prog w 0 (fun _=>true) held m 24 ((([c0,c1,c2,c3,c4,c5,c6]:List Value).drop 5).take (Tryz.prog.cellsOf 24))=some y3:=(hf 3 _ rfl).trans e3
  have h4:DataW.trod enc Tryz.prog w 0 (fun _=>true) held m 5 ((([c0,c1,c2,c3,c4,c5,c6]:List Value).drop 6).take (Tryz.prog.cellsOf 5))=some y4:=(hf 4 _ rfl).trans e4
  simp only [k22,k23,k24,k5] at h0 h1 h2 h3 h4
  obtain ⟨a0,a1,a2,g0⟩:=opA h0
  obtain ⟨a3,g1,w3⟩:=opI Tryz.underlying23 h1
  obtain ⟨p4,q4,l4,g2,v4,w4⟩:=opN h2
  obtain ⟨p5,q5,l5,g3,v5,w5⟩:=opN h3
  obtain ⟨a6,g4,w6⟩:=opI Tryz.underlying5 h4
  simp at g0 g1 g2 g3 g4
  obtain ⟨r0,r1,r2⟩:=g0
  subst r0 r1 r2 g1 g2 g3 g4
  exact ⟨a0,a1,a2,a3,a6,l4,l5,w3,w6,w4,w5, .cons (.int _ _) rfl (.cons (.int _ _) rfl (.cons (.int _ _) rfl (.cons (.int _ _) rfl (.cons v4 rfl (.cons v5 rfl (.cons (.int _ _) rfl .nil))))))⟩
end
end Go.Proofs.YtakidmbnkkhojaaGreat
