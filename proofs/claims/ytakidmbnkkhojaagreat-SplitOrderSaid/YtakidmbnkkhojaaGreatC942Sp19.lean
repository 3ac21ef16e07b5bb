import Derived.Test.YtakidmbnkkhojaaGreatC942JG2
import Derived.Test.YtakidmbnkkhojaaGreatC942Sp18
import Derived.Test.YtakidmbnkkhojaaGreatC942Sp10
import Derived.Shelf.SlicesQ.Reverse
namespace Go.AVL
open Go.RowKit
set_option linter.unusedVariables false
section
variable {P : Program} {st : St} {d : Nat}
theorem C.apR {α:Type} {en:α→AV} {t i e ie x y s u u' len room ss v} {lr:List α} (l lx:List α) {l2:List α} [ht:TI P t i] [he:TI P e ie] (hd:i.d = .sl e) (hx:Ev st x (.oc s u len room true)) (hB:st.b s=⟨u, .own, .vals (lr.map en),e⟩) (hl:lr=l ++ lx) (hlen:len=l.length)
    (hy:Ev st y v) (hsn:Snap st ss v (.fv (l2.map en))) (hs0:Nat.blt 0 ie.size=true) (hszs : ∀ z,szOk ie.size (en z)) (hroom:room≤l.length + l2.length) (hmax:l.length + l2.length≤maxLen) (hbytes:(l.length + l2.length) * ie.bytes≤140737488355328) (hu:(st.b d).ver + 1=u') :
    EfC P st d (.call ⟨.builtin .append,#[x,y],#[t,t]⟩) (.os d u' 0 (l ++ l2).length true) (fun B=>upd B d ⟨u', .own, .vals ((l ++ l2).map en),e⟩) [d] (s :: d :: ss):=by
  subst hlen
  refine ⟨fun q ha hb=>?_,fun B z=>?_⟩
  · unfold Ag at ha
    refine .ext fun c o a w ho I m h=>?_
    have h1:=ef_apR (d:=d) h ht he ho hd (Nat.le_of_ble_eq_true hs0) (ha x (by simp [Op.operands,Call.operands]) _ hx) (by rw [hb s (by simp)];exact hB) hl (ha y (by simp [Op.operands,Call.operands]) _ hy) (hsn.congr fun z hz=>hb z (by simp [hz])) hszs hroom hmax hbytes
    rw [hb d (by simp),hu] at h1
    exact h1
  · by_cases e1:z=d
    · subst e1;simp [upd_same]
    · rw [upd_ne _ _ e1,if_neg (by simpa using e1)]
theorem C.apP {α:Type} {en:α→AV} {t i e ie x y s u len room ss v} {lr:List α} (l lx:List α) {l2:List α} [ht:TI P t i] [he:TI P e ie] (hd:i.d = .sl e) (hx:Ev st x (.oc s u len room false)) (hB:st.b s=⟨u, .own, .vals (lr.map en),e⟩) (hl:lr=l ++ lx) (hlen:len=l.length)
    (hy:Ev st y v) (hsn:Snap st ss v (.fv (l2.map en))) (hs0:Nat.blt 0 ie.size=true) (hszs : ∀ z,szOk ie.size (en z)) (hroom:l.length + l2.length≤room) :
    EfC P st d (.call ⟨.builtin .append,#[x,y],#[t,t]⟩) (.os s u 0 (l ++ l2).length true) (fun B=>upd B s ⟨u, .own, .vals ((l ++ l2 ++ lx.drop l2.length).map en),e⟩) [s] (s :: ss):=by
  subst hlen
  refine ⟨fun q ha hb=>?_,fun B z=>?_⟩
  · unfold Ag at ha
    refine .ext fun c o a w ho I m h=>?_
    exact ef_apP h ht he ho hd (Nat.le_of_ble_eq_true hs0) (ha x (by simp [Op.operands,Call.operands]) _ hx) (by rw [hb s (by simp)];exact hB) hl (ha y (by simp [Op.operands,Call.operands]) _ hy) (hsn.congr fun z hz=>hb z (by simp [hz])) hszs hroom
  · by_cases e1:z=s
    · subst e1;simp [upd_same]
    · rw [upd_ne _ _ e1,if_neg (by simpa using e1)]
theorem Snap.pre {α:Type} {en:α→AV} {ss:List Nat} {s u len:Nat} {full:Bool} {e:TypeId} (l1 l2:List α) (hs:s ∈ ss) (hB:st.b s=⟨u, .own, .vals ((l1 ++ l2).map en),e⟩) (hlen:len=l1.length) (hc : ∀ z,Cl (en z)):Snap st ss (.os s u 0 len full) (.fv (l1.map en)):=by
  have h:=Snap.osV (st:=st) (ss:=ss) (s:=s) (u:=u) (off:=0) (len:=len) (full:=full) (es:=(l1 ++ l2).map en) hs (by rw [hB]) (by rw [hB];simp) (by rw [hB]) (ClL.map hc)
  rw [List.drop_zero,hlen,List.map_append,List.take_left' (by simp)] at h
  rwa [hlen]
end
end Go.AVL
namespace Go.Proofs.YtakidmbnkkhojaaGreat
open Go.AVL Go.RowKit Go.Sort Go.Lib Go.Shelf Go.Proofs Go.Proofs.YtakidmbnkkhojaaGreat.F
set_option linter.unusedVariables false
set_option maxRecDepth 100000
theorem SR.tell {c:Ctx Tryz.prog} {st:St} {a:Act} {w:World} {t:Nat} {v:AV} {I:Nat→Prop} {m:Nat→Reg} (hs:SRx c I m st a w) (hv:VR I w st.b m v (a.tmps.getD t undef)):SR c (st.put t v) a w:=⟨I,m,hs.wr,hs.def0,hs.sz,fun x=>by
  show VR I w st.b m (upd st.t t v x) _
  by_cases e:x=t
  · subst e;rw [upd_same];exact hv
  · rw [upd_ne _ _ e];exact hs.tmp x⟩
theorem X.room {x y:Code} {st:St} {Q:Out→St→Prop} {s u len:Nat} (t room:Nat) (ht:st.t t = .os s u 0 len true) (h1:WC Tryz.prog (.seq x y) (st.put t (.oc s u len room true)) Q) (h2:WC Tryz.prog (.seq x y) (st.put t (.oc s u len room false)) Q):WC Tryz.prog (.seq x y) st Q:=by
  refine X.sem fun c Qc hd hQ a w hs=>?_
  obtain ⟨I,m,hs⟩:=hs
  have hv:=hs.tmp t
  rw [ht] at hv
  obtain ⟨ad,cap,e,_⟩:=hv.os_inv
  rw [e] at hv
  by_cases hc:cap < room
  · exact (code_sound mixed (.seq x y) hd).1 h1.x hQ a w (SR.tell hs (by rw [e];exact .oc _ _ _ _ _ _ _ hv (by rw [if_pos rfl];exact hc)))
  · exact (code_sound mixed (.seq x y) hd).1 h2.x hQ a w (SR.tell hs (by rw [e];exact .oc _ _ _ _ _ _ _ hv (by rw [if_neg (by simp)];omega)))
theorem X.room' {x y:Code} {st:St} {Q:Out→St→Prop} {s u len room0:Nat} {tight:Bool} (t room:Nat) (ht:st.t t = .oc s u len room0 tight) (h1:WC Tryz.prog (.seq x y) (st.put t (.oc s u len room true)) Q) (h2:WC Tryz.prog (.seq x y) (st.put t (.oc s u len room false)) Q):WC Tryz.prog (.seq x y) st Q:=by
  refine X.sem fun c Qc hd hQ a w hs=>?_
  obtain ⟨I,m,hs⟩:=hs
  have hv:=hs.tmp t
  rw [ht] at hv
  obtain ⟨ad,cap,e,hv,_⟩:=hv.oc_inv
  rw [e] at hv
  by_cases hc:cap < room
  · exact (code_sound mixed (.seq x y) hd).1 h1.x hQ a w (SR.tell hs (by rw [e];exact .oc _ _ _ _ _ _ _ hv (by rw [if_pos rfl];exact hc)))
  · exact (code_sound mixed (.seq x y) hd).1 h2.x hQ a w (SR.tell hs (by rw [e];exact .oc _ _ _ _ _ _ _ hv (by rw [if_neg (by simp)];omega)))
open Go.Proofs.YtakidmbnkkhojaaGreatX Go.Proofs.YtakidmbnkkhojaaGreatW.PrintWords Go.Proofs.YtakidmbnkkhojaaGreatW.PrintLast Go.Proofs.YtakidmbnkkhojaaGreatW.PrintMore in
theorem U.neq55 {st:St} {d:Nat} {x y:Operand} {t:TypeId} {u0 u1 u2 v0 v1 v2 u3 u4 u5 v3 v4 v5:Int} (hx:Ev st x (.agg [.int .i64 u0, .int .i64 u1, .int .i64 u2, .int .i64 u3, .int .i64 u4, .int .i64 u5])) (hy:Ev st y (.agg [.int .i64 v0, .int .i64 v1, .int .i64 v2, .int .i64 v3, .int .i64 v4, .int .i64 v5])) :
    Pu Tryz.prog st d (.binOp .neq 55 x y t) (.bool ((!(u0 == v0) || (!(u1 == v1) || (!(u2 == v2)))) || (!(u3 == v3) || (!(u4 == v4) || (!(u5 == v5)))))) none []:=by
  refine .ext fun st' ha hb c I m a w o hop hs=>⟨_,?_, .bool _⟩
  have e1:=arr_inv (l:=[u0,u1,u2,u3,u4,u5]) ((ha x (by simp [Op.operands]) _ hx).vr hs)
  have e2:=arr_inv (l:=[v0,v1,v2,v3,v4,v5]) ((ha y (by simp [Op.operands]) _ hy).vr hs)
  have h1:(binOp .neq 55 (.agg #[.int .i64 u0, .int .i64 u1, .int .i64 u2, .int .i64 u3, .int .i64 u4, .int .i64 u5]) (.agg #[.int .i64 v0, .int .i64 v1, .int .i64 v2, .int .i64 v3, .int .i64 v4, .int .i64 v5])).run Tryz.prog w = .ok (.bool (!((u0 == v0 && (u1 == v1 && (u2 == v2))) && (u3 == v3 && (u4 == v4 && (u5 == v5)))))) w:=by simp [binOp,Op.equal,Op.maxDepth,eqP 9996]
  rw [show ((!(u0 == v0) || (!(u1 == v1) || (!(u2 == v2)))) || (!(u3 == v3) || (!(u4 == v4) || (!(u5 == v5)))))=!((u0 == v0 && (u1 == v1 && (u2 == v2))) && (u3 == v3 && (u4 == v4 && (u5 == v5)))) by simp [Bool.not_and]]
  have hgd:=fun (a b:Array Value)=>run_eqGuard_agg (P:=Tryz.prog) w .neq 55 x y a b Tryz.eqGuardType55
  simp [execOp,hop,e1,e2,h1,hgd]
def rren:Go.Shelf.Ren:=⟨fun|35=>28|n=>n,fun|22=>29|23=>28|n=>n,fun n=>n⟩
theorem rlays:SlLaysE0.n35 Tryz.prog rren where
  mixed:=by kernel_rfl
  f35:=⟨"slices.Reverse[[]chattel/api.Date,chattel/api.Date]",of_decide_eq_true (by kernel_rfl),Tryz.func28.trans (congrArg some (by kernel_rfl))⟩
  t0:=Tryz.underlying0
  a0:=Tryz.isAgg0
  z0:=Tryz.sizeOf0
  v0:=Tryz.zeroValue0
  t3:=Tryz.underlying3
  a3:=Tryz.isAgg3
  z3:=Tryz.sizeOf3
  v3:=Tryz.zeroValue3
  t4:=Tryz.underlying4
  a4:=Tryz.isAgg4
  z4:=Tryz.sizeOf4
  v4:=Tryz.zeroValue4
  t22:=Tryz.underlying29
  a22:=Tryz.isAgg29
  z22:=Tryz.sizeOf29
  v22:=Tryz.zeroValue29
theorem enD_one (x:D3) : ∀ v ∈ enD x,v.oneCell'=true:=by
  intro v hv
  simp [enD] at hv
  rcases hv with rfl|rfl|rfl <;> rfl
theorem hRev (blk off cap:Nat) (d:Array D3) (w:World) (hH:HoldsK enD 3 w blk off d) (hb:blk < w.heap.size) (hsz:d.size≤9223372036854775807) :
    Calls Tryz.prog 28 #[.slice (some ⟨blk,off,none⟩) d.size cap] w fun e w'=>e = .returned (.tuple #[])∧Rw w w' blk off d.reverse:=by
  refine (AnyQ.slices_Reverse rlays 3 Tryz.isAgg28 Tryz.sizeOf28 enD (fun _=>rfl) enD_one blk off cap d w hH hsz).mono ?_
  rintro e w' ⟨he,n,rfl⟩
  refine ⟨he,?_⟩
  have e1:putRowK enD 3 (Sort.ahead w n) blk off d.reverse=Sort.ahead (putRowK enD 3 w blk off d.reverse) n:=rfl
  rw [e1]
  have h1:=Rw.put hH hb (d':=d.reverse) (by simp)
  exact ⟨⟨h1.by_.os,h1.by_.tape,h1.by_.output,h1.by_.size,h1.by_.block⟩,h1.holds,h1.blk_,h1.tag⟩
end Go.Proofs.YtakidmbnkkhojaaGreat
