import Derived.Test.YtakidmbnkkhojaaGreatC942Sp17
namespace Go.AVL
open Go.RowKit
set_option linter.unusedVariables false
set_option linter.unusedSimpArgs false
section
variable {P : Program} {c : Ctx P} {I : Nat → Prop} {m : Nat → Reg} {w w' : World} {st : St} {a : Act} {B : Nat → Blk}
theorem VR.oc_inv {s u len room:Nat} {tight:Bool} {V:Value} (h:VR I w B m (.oc s u len room tight) V) : ∃ ad cap,V = .slice ad len cap∧VR I w B m (.os s u 0 len true) V∧(if tight=true then cap < room else room≤cap):=by
  cases h with
  | oc _ _ _ _ _ ad cap h1 h2=>exact ⟨ad,cap,rfl,h1,h2⟩
theorem WR.writeMore (h:WR c I m B w) {s:Nat} {row':Row} {cur cur':Array Value} (hm:(B s).mode = .own) (hc:(m s).cap≠0)
    (hg:w.heap[(m s).g]?=some (.cells cur (B s).e (0,0))) (hg':w'.heap[(m s).g]?=some (.cells cur' (B s).e (0,0))) (hsz:cur'.size=cur.size) (hsp:Sp P (B s) (m s) cur→Sp P ((B s).setRow row') (m s) cur')
    (hos:w'.os=w.os) (htp:w'.tape=w.tape) (hop:w'.output=w.output) (hsize:w.heap.size≤w'.heap.size) (hk : ∀ k,k < w.heap.size→k≠(m s).g→w'.heap[k]?=w.heap[k]?)
    (hlen:(B s).row.len≤row'.len) (hle:row'.len≤(m s).cap) (hrow:(∀ v V,VR I w B m v V→VR I w' (upd B s ((B s).setRow row')) m v V)→RowR I w' (upd B s ((B s).setRow row')) m row' cur' (m s).base (m s).sz) :
    WR c I m (upd B s ((B s).setRow row')) w'∧∀ v V,VR I w B m v V→VR I w' (upd B s ((B s).setRow row')) m v V:=by
  have ha:act B m s:=⟨.inl hm,hc⟩
  have hnI:=h.notI ha
  have hd0:(B s).mode≠.dead:=by rw [hm];simp
  have hB : ∀ s' u,u≤(B s').ver→u≤(upd B s ((B s).setRow row') s').ver∧((upd B s ((B s).setRow row') s').ver=u→(upd B s ((B s).setRow row') s').mode≠.dead →
      (B s').ver=u∧(B s').mode≠.dead∧(B s').row.len≤(upd B s ((B s).setRow row') s').row.len∧m s'=m s'):=by
    intro s' u hu
    by_cases e:s'=s
    · subst e;rw [upd_same];exact ⟨hu,fun e1 e2=>⟨e1,e2,hlen,rfl⟩⟩
    · rw [upd_ne _ _ e];exact ⟨hu,fun e1 e2=>⟨e1,e2,Nat.le_refl _,rfl⟩⟩
  have hvr : ∀ v V,VR I w B m v V→VR I w' (upd B s ((B s).setRow row')) m v V:=fun v V hv =>
    hv.monoLe (fun _ k=>k) (fun k o hi=>World.cell?_of_block (w:=w) (w':=w') (a:=⟨k,o,none⟩) (hk k (h.imm k hi).1 fun e=>hnI (e ▸ hi))) hB
  have hbm : ∃ cur1,w.heap[(m s).g]?=some (.cells cur1 (B s).e (0,0))∧BM c I (B s) (m s) cur1:=by
    rcases h.blk s hd0 with h0|⟨cur1,k1,_,h3⟩
    · exact absurd h0.1 hc
    · exact ⟨cur1,k1,h3⟩
  obtain ⟨cur1,k1,h3⟩:=hbm
  obtain rfl:cur=cur1:=by rw [hg] at k1;simpa using k1
  unfold BM at h3
  rw [hm] at h3
  obtain ⟨⟨b1,b2⟩,b3,b4,b5,b6,b7⟩:=h3
  refine ⟨⟨hos.trans h.os,htp.trans h.tape,hop.trans h.output,Nat.le_trans h.size hsize,fun k hk0 hw=>?_,fun g lo hi hw=>?_,fun k hi=>⟨Nat.lt_of_lt_of_le (h.imm k hi).1 hsize,(h.imm k hi).2⟩,fun s' hd=>?_,fun s1 s2 h1 h2 e=>?_⟩,hvr⟩
  · have hne:k≠(m s).g:=fun e=>Nat.not_lt.2 b7 (e ▸ hk0)
    rw [hk k (Nat.lt_of_lt_of_le hk0 h.size) hne]
    exact h.frame k hk0 hw
  · obtain ⟨cur0,cur2,e,e1,e2,e3,e4⟩:=h.frameW g lo hi hw
    have hne:g≠(m s).g:=fun e'=>Nat.not_lt.2 b7 (e' ▸ lt_of_some e1)
    exact ⟨cur0,cur2,e,e1,(hk g (lt_of_some e2) hne).trans e2,e3,e4⟩
  · by_cases e:s'=s
    · subst e
      rw [upd_same] at hd ⊢
      refine .inr ⟨cur',hg',hrow hvr,?_⟩
      unfold BM
      have hmm:((B s').setRow row').mode=(B s').mode:=rfl
      rw [hmm,hm]
      exact ⟨⟨hsp b1,b2⟩,hsz.trans b3,hle,b5,b6,b7⟩
    · have e2:upd B s ((B s).setRow row') s'=B s':=upd_ne _ _ e
      rw [e2] at hd ⊢
      rcases h.blk s' hd with h0|⟨cur0,k1,k2,h3⟩
      · exact .inl h0
      · by_cases hz:(m s').cap=0∧(B s').row.len=0
        · exact .inl hz
        right
        have hne:(m s').g≠(m s).g:=by
          intro hgg
          unfold BM at h3
          cases hm':(B s').mode with
          | dead=>exact hd hm'
          | own =>
            rw [hm'] at h3
            refine e (h.inj s' s ⟨.inl hm',fun hc=>hz ⟨hc,?_⟩⟩ ha hgg)
            have:=h3.2.2.1
            omega
          | win =>
            rw [hm'] at h3
            refine e (h.inj s' s ⟨.inr hm',fun hc=>hz ⟨hc,?_⟩⟩ ha hgg)
            have:=h3.2.1
            omega
          | froz =>
            rw [hm'] at h3
            exact hnI (hgg ▸ h3)
        exact ⟨cur0,(hk _ (lt_of_some k1) hne).trans k1,k2.mono hvr,h3⟩
  · refine h.inj s1 s2 ?_ ?_ e
    · unfold act at h1 ⊢
      by_cases e1:s1=s
      · subst e1;rw [upd_same] at h1;exact h1
      · rw [upd_ne _ _ e1] at h1;exact h1
    · unfold act at h2 ⊢
      by_cases e1:s2=s
      · subst e1;rw [upd_same] at h2;exact h2
      · rw [upd_ne _ _ e1] at h2;exact h2
theorem get_map {α:Type} {en:α→AV} {l:List α} {i:Nat} (hi:i < l.length):(Row.vals (l.map en)).get i=en l[i]:=by
  show (l.map en).getD i .bad=_
  rw [List.getD_eq_getElem?_getD,List.getElem?_map,List.getElem?_eq_getElem hi];rfl
theorem len_map {α:Type} {en:α→AV} {l:List α}:(Row.vals (l.map en)).len=l.length:=by simp [Row.len]
theorem ef_apR {α:Type} {en:α→AV} (h:SRx c I m st a w) {o:Oper} {d:Nat} {t e:TypeId} {i ie:TInfo} (ht:TI P t i) (he:TI P e ie) {x y:Operand} {s u room:Nat} {ss:List Nat} {v:AV} {lr l lx l2:List α}
    (ho:o.op = .call ⟨.builtin .append,#[x,y],#[t,t]⟩) (hd:i.d = .sl e) (hs0:0 < ie.size) (hx:Ev st x (.oc s u l.length room true)) (hB:st.b s=⟨u, .own, .vals (lr.map en),e⟩) (hl:lr=l ++ lx)
    (hy:Ev st y v) (hsn:Snap st ss v (.fv (l2.map en))) (hszs : ∀ z,szOk ie.size (en z)) (hroom:room≤l.length + l2.length) (hmax:l.length + l2.length≤maxLen) (hbytes:(l.length + l2.length) * ie.bytes≤140737488355328) :
    Gives P c ⟨st.t,upd st.b d ⟨(st.b d).ver + 1, .own, .vals ((l ++ l2).map en),e⟩⟩ (.os d ((st.b d).ver + 1) 0 (l ++ l2).length true) o a w:=by
  obtain ⟨inf,ds,z,F⟩:=ht.facts
  obtain ⟨ein,eds,ez,E⟩:=he.facts
  have e1:=td_sl (F.dd.symm.trans hd)
  have hut:=F.und
  rw [e1] at hut
  obtain ⟨ad,cap,ex,hos,hcr⟩:=(hx.vr h).oc_inv
  rw [if_pos rfl] at hcr
  rw [ex] at hos
  obtain ⟨ad',cap',e2,k0,k⟩:=hos.os_inv
  cases e2
  have hu:(st.b s).ver=u:=by rw [hB]
  have hm:(st.b s).mode = .own:=by rw [hB]
  have hse:(st.b s).e=e:=by rw [hB]
  have hrowe:(st.b s).row = .vals (lr.map en):=by rw [hB]
  obtain ⟨k1,k2,k3,k4⟩:=k hu (by rw [hm];simp)
  have hcap:=(k4 rfl).2.1
  have hbase:=(k4 rfl).2.2
  obtain ⟨ad2,cap2,Vs,ey,hVl,hVe,hVc⟩:=hsn.els h.wr (RowOf.fv) (hy.vr h)
  rw [len_map] at ey hVl hVe hVc
  have hexec : ∀ {V:Value} {w':World},(Builtin.append_ #[t,t] o.type #[.slice ad l.length cap, .slice ad2 l2.length cap2]).run P w = .ok V w'→(execOp a.eval o).run P w = .ok (.value V) w':=by
    intro V w' hr
    simp [execOp,ho,resolve,invoke,builtin,ex,ey,hr]
  have hcell:P.cellsOf e=ie.size:=by rw [← E.size];simp [Program.cellsOf,E.info]
  have hlt:cap < l.length + l2.length:=by omega
  have hrow:(l ++ l2).length=l.length + l2.length:=List.length_append
  have hold:0 < cap→∃ cur,w.heap[(m s).g]?=some (.cells cur e (0,0))∧RowR I w st.b m (st.b s).row cur 0 ie.size∧(m s).base=0∧cur.size=cap * ie.size∧cap≤maxLen:=by
    intro h0
    rcases h.wr.blk s (by rw [hm];simp) with hz|⟨cur,h1,h2,h3⟩
    · omega
    · unfold BM at h3
      rw [hm] at h3
      obtain ⟨⟨b1,b2⟩,b3,b4,b5,b6,b7⟩:=h3
      rw [hse,hcell] at b2
      rw [hse] at h1
      rw [hbase,b2] at h2
      exact ⟨cur,h1,h2,hbase,by rw [b3,hbase,Nat.zero_add,← hcap,b2],by rw [hcap];exact b5⟩
  have hn:0 < l2.length:=by omega
  obtain ⟨x2,rfl,hsp,sz2,hel⟩:=hVc hn
  have hsz2:sz2=ie.size:=by
    have h0:=hel 0 hn
    have k5:=hVe 0 hn
    rw [get_map hn] at k5
    have k6:=k5.1.cells_size (hszs _).2
    rw [← h0.1,k6,(hszs _).1]
  rw [hsz2] at hel
  have hall : ∀ v ∈ Vs,v.cells.size=ie.size:=fun v hv=>by
    obtain ⟨j,hj,rfl⟩:=List.getElem_of_mem hv
    have:=(hel j (by omega)).1
    rwa [show Vs.getD j undef=Vs[j] by simp [List.getD,hj]] at this
  have hnl:(Vs.flatMap fun v=>v.cells.toList).length=l2.length * ein.size:=by rw [flat_len Vs hall,hVl,E.size]
  have hl2:(Vs.flatMap fun v=>v.cells.toList).length=l2.length * ie.size:=by rw [hnl,E.size]
  have hnews : ∀ j v,(Vs.flatMap fun v=>v.cells.toList)[j]?=some v→w.cell? (x2.add j)=some v:=fun j v hj =>
    flat_cell hsp (fun i hi=>(hel i (by omega)).1) (fun i hi jj hjj=>(hel i (by omega)).2 jj hjj) hj
  have hmx:l.length + l2.length≤9223372036854775807:=by rw [← maxLen_eq];exact hmax
  have grown : ∀ (olds:List Value) (ncap:Nat),Below w.heap.size w (w.drew.alloc (.cells (olds.toArray ++ (Vs.flatMap fun v=>v.cells.toList).toArray ++ Builtin.zeroCells ez.cells (ncap - (l.length + l2.length))) e)) →
      olds.length=l.length * ie.size→l.length + l2.length≤ncap→ncap≤maxLen →
      (∀ j,j < l.length→∃ V,VR I w st.b m ((st.b s).row.get j) V∧V.cells.size=ie.size∧(∀ u ∈ V.cells.toList,u.oneCell'=true)∧∀ jj,jj < ie.size→olds[j * ie.size + jj]?=V.cells[jj]?) →
      ∀ (K:Act→World→Prop),(∀ V w' I' m',SRx c I' m' ⟨st.t,upd st.b d ⟨(st.b d).ver + 1, .own, .vals ((l ++ l2).map en),e⟩⟩ a w'→VR I' w' (upd st.b d ⟨(st.b d).ver + 1, .own, .vals ((l ++ l2).map en),e⟩) m' (.os d ((st.b d).ver + 1) 0 (l ++ l2).length true) V→K (a.put o.dst V) w') →
      K (a.put o.dst (.slice (some ⟨w.heap.size,0,none⟩) (l.length + l2.length) ncap)) (w.drew.alloc (.cells (olds.toArray ++ (Vs.flatMap fun v=>v.cells.toList).toArray ++ Builtin.zeroCells ez.cells (ncap - (l.length + l2.length))) e)):=by
    intro olds ncap hbel hol hnc hncm hoe K hK
    have hg:=h.grow hbel
    have hheap:(w.drew.alloc (.cells (olds.toArray ++ (Vs.flatMap fun v=>v.cells.toList).toArray ++ Builtin.zeroCells ez.cells (ncap - (l.length + l2.length))) e)).heap[w.heap.size]?=some (.cells (olds.toArray ++ (Vs.flatMap fun v=>v.cells.toList).toArray ++ Builtin.zeroCells ez.cells (ncap - (l.length + l2.length))) e (0,0)) :=
      heap_alloc_new w.drew _
    have hcur : ∀ q,q < (l.length + l2.length) * ie.size→(olds.toArray ++ (Vs.flatMap fun v=>v.cells.toList).toArray ++ Builtin.zeroCells ez.cells (ncap - (l.length + l2.length)))[q]?=if q < l.length * ie.size then olds[q]? else (Vs.flatMap fun v=>v.cells.toList)[q - l.length * ie.size]?:=by
      intro q hq
      rw [Nat.add_mul] at hq
      rw [Array.getElem?_append_left (by simp only [Array.size_append,List.size_toArray];omega)]
      by_cases hc:q < l.length * ie.size
      · rw [if_pos hc,Array.getElem?_append_left (by simp only [List.size_toArray];omega)]
        simp
      · rw [if_neg hc,Array.getElem?_append_right (by simp only [List.size_toArray];omega)]
        simp [hol]
    have hlenr:(Row.vals ((l ++ l2).map en)).len=l.length + l2.length:=by rw [len_map,hrow]
    have hmv:=hg.slot (d:=d) (b:=⟨(st.b d).ver + 1, .own, .vals ((l ++ l2).map en),e⟩) (r:=⟨w.heap.size,0,ncap,ie.size⟩) (Nat.lt_succ_self _) (fun _=>.inr ⟨_,hheap,fun j hj=>?_,?_⟩) (fun _ s' _ ha=>Nat.ne_of_lt (h.wr.own_lt ha))
    · refine hK _ _ I _ hmv ?_
      have:=VR.newOsV (I:=I) (w:=w.drew.alloc (.cells (olds.toArray ++ (Vs.flatMap fun v=>v.cells.toList).toArray ++ Builtin.zeroCells ez.cells (ncap - (l.length + l2.length))) e)) (b:=st.b) (m:=m) (d:=d) (u:=(st.b d).ver + 1) (row:=.vals ((l ++ l2).map en)) (e:=e) (r:=⟨w.heap.size,0,ncap,ie.size⟩) (ad:=some ⟨w.heap.size,0,none⟩) (cap:=ncap) (by rw [hlenr];exact hnc) (.inr (by simp)) rfl rfl
      rw [hlenr] at this
      rw [hrow]
      exact this
    · rw [hlenr] at hj
      show ∃ V:Value,_∧V.cells.size=ie.size∧_∧∀ jj,jj < ie.size→(olds.toArray ++ (Vs.flatMap fun v=>v.cells.toList).toArray ++ Builtin.zeroCells ez.cells (ncap - (l.length + l2.length)))[(0 + j) * ie.size + jj]?=_
      rw [Nat.zero_add,get_map (by rw [hrow];exact hj)]
      have hbj:(j + 1) * ie.size≤(l.length + l2.length) * ie.size:=Nat.mul_le_mul_right _ (by omega)
      rw [Nat.add_mul] at hbj
      by_cases hc:j < l.length
      · obtain ⟨V,j1,j2,j3,j4⟩:=hoe j hc
        rw [hrowe,get_map (by rw [hl,List.length_append];omega)] at j1
        have hcb:(j + 1) * ie.size≤l.length * ie.size:=Nat.mul_le_mul_right _ (by omega)
        rw [Nat.add_mul] at hcb
        refine ⟨V,?_,j2,j3,fun jj hjj=>by rw [hcur _ (by omega),if_pos (by omega),j4 jj hjj]⟩
        have e5:(l ++ l2)[j]'(by rw [hrow];exact hj)=lr[j]'(by rw [hl,List.length_append];omega):=by
          subst hl
          rw [List.getElem_append_left hc,List.getElem_append_left hc]
        rw [e5]
        exact h.wr.keep hbel j1
      · have hc2:j - l.length < l2.length:=by omega
        have k5:=hVe (j - l.length) hc2
        rw [get_map hc2] at k5
        refine ⟨_,?_,(hel _ hc2).1,k5.2,fun jj hjj=>?_⟩
        · have e5:(l ++ l2)[j]'(by rw [hrow];exact hj)=l2[j - l.length]:=List.getElem_append_right (by omega)
          rw [e5]
          exact h.wr.keep hbel k5.1
        · have hmul:l.length * ie.size≤j * ie.size:=Nat.mul_le_mul_right _ (by omega)
          rw [hcur _ (by omega),if_neg (by omega),show j * ie.size + jj - l.length * ie.size=(j - l.length) * ie.size + jj by rw [Nat.sub_mul];omega]
          exact flat_get Vs hall _ jj (by omega) hjj
    · refine ⟨⟨fun hn' _ q hq k n=>?_,hcell.symm⟩,?_,by rw [hlenr];exact hnc,hncm,fun hi=>Nat.lt_irrefl _ (h.wr.imm _ hi).1,h.wr.size⟩
      · have hq':(l.length + l2.length) * ie.size≤q:=by
          rcases hq with hq|hq
          · have hq:q < 0 * ie.size:=hq
            rw [Nat.zero_mul] at hq
            omega
          · have hq:(0 + (Row.vals ((l ++ l2).map en)).len) * ie.size≤q:=hq
            rw [Nat.zero_add,hlenr] at hq
            exact hq
        rw [Nat.add_mul] at hq'
        rw [Array.getElem?_append_right (by simp only [Array.size_append,List.size_toArray];omega)]
        generalize q - _=j
        by_cases hj:j < (ncap - (l.length + l2.length)) * ez.cells.size
        · have hz:0 < ez.cells.size:=by
            rcases Nat.eq_zero_or_pos ez.cells.size with h0|h0
            · rw [h0] at hj;omega
            · exact h0
          have hm':=Nat.mod_lt j hz
          have:=zero_not_int he E hn' (j % ez.cells.size) hm' k n
          simp only [Builtin.zeroCells,Array.getElem?_map,Array.getElem?_range,hj,if_true,Option.map_some]
          intro e
          apply this
          rw [← e]
          simp [hm']
        · rw [Array.getElem?_eq_none (by rw [size_zeroCells];omega)];simp
      · show _=(0 + ncap) * ie.size
        rw [Nat.zero_add]
        simp only [Array.size_append,List.size_toArray,size_zeroCells,E.zsz,hol,hl2,← Nat.add_mul]
        congr 1
        omega
  have hdrew : ∀ ob,Below w.heap.size w (w.drew.alloc ob):=fun ob=>((Below.refl w.heap.size w).drew).alloc (Nat.le_refl _) _
  have hgc : ∀ old,l.length + l2.length≤grownCap w (l.length + l2.length) old e:=fun old=>grownCap_ge w _ old e
  have hgm : ∀ old,grownCap w (l.length + l2.length) old e≤maxLen:=fun old=>grownCap_le_maxLen w _ old e hmax
  intro K Q hK
  unfold Oper.wp
  by_cases hc0:cap=0
  · have hl0:l = []:=List.eq_nil_of_length_eq_zero (by omega)
    subst hl0
    simp only [List.length_nil,Nat.zero_add] at hexec grown hgc hgm hbytes hmx
    cases ad with
    | none =>
      have hrun:=run_append_nil (P:=P) w t o.type e ein ez hut E.info E.zero x2 l2.length cap2 (Vs.flatMap fun v=>v.cells.toList) hnl hnews (by omega) (by omega) (by rw [E.bytes];omega)
      have hr2:=hexec (V:=.slice (some ⟨w.heap.size,0,none⟩) l2.length (grownCap w l2.length 0 e)) (w':=w.drew.alloc (.cells ((Vs.flatMap fun v=>v.cells.toList).toArray ++ Builtin.zeroCells ez.cells (grownCap w l2.length 0 e - l2.length)) e)) (by
        rw [hc0];exact hrun)
      rw [hr2]
      have:=grown [] (grownCap w l2.length 0 e) (hdrew _) (by simp) (hgc 0) (hgm 0) (fun j hj=>by omega) K hK
      show K (a.put o.dst _) _
      simpa using this
    | some b =>
      have hrun:=run_append_grow (P:=P) w t o.type e ein ez hut E.info E.zero b 0 0 [] (by simp) (fun j v hj=>by simp at hj) x2 l2.length cap2 (Vs.flatMap fun v=>v.cells.toList) hnl hnews (by omega) (by simp;omega) (growslice_fits (by omega) (by rw [E.bytes,Nat.zero_add];exact hbytes))
      simp only [Nat.zero_add] at hrun
      have hr2:=hexec (V:=.slice (some ⟨w.heap.size,0,none⟩) l2.length (grownCap w l2.length 0 e)) (w':=w.drew.alloc (.cells (([]:List Value).toArray ++ (Vs.flatMap fun v=>v.cells.toList).toArray ++ Builtin.zeroCells ez.cells (grownCap w l2.length 0 e - l2.length)) e)) (by
        rw [hc0];exact hrun)
      rw [hr2]
      exact grown [] (grownCap w l2.length 0 e) (hdrew _) (by simp) (hgc 0) (hgm 0) (fun j hj=>by omega) K hK
  · obtain ⟨cur,g1,g2,g3,g5,g6⟩:=hold (by omega)
    have had:=k3.resolve_left hc0
    rw [g3] at had
    simp only [Nat.zero_add,Nat.zero_mul] at had
    subst had
    have hof:(cur.toList.take (l.length * ie.size)).length=l.length * ein.size:=by
      have hcl:cur.toList.length=cap * ie.size:=by rw [Array.length_toList (xs:=cur)];exact g5
      rw [E.size,List.length_take,hcl]
      have:l.length * ie.size≤cap * ie.size:=Nat.mul_le_mul_right _ k2
      omega
    have holds : ∀ j v,(cur.toList.take (l.length * ie.size))[j]?=some v→w.cell? ((⟨(m s).g,0,none⟩:Addr).add j)=some v:=by
      intro j v hj
      rw [addr_add _ _ rfl]
      simp only [Nat.zero_add]
      rw [cell_of_heap g1,← Array.getElem?_toList]
      rw [List.getElem?_take] at hj
      split at hj
      · exact hj
      · cases hj
    have hrun:=run_append_grow (P:=P) w t o.type e ein ez hut E.info E.zero ⟨(m s).g,0,none⟩ l.length cap (cur.toList.take (l.length * ie.size)) hof holds x2 l2.length cap2 (Vs.flatMap fun v=>v.cells.toList) hnl hnews (by omega) (by omega) (growslice_fits (by omega) (by rw [E.bytes];exact hbytes))
    rw [hexec hrun]
    refine grown (cur.toList.take (l.length * ie.size)) (grownCap w (l.length + l2.length) cap e) (hdrew _) (by rw [hof,E.size]) (hgc cap) (hgm cap) (fun j hj=>?_) K hK
    obtain ⟨V,j1,j2,j3,j4⟩:=g2 j (by rw [hrowe,len_map,hl,List.length_append];omega)
    refine ⟨V,j1,j2,j3,fun jj hjj=>?_⟩
    have hb1:(j + 1) * ie.size≤l.length * ie.size:=Nat.mul_le_mul_right _ (by omega)
    rw [Nat.add_mul] at hb1
    rw [List.getElem?_take,if_pos (by omega),Array.getElem?_toList]
    have:=j4 jj hjj
    rwa [Nat.zero_add] at this
theorem ef_apP {α:Type} {en:α→AV} (h:SRx c I m st a w) {o:Oper} {t e:TypeId} {i ie:TInfo} (ht:TI P t i) (he:TI P e ie) {x y:Operand} {s u room:Nat} {ss:List Nat} {v:AV} {lr l lx l2:List α}
    (ho:o.op = .call ⟨.builtin .append,#[x,y],#[t,t]⟩) (hd:i.d = .sl e) (hs0:0 < ie.size) (hx:Ev st x (.oc s u l.length room false)) (hB:st.b s=⟨u, .own, .vals (lr.map en),e⟩) (hl:lr=l ++ lx)
    (hy:Ev st y v) (hsn:Snap st ss v (.fv (l2.map en))) (hszs : ∀ z,szOk ie.size (en z)) (hroom:l.length + l2.length≤room) :
    Gives P c ⟨st.t,upd st.b s ⟨u, .own, .vals ((l ++ l2 ++ lx.drop l2.length).map en),e⟩⟩ (.os s u 0 (l ++ l2).length true) o a w:=by
  obtain ⟨inf,ds,z,F⟩:=ht.facts
  obtain ⟨ein,eds,ez,E⟩:=he.facts
  have e1:=td_sl (F.dd.symm.trans hd)
  have hut:=F.und
  rw [e1] at hut
  obtain ⟨ad,cap,ex,hos,hcr⟩:=(hx.vr h).oc_inv
  rw [if_neg (by simp)] at hcr
  rw [ex] at hos
  obtain ⟨ad',cap',e2,k0,k⟩:=hos.os_inv
  cases e2
  have hu:(st.b s).ver=u:=by rw [hB]
  have hm:(st.b s).mode = .own:=by rw [hB]
  have hse:(st.b s).e=e:=by rw [hB]
  have hrowe:(st.b s).row = .vals (lr.map en):=by rw [hB]
  have hset:(st.b s).setRow (.vals ((l ++ l2 ++ lx.drop l2.length).map en))=⟨u, .own, .vals ((l ++ l2 ++ lx.drop l2.length).map en),e⟩:=by rw [hB];rfl
  obtain ⟨k1,k2,k3,k4⟩:=k hu (by rw [hm];simp)
  have hcap:=(k4 rfl).2.1
  have hbase:=(k4 rfl).2.2
  obtain ⟨ad2,cap2,Vs,ey,hVl,hVe,hVc⟩:=hsn.els h.wr (RowOf.fv) (hy.vr h)
  rw [len_map] at ey hVl hVe hVc
  have hexec : ∀ {V:Value} {w':World},(Builtin.append_ #[t,t] o.type #[.slice ad l.length cap, .slice ad2 l2.length cap2]).run P w = .ok V w'→(execOp a.eval o).run P w = .ok (.value V) w':=by
    intro V w' hr
    simp [execOp,ho,resolve,invoke,builtin,ex,ey,hr]
  have hcell:P.cellsOf e=ie.size:=by rw [← E.size];simp [Program.cellsOf,E.info]
  have hneed:l.length + l2.length≤cap:=by omega
  have hrow:(l ++ l2).length=l.length + l2.length:=List.length_append
  have hlr:lr.length=l.length + lx.length:=by rw [hl,List.length_append]
  have hrow':(l ++ l2 ++ lx.drop l2.length).length=l.length + l2.length + (lx.length - l2.length):=by rw [List.length_append,List.length_drop,hrow]
  intro K Q hK
  unfold Oper.wp
  by_cases hn:l2.length=0
  · have h0:l2 = []:=List.eq_nil_of_length_eq_zero hn
    subst h0
    have hrun:=run_append_none (P:=P) (ty:=o.type) hut E.info w ad ad2 l.length cap cap2 k2
    rw [hexec hrun]
    have e5:(⟨st.t,upd st.b s ⟨u, .own, .vals ((l ++ [] ++ lx.drop ([]:List α).length).map en),e⟩⟩:St)=st:=by
      have:upd st.b s ⟨u, .own, .vals ((l ++ [] ++ lx.drop ([]:List α).length).map en),e⟩=st.b:=funext fun y=>by
        by_cases e:y=s
        · subst e;rw [upd_same,hB];simp [hl]
        · rw [upd_ne _ _ e]
      rw [this]
    refine hK _ w I m (by rw [e5];exact h) ?_
    have e6:upd st.b s ⟨u, .own, .vals ((l ++ [] ++ lx.drop ([]:List α).length).map en),e⟩=st.b:=congrArg St.b e5
    show VR I w (upd st.b s ⟨u, .own, .vals ((l ++ [] ++ lx.drop ([]:List α).length).map en),e⟩) m _ _
    rw [e6,List.append_nil]
    exact hos
  · have hn':0 < l2.length:=by omega
    obtain ⟨x2,rfl,hsp,sz2,hel⟩:=hVc hn'
    have hsz2:sz2=ie.size:=by
      have h0:=hel 0 hn'
      have k5:=hVe 0 hn'
      rw [get_map hn'] at k5
      have k6:=k5.1.cells_size (hszs _).2
      rw [← h0.1,k6,(hszs _).1]
    rw [hsz2] at hel
    have hall : ∀ v ∈ Vs,v.cells.size=ie.size:=fun v hv=>by
      obtain ⟨j,hj,rfl⟩:=List.getElem_of_mem hv
      have:=(hel j (by omega)).1
      rwa [show Vs.getD j undef=Vs[j] by simp [List.getD,hj]] at this
    have hnl:(Vs.flatMap fun v=>v.cells.toList).length=l2.length * ein.size:=by rw [flat_len Vs hall,hVl,E.size]
    have hl2:(Vs.flatMap fun v=>v.cells.toList).length=l2.length * ie.size:=by rw [hnl,E.size]
    have hnews : ∀ j v,(Vs.flatMap fun v=>v.cells.toList)[j]?=some v→w.cell? (x2.add j)=some v:=fun j v hj =>
      flat_cell hsp (fun i hi=>(hel i (by omega)).1) (fun i hi jj hjj=>(hel i (by omega)).2 jj hjj) hj
    have hone : ∀ v ∈ (Vs.flatMap fun v=>v.cells.toList),v.oneCell'=true:=by
      intro v hv
      obtain ⟨V,hV,hvV⟩:=List.mem_flatMap.1 hv
      obtain ⟨j,hj,rfl⟩:=List.getElem_of_mem hV
      have:=(hVe j (by omega)).2
      rw [show Vs.getD j undef=Vs[j] by simp [List.getD,hj]] at this
      exact this v hvV
    have hc0:cap≠0:=by omega
    rcases h.wr.blk s (by rw [hm];simp) with hz|⟨cur,g1,g2,g3⟩
    · exfalso;have:=hz.1;omega
    unfold BM at g3
    rw [hm] at g3
    obtain ⟨⟨b1,b2⟩,b3,b4,b5,b6,b7⟩:=g3
    rw [hse,hcell] at b2
    rw [hbase,Nat.zero_add,← hcap,b2] at b3
    rw [hrowe,len_map,← hcap] at b4
    rw [hbase,b2] at g2
    have had:=k3.resolve_left hc0
    rw [hbase] at had
    simp only [Nat.zero_add,Nat.zero_mul] at had
    subst had
    have hcl:cur.toList.length=cap * ie.size:=by rw [Array.length_toList (xs:=cur)];exact b3
    have hns:(l.length + l2.length) * ie.size≤cap * ie.size:=Nat.mul_le_mul_right _ hneed
    rw [Nat.add_mul] at hns
    have hfit:l.length * ein.size + (Vs.flatMap fun v=>v.cells.toList).length≤cur.size:=by
      rw [hnl,E.size,b3];exact hns
    have hrun:=run_append_room (P:=P) w t o.type e ein hut E.info (m s).g l.length cap cur (hse ▸ g1) x2 l2.length cap2 (Vs.flatMap fun v=>v.cells.toList) hnl hnews hone hneed hfit
    rw [E.size] at hrun
    generalize hcn:(cur.toList.take (l.length * ie.size) ++ (Vs.flatMap fun v=>v.cells.toList) ++ cur.toList.drop (l.length * ie.size + (Vs.flatMap fun v=>v.cells.toList).length)).toArray=cur' at hrun
    have hcur : ∀ q,cur'[q]?=if l.length * ie.size≤q∧q < l.length * ie.size + l2.length * ie.size then (Vs.flatMap fun v=>v.cells.toList)[q - l.length * ie.size]? else cur[q]?:=by
      intro q
      rw [← hcn,List.getElem?_toArray,mid_get _ _ _ _ (by rw [hcl,hl2];exact hns),hl2,Array.getElem?_toList (xs:=cur)]
    have hcs:cur'.size=cur.size:=by
      rw [← hcn,List.size_toArray,List.length_append,List.length_append,List.length_take,List.length_drop,hcl,hl2,b3]
      omega
    rw [hexec hrun]
    have hW:WR c I m (upd st.b s ((st.b s).setRow (.vals ((l ++ l2 ++ lx.drop l2.length).map en)))) (w.setRow (m s).g cur')∧∀ v V,VR I w st.b m v V→VR I (w.setRow (m s).g cur') (upd st.b s ((st.b s).setRow (.vals ((l ++ l2 ++ lx.drop l2.length).map en)))) m v V:=by
      refine h.wr.writeMore (w':=w.setRow (m s).g cur') (s:=s) (row':=.vals ((l ++ l2 ++ lx.drop l2.length).map en)) hm (by rw [← hcap];exact hc0) g1 (setRow_heap w _ cur cur' _ _ g1) hcs (fun hs hn2 _ q hq kk n=>?_) rfl rfl rfl
        (by simp [World.setRow]) (fun k hk hne=>setRow_other w _ k cur' hne) (by rw [hrowe,len_map,len_map,hlr,hrow'];omega) (by rw [len_map,hrow',← hcap];omega) (fun tr j hj=>?_)
      · have hlen2:(Row.vals ((l ++ l2 ++ lx.drop l2.length).map en)).len=l.length + l2.length + (lx.length - l2.length):=by rw [len_map,hrow']
        have hq':(l.length + l2.length + (lx.length - l2.length)) * ie.size≤q:=by
          rcases hq with hq|hq
          · rw [hbase,Nat.zero_mul] at hq;omega
          · have hq:((m s).base + (Row.vals ((l ++ l2 ++ lx.drop l2.length).map en)).len) * (m s).sz≤q:=hq
            rw [hbase,Nat.zero_add,hlen2,b2] at hq
            exact hq
        have g1':(l.length + l2.length) * ie.size≤(l.length + l2.length + (lx.length - l2.length)) * ie.size:=Nat.mul_le_mul_right _ (by omega)
        have g2':lr.length * ie.size≤(l.length + l2.length + (lx.length - l2.length)) * ie.size:=Nat.mul_le_mul_right _ (by omega)
        rw [Nat.add_mul l.length l2.length] at g1'
        rw [hcur q,if_neg (by omega)]
        exact hs (by rw [hse];rw [← hse];exact hn2) ⟨_,hrowe⟩ q (.inr (by rw [hbase,Nat.zero_add,hrowe,len_map,b2];omega)) kk n
      · rw [len_map,hrow'] at hj
        show ∃ V:Value,_∧V.cells.size=(m s).sz∧_∧∀ jj,jj < (m s).sz→cur'[((m s).base + j) * (m s).sz + jj]?=_
        rw [hbase,Nat.zero_add,b2,get_map (by rw [hrow'];exact hj)]
        have hjb:(j + 1) * ie.size=j * ie.size + ie.size:=by rw [Nat.add_mul,Nat.one_mul]
        by_cases hc:j < l.length
        · obtain ⟨V,j1,j2,j3,j4⟩:=g2 j (by rw [hrowe,len_map];omega)
          rw [hrowe,get_map (by omega)] at j1
          have hcb:(j + 1) * ie.size≤l.length * ie.size:=Nat.mul_le_mul_right _ (by omega)
          refine ⟨V,?_,j2,j3,fun jj hjj=>?_⟩
          · have e5:(l ++ l2 ++ lx.drop l2.length)[j]'(by rw [hrow'];exact hj)=lr[j]'(by omega):=by
              subst hl
              rw [List.getElem_append_left (by rw [hrow];omega),List.getElem_append_left hc,List.getElem_append_left hc]
            rw [e5]
            exact tr _ _ j1
          · rw [hcur,if_neg (by omega)]
            have:=j4 jj hjj
            rwa [Nat.zero_add] at this
        · by_cases hc2:j < l.length + l2.length
          · have hc3:j - l.length < l2.length:=by omega
            have k5:=hVe (j - l.length) hc3
            rw [get_map hc3] at k5
            have hmul:l.length * ie.size≤j * ie.size:=Nat.mul_le_mul_right _ (by omega)
            have hmul2:(j + 1) * ie.size≤(l.length + l2.length) * ie.size:=Nat.mul_le_mul_right _ (by omega)
            rw [Nat.add_mul l.length l2.length] at hmul2
            refine ⟨_,?_,(hel _ hc3).1,k5.2,fun jj hjj=>?_⟩
            · have e5:(l ++ l2 ++ lx.drop l2.length)[j]'(by rw [hrow'];exact hj)=l2[j - l.length]:=by
                rw [List.getElem_append_left (by rw [hrow];omega),List.getElem_append_right (by omega)]
              rw [e5]
              exact tr _ _ k5.1
            · rw [hcur,if_pos (by omega),show j * ie.size + jj - l.length * ie.size=(j - l.length) * ie.size + jj by rw [Nat.sub_mul];omega]
              exact flat_get Vs hall _ jj (by omega) hjj
          · obtain ⟨V,j1,j2,j3,j4⟩:=g2 j (by rw [hrowe,len_map];omega)
            rw [hrowe,get_map (by omega)] at j1
            have hmul:(l.length + l2.length) * ie.size≤j * ie.size:=Nat.mul_le_mul_right _ (by omega)
            rw [Nat.add_mul l.length l2.length] at hmul
            refine ⟨V,?_,j2,j3,fun jj hjj=>?_⟩
            · have e5:(l ++ l2 ++ lx.drop l2.length)[j]'(by rw [hrow'];exact hj)=lr[j]'(by omega):=by
                subst hl
                rw [List.getElem_append_right (by rw [hrow];omega),List.getElem_append_right (by omega),List.getElem_drop]
                congr 1
                rw [hrow]
                omega
              rw [e5]
              exact tr _ _ j1
            · rw [hcur,if_neg (by omega)]
              have:=j4 jj hjj
              rwa [Nat.zero_add] at this
    obtain ⟨hw2,hvr2⟩:=hW
    rw [hset] at hw2 hvr2
    refine hK _ _ I m ⟨hw2,h.def0,h.sz,fun y=>hvr2 _ _ (h.tmp y)⟩ ?_
    have h0:=hvr2 _ _ hos
    obtain ⟨_,_,e3,q0,q⟩:=h0.os_inv
    cases e3
    show VR I (w.setRow (m s).g cur') (upd st.b s ⟨u, .own, .vals ((l ++ l2 ++ lx.drop l2.length).map en),e⟩) m (.os s u 0 (l ++ l2).length true) (.slice (some ⟨(m s).g,0,none⟩) (l.length + l2.length) cap)
    rw [hrow]
    refine .os s u 0 _ true _ cap q0 fun e1 e2=>?_
    obtain ⟨_,_,q3,q4⟩:=q e1 e2
    refine ⟨?_,hneed,q3,q4⟩
    rw [upd_same]
    show 0 + (l.length + l2.length)≤(Row.vals ((l ++ l2 ++ lx.drop l2.length).map en)).len
    rw [len_map,hrow']
    omega
end
end Go.AVL
