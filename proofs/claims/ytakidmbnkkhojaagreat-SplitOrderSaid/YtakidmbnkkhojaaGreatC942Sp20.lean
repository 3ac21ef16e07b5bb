import Derived.Test.YtakidmbnkkhojaaGreatC942JG2
import Derived.Test.YtakidmbnkkhojaaGreatC942Sp19
namespace Go.Proofs.YtakidmbnkkhojaaGreat
open Go.AVL Go.RowKit Go.Sort Go.Lib Go.Shelf Go.Proofs Go.Proofs.YtakidmbnkkhojaaGreat.F
set_option linter.unusedVariables false
set_option linter.unusedSimpArgs false
set_option maxRecDepth 100000
theorem clone_len {l r:List S28} (h:api_Date_27.f l=some r):r.length < 5864062014805:=by
  unfold api_Date_27.f at h
  rw [Option.bind_some] at h
  split at h
  · rename_i hh;cases h;simpa using hh
  · cases h
theorem toD_get (l:List S28) (i:Nat) (h:i < l.length):(l.map toD).toArray[i]! = toD l[i]:=by simp [h]
theorem ef_rev {c:Ctx Tryz.prog} {I:Nat→Prop} {m:Nat→Reg} {st:St} {a:Act} {w:World} (h:SRx c I m st a w) {o:Oper} {x:Operand} {ats:Array TypeId} {s u len:Nat} {l:List S28} (ho:o.op = .call ⟨.value (.func 28),#[x],ats⟩) (hx:Ev st x (.os s u 0 len true))
    (hB:st.b s=⟨u, .own, .vals (l.map en28),28⟩) (hlen:len=l.length) (hmax:l.length≤9223372036854775807):Gives Tryz.prog c ⟨st.t,upd st.b s ⟨u, .own, .vals (l.reverse.map en28),28⟩⟩ (.tup []) o a w:=by
  subst hlen
  have hv:=hx.vr h
  obtain ⟨ad,cap,ex,k0,k⟩:=hv.os_inv
  have hu:(st.b s).ver=u:=by rw [hB]
  have hm:(st.b s).mode = .own:=by rw [hB]
  have hse:(st.b s).e=28:=by rw [hB]
  have hrowe:(st.b s).row = .vals (l.map en28):=by rw [hB]
  obtain ⟨k1,k2,k3,k4⟩:=k hu (by rw [hm];simp)
  have hcap:=(k4 rfl).2.1
  have hbase:=(k4 rfl).2.2
  have e1:a.eval (.func 28) = .func (.func 28) #[] #[]:=rfl
  have hcall : ∀ {K:Value→World→Prop} {Q:Exit→Act→World→Prop} {K':Act→World→Prop},Calls Tryz.prog 28 #[a.eval x] w (fun e w'=>e = .returned (.tuple #[])∧K (.tuple #[]) w')→(∀ w',K (.tuple #[]) w'→K' (a.put o.dst (.tuple #[])) w')→o.wp Tryz.prog a w K' Q:=by
    intro K Q K' hc hk
    refine wp_call (exec_call ho e1) ?_
    have e2:(#[x].map a.eval ++ #[]:Array Value) = #[a.eval x]:=by simp
    rw [e2]
    have he:(callFunc 28 #[a.eval x]).run Tryz.prog w = .ok (.enter 28 #[a.eval x]) w:=enters_of Tryz.func28 (by kernel_rfl) rfl _ w
    unfold CallW
    rw [he]
    refine hc.mono ?_
    rintro e w' ⟨rfl,hk'⟩
    exact hk w' hk'
  intro K Q hK
  by_cases h0:l.length=0
  · have hl0:l = []:=List.eq_nil_of_length_eq_zero h0
    subst hl0
    refine hcall (K:=fun _ w'=>w'=w) ?_ fun w' hw=>?_
    · rw [ex]
      exact AnyQ.slices_Reverse_empty rlays ad cap w
    · subst hw
      have e5:(⟨st.t,upd st.b s ⟨u, .own, .vals ((([]:List S28).reverse).map en28),28⟩⟩:St)=st:=by
        have:upd st.b s ⟨u, .own, .vals ((([]:List S28).reverse).map en28),28⟩=st.b:=funext fun y=>by
          by_cases e:y=s
          · subst e;rw [upd_same,hB];rfl
          · rw [upd_ne _ _ e]
        rw [this]
      exact hK _ _ I m (by rw [e5];exact h) (.tup [] #[] rfl fun i hi=>absurd hi (Nat.not_lt_zero i))
  · rcases h.wr.blk s (by rw [hm];simp) with hz|⟨cur,g1,g2,g3⟩
    · exfalso
      have:=hz.2
      rw [hrowe,len_map] at this
      exact h0 this
    unfold BM at g3
    rw [hm] at g3
    obtain ⟨⟨b1,b2⟩,b3,b4,b5,b6,b7⟩:=g3
    have c28:Tryz.prog.cellsOf 28=3:=by kernel_rfl
    rw [hse,c28] at b2
    rw [hrowe,len_map] at b4
    rw [hbase,b2] at g2
    rw [hse] at g1
    have hc0:cap≠0:=by omega
    have had:=k3.resolve_left hc0
    rw [hbase] at had
    simp only [Nat.zero_add,Nat.zero_mul] at had
    subst had
    have hblk:(m s).g < w.heap.size:=lt_of_some g1
    have hH:HoldsK enD 3 w (m s).g 0 (l.map toD).toArray:=by
      intro q hq
      have hq':q < l.length * 3:=by simpa using hq
      have hi:q / 3 < l.length:=by omega
      have hj:q % 3 < 3:=Nat.mod_lt _ (by decide)
      obtain ⟨V,j1,j2,j3,j4⟩:=g2 (q / 3) (by rw [hrowe,len_map];exact hi)
      rw [hrowe,get_map hi] at j1
      have hV:=arr_inv (l:=[l[q / 3].f0,l[q / 3].f1,l[q / 3].f2]) j1
      have h4:=j4 (q % 3) hj
      have hqq:(0 + q / 3) * 3 + q % 3=q:=by omega
      rw [hqq] at h4
      refine ⟨?_,?_⟩
      · rw [Nat.zero_add,cell_of_heap g1,h4,hV]
        have e3:(flatK enD 3 (l.map toD).toArray)[q]! = (enD (toD l[q / 3]))[q % 3]!:=by
          rw [get_flatK enD 3 _ q (by simpa using hq'),toD_get l _ hi]
        rw [e3]
        have hmod:q % 3=0∨q % 3=1∨q % 3=2:=by omega
        rcases hmod with hmod|hmod|hmod <;> rw [hmod] <;> rfl
      · simp [World.frozen?,g1]
    refine hcall (K:=fun _ w'=>Rw w w' (m s).g 0 (l.map toD).toArray.reverse) ?_ fun w' hw=>?_
    · rw [ex]
      have:=hRev (m s).g 0 cap (l.map toD).toArray w hH hblk (by simpa using hmax)
      simpa using this
    · obtain ⟨cur',g1',hcs⟩:=hw.tag cur 28 (0,0) g1
      have hset:(st.b s).setRow (.vals (l.reverse.map en28))=⟨u, .own, .vals (l.reverse.map en28),28⟩:=by rw [hB];rfl
      have hW:WR c I m (upd st.b s ((st.b s).setRow (.vals (l.reverse.map en28)))) w'∧∀ v V,VR I w st.b m v V→VR I w' (upd st.b s ((st.b s).setRow (.vals (l.reverse.map en28)))) m v V:=by
        refine h.wr.writeMore hm (by rw [← hcap];exact hc0) (cur:=cur) (cur':=cur') (by rw [hse];exact g1) (by rw [hse];exact g1') hcs (fun _ hn=>?_) hw.by_.os hw.by_.tape hw.by_.output hw.by_.size (fun k hk hne=>hw.by_.block k hk (fun e=>hne (Option.some.inj e))) (by rw [hrowe,len_map,len_map,List.length_reverse];exact Nat.le_refl _) (by rw [len_map,List.length_reverse];exact b4) (fun tr j hj=>?_)
        · exfalso
          have hn:noIL (zc0 Tryz.prog (st.b s).e)=true:=hn
          rw [hse,show noIL (zc0 Tryz.prog 28)=false by kernel_rfl] at hn
          cases hn
        · rw [len_map,List.length_reverse] at hj
          have hjr:j < l.reverse.length:=by rw [List.length_reverse];exact hj
          show ∃ V:Value,_∧V.cells.size=(m s).sz∧_∧∀ jj,jj < (m s).sz→cur'[((m s).base + j) * (m s).sz + jj]?=_
          rw [hbase,Nat.zero_add,b2,get_map hjr]
          refine ⟨.agg #[.int .i64 l.reverse[j].f0, .int .i64 l.reverse[j].f1, .int .i64 l.reverse[j].f2],arr_vr (l:=[l.reverse[j].f0,l.reverse[j].f1,l.reverse[j].f2]),rfl,?_,fun jj hjj=>?_⟩
          · intro v hv
            simp [Value.cells] at hv
            rcases hv with rfl|rfl|rfl <;> rfl
          · have hcell:=(HoldsK.cell hw.holds (i:=j) (c:=jj) (by simpa using hj) hjj).1
            rw [cell_of_heap g1'] at hcell
            have e3:(l.map toD).toArray.reverse[j]! = toD l.reverse[j]:=by
              have e4:(l.map toD).toArray.reverse=(l.reverse.map toD).toArray:=by simp
              rw [e4,toD_get l.reverse j hjr]
            rw [e3,Nat.zero_add] at hcell
            rw [hcell]
            have hmod:jj=0∨jj=1∨jj=2:=by omega
            rcases hmod with hmod|hmod|hmod <;> rw [hmod] <;> rfl
      obtain ⟨hw2,hvr2⟩:=hW
      rw [hset] at hw2 hvr2
      exact hK _ _ I m ⟨hw2,h.def0,h.sz,fun y=>hvr2 _ _ (h.tmp y)⟩ (.tup [] #[] rfl fun i hi=>absurd hi (Nat.not_lt_zero i))
theorem U.rev {st:St} {d:Nat} {x:Operand} {ats:Array TypeId} {s u len:Nat} {l:List S28} (hx:Ev st x (.os s u 0 len true)) (hB:st.b s=⟨u, .own, .vals (l.map en28),28⟩) (hlen:len=l.length) (hmax:l.length≤9223372036854775807) :
    Ef Tryz.prog st d (.call ⟨.value (.func 28),#[x],ats⟩) (.tup []) (upd st.b s ⟨u, .own, .vals (l.reverse.map en28),28⟩):=.ext fun c o a w ho I m h=>by
  have h1:=ef_rev h ho hx hB hlen hmax
  exact h1
end Go.Proofs.YtakidmbnkkhojaaGreat
