import Derived.Test.YtakidmbnkkhojaaGreatC942Sp7
namespace Go.Proofs.YtakidmbnkkhojaaGreat
open Go.RowKit Go.Sort Go.Lib Go.Shelf Go.Proofs Go.Proofs.YtakidmbnkkhojaaGreatW.PrintWords Go.Proofs.YtakidmbnkkhojaaGreatW.PrintLast Go.Proofs.YtakidmbnkkhojaaGreatW.PrintMore
set_option linter.unusedVariables false
set_option linter.unusedSimpArgs false
set_option maxRecDepth 100000
theorem info28:(Tryz.prog.info? 28).map (fun i=>(i.zero,i.size,i.bytes))=some (some (.agg #[.int .i64 0, .int .i64 0, .int .i64 0]),3,24):=by kernel_rfl
def flatD (l:List D3):List Value:=l.flatMap enD
theorem flatD_len (l:List D3):(flatD l).length=l.length * 3:=by
  induction l with
  | nil=>rfl
  | cons x l ih=>show (enD x ++ flatD l).length=_;rw [List.length_append,ih];show 3 + l.length * 3=(l.length + 1) * 3;omega
theorem flatD_one (l:List D3) : ∀ u ∈ flatD l,u.oneCell'=true:=by
  intro u hu
  obtain ⟨x,_,hx⟩:=List.mem_flatMap.1 hu
  simp [enD] at hx
  rcases hx with rfl|rfl|rfl <;> rfl
def ReadsD (w:World) (A:Option Addr) (l:List D3):Prop:=l.length=0∨∃ b off:Nat,A=some ⟨b,off,none⟩∧b < w.heap.size∧∀ j u,(flatD l)[j]?=some u→w.cell? ⟨b,off + j,none⟩=some u
theorem ReadsD.news {w:World} {a:Addr} {l:List D3} (h:ReadsD w (some a) l) (o:Obj) : ∀ j u,(flatD l)[j]?=some u→(w.alloc o).cell? (a.add j)=some u:=by
  intro j u hj
  rcases h with h|⟨b,off,e,hl,hc⟩
  · rw [List.eq_nil_of_length_eq_zero h] at hj
    cases hj
  · cases e
    rw [Addr.add_lit]
    exact Go.Lib.cell?_alloc_some o (hc j u hj)
theorem owns_none (w:World):(w.alloc (.cells #[] 28)).ownsRow w.heap.size 28 3 (.slice (some ⟨w.heap.size,0,none⟩) 0 0) 0 [] :=
  ⟨rfl, .inr ⟨w.heap.size,0,#[],rfl,Nat.le_refl _,heap_alloc_new w _,Nat.le_refl _,Nat.zero_le _,rfl,rfl⟩⟩
set_option maxHeartbeats 1000000 in
theorem hClone (A:Option Addr) (cap:Nat) (l:List D3) (w:World) (h:ReadsD w A l) (hn:l.length≤maxLen) (hb:l.length * 24≤140737488355328) :
    Calls Tryz.prog 27 #[.slice A l.length cap] w fun e w'=>∃ v,e = .returned v∧w'.ownsRow w.heap.size 28 3 v l.length (flatD l)∧Below w.heap.size w w':=by
  cases A with
  | none =>
    have hl:l = []:=by
      rcases h with h|⟨b,off,e,_⟩
      · exact List.eq_nil_of_length_eq_zero h
      · cases e
    subst hl
    clear h hn hb
    show Calls Tryz.prog 27 #[.slice none 0 cap] w _
    have hq : ∀ w,(binOp .eql 29 (.slice none 0 cap) (.slice none 0 0)).run Tryz.prog w = .ok (.bool true) w:=fun w=>Go.Lib.run_eql_slice_nil w 29 28 none _ _ 0 0 Tryz.underlying29
    go_enter Tryz.func27,Tryz.ntmps27
    go_wp2
    go_ret
    exact ⟨_,rfl,World.ownsRow_nil _ _ _ _,Below.refl _ _⟩
  | some a =>
    have hq : ∀ w,(binOp .eql 29 (.slice (some a) l.length cap) (.slice none 0 0)).run Tryz.prog w = .ok (.bool false) w:=fun w=>Go.Lib.run_eql_slice_nil w 29 28 (some a) _ _ 0 0 Tryz.underlying29
    obtain ⟨i28,hi,hz,hs,hby⟩ : ∃ i,Tryz.prog.info? 28=some i∧i.zero=some (.agg #[.int .i64 0, .int .i64 0, .int .i64 0])∧i.size=3∧i.bytes=24:=by
      have h:=info28
      obtain ⟨i,h1,h2⟩:=Option.map_eq_some_iff.1 h
      simp only [Prod.mk.injEq] at h2
      exact ⟨i,h1,h2.1,h2.2.1,h2.2.2⟩
    have HI:Aside (Tryz.prog.info? 28=some i28∧i28.zero=some (.agg #[.int .i64 0, .int .i64 0, .int .i64 0])∧i28.size=3∧i28.bytes=24):=⟨hi,hz,hs,hby⟩
    have HR:Aside (ReadsD w (some a) l):=h
    have HN:Aside (l.length≤maxLen∧l.length * 24≤140737488355328):=⟨hn,hb⟩
    clear hi hz hs hby h hn hb
    go_enter Tryz.func27,Tryz.ntmps27
    go_wp2_with ((with_reducible refine gate_builtin (b:=.append) rfl ?_);refine wpList_append_own (w.alloc (.cells #[] 28)) rfl (.tmp 5) (.tmp 6) 29 rfl w.heap.size 28 i28 _ 3 24 Tryz.underlying29 HI.out.1 HI.out.2.1 HI.out.2.2.1 HI.out.2.2.2 rfl (by decide) _ 0 [] rfl (owns_none w) a l.length cap (flatD l) rfl (flatD_len l) (HR.out.news (.cells #[] 28)) (flatD_one l) (by rw [Nat.zero_add];exact HN.out.1) (by rw [Nat.zero_add];exact HN.out.2) (by simp) ?_;intro v' w' own gr _)
    go_ret
    rw [Nat.zero_add,List.nil_append] at own
    exact ⟨_,rfl,own,(Below.refl _ _ |>.alloc (Nat.le_refl _) _).grown gr (by simp) (fun k hk=>by cases hk;exact Nat.le_refl _)⟩
end Go.Proofs.YtakidmbnkkhojaaGreat
