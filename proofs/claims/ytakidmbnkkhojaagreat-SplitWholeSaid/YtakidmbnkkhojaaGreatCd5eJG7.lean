-- Joined of: G102 G68 G24 G6
import Derived.Test.YtakidmbnkkhojaaGreatCd5eJG4
import Derived.Test.YtakidmbnkkhojaaGreatCd5eJG3
import Derived.Test.YtakidmbnkkhojaaGreatCd5eJG2
import Derived.Test.YtakidmbnkkhojaaGreatCd5eSp15
section
namespace Go.Proofs.YtakidmbnkkhojaaGreat
open Go.AVL Go.RowKit Go.Proofs.YtakidmbnkkhojaaGreat.F Go.Proofs.YtakidmbnkkhojaaGreatX Go.Proofs.YtakidmbnkkhojaaGreatW.PrintWords Go.Proofs.YtakidmbnkkhojaaGreatW.PrintLast Go.Proofs.YtakidmbnkkhojaaGreatW.PrintMore
set_option linter.unusedVariables false
set_option linter.unusedSimpArgs false
set_option maxRecDepth 100000
set_option maxHeartbeats 16000000
noncomputable def c102:Code:=Tryz.f102.body.getD .skip
theorem fn102:FnOk Tryz.prog 102 Tryz.f102 c102:=⟨Tryz.func102,rfl,by kernel_rfl,by kernel_rfl,mixed⟩
theorem whole_Int_Sub.cs {k:Nat} {l0_0:List Int} {a0_1:Bool} {l1_0:List Int} {a1_1:Bool} {r:List Int×Bool} (h:whole_Int_Sub.f k l0_0 a0_1 l1_0 a1_1=some r):CS Tryz.prog 102 [.agg [.fi .u64 l0_0, .bool a0_1], .agg [.fi .u64 l1_0, .bool a1_1]] .no [.agg [.fi .u64 r.1, .bool r.2]]:=by
  unfold whole_Int_Sub.f at h
  refine E.pure fn102 rfl ?_
  refine X.seq ?_
  refine X.still ?_
  refine O.puE (v':=.op 2 (1) 0 0) (b':=⟨1, .own,_,_⟩) (Pu.box (.tmp (v:=.agg _) rfl) rfl rfl) rfl rfl ?_
  refine O.puE (v':=.op 3 (1) 0 0) (b':=⟨1, .own,_,_⟩) (Pu.box (.tmp (v:=.agg _) rfl) rfl rfl) rfl rfl ?_
  refine O.puE (v':=.op 4 (1) 0 0) (b':=⟨1, .own,(.vals [.agg [.fi .u64 [], .bool false]]),_⟩) Pu.alloc rfl rfl ?_
  refine O.nil ?_
  refine X.seq ?_
  refine X.drawn ?_
  refine D.pu (U.load (.tmp rfl) rfl rfl (U.whole rfl rfl)) ?_
  refine D.pu (U.load (.tmp rfl) rfl rfl (U.whole rfl rfl)) ?_
  obtain ⟨q1,Hq1,h⟩:=Option.bind_eq_some_iff.1 h
  refine D.pu (U.call (ss:=[]) (.cons (.tmp (v:=.agg _) rfl) .nil) (.cons (.cl (.aggL (.cons .fi (.cons .bool .nil)))) .nil) (whole_Int_Neg.cs Hq1) (.inl rfl) (.aggL (.cons .fi (.cons .bool .nil)))) ?_
  obtain ⟨q2,Hq2,h⟩:=Option.bind_eq_some_iff.1 h
  refine D.pu (U.call (ss:=[]) (.cons (.tmp (v:=.agg _) rfl) (.cons (.tmp (v:=.agg _) rfl) .nil)) (.cons (.cl (.aggL (.cons .fi (.cons .bool .nil)))) (.cons (.cl (.aggL (.cons .fi (.cons .bool .nil)))) .nil)) (whole_Int_Add.cs Hq2) (.inl rfl) (.aggL (.cons .fi (.cons .bool .nil)))) ?_
  refine D.ef0 (C.storeE (.tmp rfl) rfl rfl (.tmp (v:=.agg _) rfl) rfl rfl (.whole (notBad_ne rfl) rfl) .one) ?_
  refine D.nil (by kernel_rfl) ?_
  refine X.ret ?_
  cases h
  exact E.fin [] (.cell rfl rfl (Mode.live_ne rfl) (U.whole rfl rfl) .nil) (.cons (.cl (.aggL (.cons .fi (.cons .bool .nil)))) .nil)
noncomputable def c68:Code:=Tryz.f68.body.getD .skip
theorem fn68:FnOk Tryz.prog 68 Tryz.f68 c68:=⟨Tryz.func68,rfl,by kernel_rfl,by kernel_rfl,mixed⟩
theorem whole_Int_Cmp.cs {k:Nat} {l0_0:List Int} {a0_1:Bool} {l1_0:List Int} {a1_1:Bool} {r:Int} (h:whole_Int_Cmp.f k l0_0 a0_1 l1_0 a1_1=some r):CS Tryz.prog 68 [.agg [.fi .u64 l0_0, .bool a0_1], .agg [.fi .u64 l1_0, .bool a1_1]] .no [.int .i64 r]:=by
  unfold whole_Int_Cmp.f at h
  refine E.pure fn68 rfl ?_
  refine X.seq ?_
  refine X.still ?_
  refine O.puE (v':=.op 2 (1) 0 0) (b':=⟨1, .own,_,_⟩) (Pu.box (.tmp (v:=.agg _) rfl) rfl rfl) rfl rfl ?_
  refine O.puE (v':=.op 3 (1) 0 0) (b':=⟨1, .own,_,_⟩) (Pu.box (.tmp (v:=.agg _) rfl) rfl rfl) rfl rfl ?_
  refine O.pu (Pu.assign .int) ?_
  refine O.nil ?_
  refine X.seq ?_
  refine X.still ?_
  refine O.pu (U.load (.tmp rfl) rfl rfl (U.whole rfl rfl)) ?_
  refine O.pu (U.load (.tmp rfl) rfl rfl (U.whole rfl rfl)) ?_
  obtain ⟨q1,Hq1,h⟩:=Option.bind_eq_some_iff.1 h
  refine O.pu (U.call (ss:=[]) (.cons (.tmp (v:=.agg _) rfl) (.cons (.tmp (v:=.agg _) rfl) .nil)) (.cons (.cl (.aggL (.cons .fi (.cons .bool .nil)))) (.cons (.cl (.aggL (.cons .fi (.cons .bool .nil)))) .nil)) (whole_Int_Sub.cs Hq1) (.inl rfl) (.aggL (.cons .fi (.cons .bool .nil)))) ?_
  obtain ⟨q2,Hq2,h⟩:=Option.bind_eq_some_iff.1 h
  refine O.pu (U.call (ss:=[]) (.cons (.tmp (v:=.agg _) rfl) .nil) (.cons (.cl (.aggL (.cons .fi (.cons .bool .nil)))) .nil) (whole_Int_Sign.cs Hq2) (.inl rfl) (.int)) ?_
  refine O.pu (Pu.assign (.tmp (v:=.int _ _) rfl)) ?_
  refine O.nil ?_
  refine X.ret ?_
  cases h
  exact E.fin [] (.tmp (v:=.int _ _) rfl .nil) (.cons (.cl .int) .nil)
noncomputable def c24:Code:=Tryz.f24.body.getD .skip
theorem fn24:FnOk Tryz.prog 24 Tryz.f24 c24:=⟨Tryz.func24,rfl,by kernel_rfl,by kernel_rfl,mixed⟩
theorem frac_Frac_Cmp.cs {k:Nat} {l0_0:List Int} {a0_1:Bool} {l0_2:List Int} {l1_0:List Int} {a1_1:Bool} {l1_2:List Int} {r:Int} (h:frac_Frac_Cmp.f k l0_0 a0_1 l0_2 l1_0 a1_1 l1_2=some r):CS Tryz.prog 24 [.agg [.fi .u64 l0_0, .bool a0_1, .fi .u64 l0_2], .agg [.fi .u64 l1_0, .bool a1_1, .fi .u64 l1_2]] .no [.int .i64 r]:=by
  unfold frac_Frac_Cmp.f at h
  refine E.pure fn24 rfl ?_
  refine X.seq ?_
  refine X.still ?_
  refine O.puE (v':=.op 2 (1) 0 0) (b':=⟨1, .own,_,_⟩) (Pu.box (.tmp (v:=.agg _) rfl) rfl rfl) rfl rfl ?_
  refine O.puE (v':=.op 3 (1) 0 0) (b':=⟨1, .own,_,_⟩) (Pu.box (.tmp (v:=.agg _) rfl) rfl rfl) rfl rfl ?_
  refine O.pu (Pu.assign .int) ?_
  refine O.nil ?_
  refine X.seq ?_
  refine X.drawn ?_
  refine D.pu (U.fieldA rfl rfl rfl (.tmp rfl)) ?_
  refine D.pu (U.load (.tmp rfl) rfl rfl (U.sub rfl (.take (.take .done)))) ?_
  refine D.pu (U.load (.tmp rfl) rfl rfl (U.whole rfl rfl)) ?_
  obtain ⟨q1,Hq1,h⟩:=Option.bind_eq_some_iff.1 h
  refine D.pu (U.call (ss:=[]) (.cons (.tmp (v:=.agg _) rfl) .nil) (.cons (.cl (.aggL (.cons .fi (.cons .bool (.cons .fi .nil))))) .nil) (frac_Frac_den.cs Hq1) (.inl rfl) (.aggL (.cons .fi (.cons .bool .nil)))) ?_
  obtain ⟨q2,Hq2,h⟩:=Option.bind_eq_some_iff.1 h
  refine D.pu (U.call (ss:=[]) (.cons (.tmp (v:=.agg _) rfl) (.cons (.tmp (v:=.agg _) rfl) .nil)) (.cons (.cl (.aggL (.cons .fi (.cons .bool .nil)))) (.cons (.cl (.aggL (.cons .fi (.cons .bool .nil)))) .nil)) (whole_Int_Mul.cs Hq2) (.inl rfl) (.aggL (.cons .fi (.cons .bool .nil)))) ?_
  refine D.pu (U.fieldA rfl rfl rfl (.tmp rfl)) ?_
  refine D.pu (U.load (.tmp rfl) rfl rfl (U.sub rfl (.take (.take .done)))) ?_
  refine D.pu (U.load (.tmp rfl) rfl rfl (U.whole rfl rfl)) ?_
  obtain ⟨q3,Hq3,h⟩:=Option.bind_eq_some_iff.1 h
  refine D.pu (U.call (ss:=[]) (.cons (.tmp (v:=.agg _) rfl) .nil) (.cons (.cl (.aggL (.cons .fi (.cons .bool (.cons .fi .nil))))) .nil) (frac_Frac_den.cs Hq3) (.inl rfl) (.aggL (.cons .fi (.cons .bool .nil)))) ?_
  obtain ⟨q4,Hq4,h⟩:=Option.bind_eq_some_iff.1 h
  refine D.pu (U.call (ss:=[]) (.cons (.tmp (v:=.agg _) rfl) (.cons (.tmp (v:=.agg _) rfl) .nil)) (.cons (.cl (.aggL (.cons .fi (.cons .bool .nil)))) (.cons (.cl (.aggL (.cons .fi (.cons .bool .nil)))) .nil)) (whole_Int_Mul.cs Hq4) (.inl rfl) (.aggL (.cons .fi (.cons .bool .nil)))) ?_
  obtain ⟨q5,Hq5,h⟩:=Option.bind_eq_some_iff.1 h
  refine D.pu (U.call (ss:=[]) (.cons (.tmp (v:=.agg _) rfl) (.cons (.tmp (v:=.agg _) rfl) .nil)) (.cons (.cl (.aggL (.cons .fi (.cons .bool .nil)))) (.cons (.cl (.aggL (.cons .fi (.cons .bool .nil)))) .nil)) (whole_Int_Cmp.cs Hq5) (.inl rfl) (.int)) ?_
  refine D.pu (Pu.assign (.tmp (v:=.int _ _) rfl)) ?_
  refine D.nil (by kernel_rfl) ?_
  refine X.ret ?_
  cases h
  exact E.fin [] (.tmp (v:=.int _ _) rfl .nil) (.cons (.cl .int) .nil)
theorem chattellaw12_SplitWhole.j0_e {k y0 y1 y2 y3 y4 y5 y6 y7 r}:(chattellaw12_SplitWhole.j0 k y0 y1 y2 y3 y4 y5 y6 y7=some r) = ∃ j,k=j + 1∧chattellaw12_SplitWhole.j0 (j + 1) y0 y1 y2 y3 y4 y5 y6 y7=some r:=propext ⟨fun h=>by cases k with|zero=>(unfold chattellaw12_SplitWhole.j0 at h;cases h)|succ k=>exact ⟨k,rfl,h⟩,fun ⟨j,hj,h⟩=>by subst hj;exact h⟩
noncomputable def c6:Code:=Tryz.f6.body.getD .skip
theorem fn6:FnOk Tryz.prog 6 Tryz.f6 c6:=⟨Tryz.func6,rfl,by kernel_rfl,by kernel_rfl,mixed⟩
theorem chattellaw12_SplitWhole.cs {k:Nat} {a0_0:Int} {a0_1:Int} {a0_2:Int} {a0_3:Int} {l0_4:List Int} {l0_5:List Int} {a0_6:Int} {r:Bool} (h:chattellaw12_SplitWhole.f k a0_0 a0_1 a0_2 a0_3 l0_4 l0_5 a0_6=some r):CS Tryz.prog 6 [.agg [.int .i64 a0_0, .int .i64 a0_1, .int .i64 a0_2, .int .u16 a0_3, .fi .i16 l0_4, .fi .i16 l0_5, .int .u8 a0_6]] .no [.bool r]:=by
  unfold chattellaw12_SplitWhole.f at h
  refine E.pure fn6 rfl ?_
  refine X.seq ?_
  refine X.still ?_
  refine O.puE (v':=.op 1 (1) 0 0) (b':=⟨1, .own,_,_⟩) (Pu.box (.tmp (v:=.agg _) rfl) rfl rfl) rfl rfl ?_
  refine O.pu (Pu.assign .bool) ?_
  refine O.nil ?_
  refine X.seq ?_
  refine X.still ?_
  refine O.pu (U.load (.tmp rfl) rfl rfl (U.whole rfl rfl)) ?_
  obtain ⟨q1,Hq1,h⟩:=Option.bind_eq_some_iff.1 h
  refine O.puE (v':=.tup [_,_, .os 19 (1) 0 _ true]) (b':=⟨1, .own,_,_⟩) (U.callTV (en:=en28) (ss:=[]) [_,_] [] (.cons (.tmp (v:=.agg _) rfl) .nil) (.cons (.cl (.aggL (.cons .int (.cons .int (.cons .int (.cons .int (.cons .fi (.cons .fi (.cons .int .nil))))))))) .nil) (chattellaw12_Time_make.cs Hq1) (fun _=>.aggL (.cons .int (.cons .int (.cons .int .nil)))) (fun _=>.aggL (.cons .int (.cons .int (.cons .int .nil)))) (FlL.cons (.aggL (.cons .int (.cons .int (.cons .int .nil)))) (FlL.cons (.aggL (.cons .int (.cons .int (.cons .int .nil)))) FlL.nil)) FlL.nil) rfl rfl ?_
  refine O.pu (Pu.move (.tmp (v:=.tup _) rfl)) ?_
  refine O.pu (Pu.extract (.tmp rfl) rfl) ?_
  refine O.pu (Pu.extract (.tmp rfl) rfl) ?_
  refine O.pu (Pu.extract (.tmp rfl) rfl) ?_
  refine O.puE (v':=.op 3 (1) 0 0) (b':=⟨1, .own,(.vals [.agg [.int .i64 0, .int .i64 0, .int .i64 0]]),_⟩) Pu.alloc rfl rfl ?_
  refine O.puE (v':=.op 4 (1) 0 0) (b':=⟨1, .own,(.vals [.agg [.int .i64 0, .int .i64 0, .int .i64 0]]),_⟩) Pu.alloc rfl rfl ?_
  refine O.ef0 (U.storeE (.tmp rfl) rfl rfl (.tmp (v:=.agg _) rfl) rfl rfl (.whole (notBad_ne rfl) rfl) .one) ?_
  refine O.ef0 (U.storeE (.tmp rfl) rfl rfl (.tmp (v:=.agg _) rfl) rfl rfl (.whole (notBad_ne rfl) rfl) .one) ?_
  refine O.pu (Pu.assign (.tmp (v:=.os _ _ _ _ _) rfl)) ?_
  refine O.nil ?_
  refine X.seq ?_
  refine X.still ?_
  refine O.pu (U.load (.tmp rfl) rfl rfl (U.whole rfl rfl)) ?_
  refine O.pu (U.load (.tmp rfl) rfl rfl (U.whole rfl rfl)) ?_
  refine O.pu (Pu.move (.tmp (v:=.os _ _ _ _ _) rfl)) ?_
  obtain ⟨q2,Hq2,h⟩:=Option.bind_eq_some_iff.1 h
  refine O.ef (U.callZ (ss:=[19]) (.cons (.tmp (v:=.agg _) rfl) (.cons (.tmp (v:=.agg _) rfl) (.cons (.tmp (v:=.os _ _ _ _ _) rfl) .nil))) (.cons (.cl (.aggL (.cons .int (.cons .int (.cons .int .nil))))) (.cons (.cl (.aggL (.cons .int (.cons .int (.cons .int .nil))))) (.cons (.osVf (by simp) rfl (Mode.live_ne rfl) rfl (ClL.map fun _=>.aggL (.cons .int (.cons .int (.cons .int .nil)))) (by first|rfl|(simp only [List.length_map,List.length_append,List.length_cons,List.length_nil] at *;done)|(simp only [List.length_map,List.length_append,List.length_cons,List.length_nil] at *;omega))) .nil))) (split_Parts.cs Hq2) (.tupL (.cons (.fv (ClL.map fun _=>.aggL (.cons .int (.cons .int (.cons .int (.cons .int (.cons .int (.cons .int .nil)))))))) (.cons .int .nil))) (nowin rfl)) ?_
  refine O.pu (Pu.move (.tmp (v:=.tup _) rfl)) ?_
  refine O.pu (Pu.extract (.tmp rfl) rfl) ?_
  refine O.pu (Pu.extract (.tmp rfl) rfl) ?_
  refine O.pu (Pu.assign (.tmp (v:=.fv _) rfl)) ?_
  refine O.pu (Pu.assign (.tmp (v:=.int _ _) rfl)) ?_
  refine O.nil ?_
  refine X.seq ?_
  refine X.seq ?_
  refine X.still ?_
  obtain ⟨q3,Hq3,h⟩:=Option.bind_eq_some_iff.1 h
  refine O.pu (U.call (ss:=[]) .nil .nil (chattellaw12_wakes.cs Hq3) (.inl rfl) (.bool)) ?_
  refine O.pu (Pu.un (.tmp rfl) .not) ?_
  refine O.pu (Pu.move (.tmp (v:=.bool _) rfl)) ?_
  refine O.splitNot (fun c=>?_) (fun c=>?_)
  · rw [if_neg (bf c)] at h
    refine G.skip (W.f rfl rfl rfl) ?_
    refine G.skip (W.f rfl rfl rfl) ?_
    refine O.pu (Pu.pickT (.tmp rfl) .bool) ?_
    refine O.pu (Pu.move (.tmp (v:=.bool _) rfl)) ?_
    refine G.skip (W.f rfl rfl rfl) ?_
    refine G.skip (W.f rfl rfl rfl) ?_
    refine G.skip (W.f rfl rfl rfl) ?_
    refine G.skip (W.f rfl rfl rfl) ?_
    refine G.skip (W.f rfl rfl rfl) ?_
    refine G.skip (W.f rfl rfl rfl) ?_
    refine G.skip (W.f rfl rfl rfl) ?_
    refine O.pu (Pu.pickT (.tmp rfl) .bool) ?_
    refine O.nil ?_
    repeat (rw [chattellaw12_SplitWhole.j0_e] at h;obtain ⟨k,_,h⟩:=h;unfold chattellaw12_SplitWhole.j0 at h;try dsimp only at h)
    rw [if_pos rfl] at h
    refine X.condT (.tmp rfl) ?_
    refine X.seq ?_
    refine X.still ?_
    refine O.pu (Pu.assign .bool) ?_
    refine O.nil ?_
    refine X.ret ?_
    cases h
    exact E.fin [] (.tmp (v:=.bool _) rfl .nil) (.cons (.cl .bool) .nil)
  · rw [if_pos c] at h
    refine G.pu (W.t rfl rfl) (Pu.move (.tmp (v:=.int _ _) rfl)) ?_
    refine G.pu (W.t rfl rfl) (Pu.bin (.tmp rfl) .int .neq) ?_
    refine O.pu (Pu.pickF (.tmp rfl) (.tmp (v:=.bool _) rfl)) ?_
    refine O.pu (Pu.move (.tmp (v:=.bool _) rfl)) ?_
    refine O.splitN (fun c=>?_) (fun c=>?_)
    · rw [if_neg c] at h
      refine G.skip (W.f rfl rfl rfl) ?_
      refine G.skip (W.f rfl rfl rfl) ?_
      refine G.skip (W.f rfl rfl rfl) ?_
      refine G.skip (W.f rfl rfl rfl) ?_
      refine G.skip (W.f rfl rfl rfl) ?_
      refine G.skip (W.f rfl rfl rfl) ?_
      refine G.skip (W.f rfl rfl rfl) ?_
      refine O.pu (Pu.pickT (.tmp rfl) .bool) ?_
      refine O.nil ?_
      repeat (rw [chattellaw12_SplitWhole.j0_e] at h;obtain ⟨k,_,h⟩:=h;unfold chattellaw12_SplitWhole.j0 at h;try dsimp only at h)
      rw [if_pos rfl] at h
      refine X.condT (.tmp rfl) ?_
      refine X.seq ?_
      refine X.still ?_
      refine O.pu (Pu.assign .bool) ?_
      refine O.nil ?_
      refine X.ret ?_
      cases h
      exact E.fin [] (.tmp (v:=.bool _) rfl .nil) (.cons (.cl .bool) .nil)
    · rw [if_pos c] at h
      refine G.pu (W.t rfl rfl) (Pu.move (.tmp (v:=.fv _) rfl)) ?_
      refine G.pu (W.t rfl rfl) (U.lenS rfl (.tmp rfl)) ?_
      refine G.pu (W.t rfl rfl) (Pu.bin (.tmp rfl) .int .eql) ?_
      refine G.pu (W.t rfl rfl) (U.load (.tmp rfl) rfl rfl (U.whole rfl rfl)) ?_
      refine G.pu (W.t rfl rfl) (U.load (.tmp rfl) rfl rfl (U.whole rfl rfl)) ?_
      refine G.pu (W.t rfl rfl) (U.eql28 (.tmp rfl) (.tmp rfl)) ?_
      refine G.pu (W.t rfl rfl) (Pu.bin (.tmp rfl) (.tmp rfl) (U.bneq rfl)) ?_
      refine O.pu (Pu.pickF (.tmp rfl) (.tmp (v:=.bool _) rfl)) ?_
      refine O.nil ?_
      repeat (rw [chattellaw12_SplitWhole.j0_e] at h;obtain ⟨k,_,h⟩:=h;unfold chattellaw12_SplitWhole.j0 at h;try dsimp only at h)
      refine X.cond (.tmp rfl) (fun c=>?_) (fun c=>?_)
      · rw [if_pos c] at h
        refine X.seq ?_
        refine X.still ?_
        refine O.pu (Pu.assign .bool) ?_
        refine O.nil ?_
        refine X.ret ?_
        cases h
        exact E.fin [] (.tmp (v:=.bool _) rfl .nil) (.cons (.cl .bool) .nil)
      · rw [if_neg (bf c)] at h
        refine X.skip ?_
        refine X.seq ?_
        refine X.still ?_
        refine O.pu (U.load (.tmp rfl) rfl rfl (U.whole rfl rfl)) ?_
        refine O.puE (v':=.op 8 (1) 0 0) (b':=⟨1, .own,(.vals [.agg [.int .i64 0, .int .i64 0, .int .i64 0]]),_⟩) Pu.alloc rfl rfl ?_
        refine O.ef0 (U.storeE (.tmp rfl) rfl rfl (.tmp (v:=.agg _) rfl) rfl rfl (.whole (notBad_ne rfl) rfl) .one) ?_
        refine O.nil ?_
        refine X.seq ?_
        refine X.seq ?_
        refine X.still ?_
        refine O.pu (Pu.move (.tmp (v:=.fv _) rfl)) ?_
        refine O.pu (U.lenS rfl (.tmp rfl)) ?_
        refine O.pu (Pu.move .int) ?_
        refine O.nil ?_
        refine X.block ?_
        refine X.inv (fun k s=>∃ x6 x46 x47 x48 x1647000 x1647001 x1647002 x1648000 x1648001 x1648002 x1654000 x1654001 x1654002 u1 u3 u4 u8 z1_0 z1_1 z1_2 z1_3 z1_4 z1_5 z1_6,s.t 6 = .fv (List.map en55 x6)∧s.t 46 = .fv (List.map en55 x46)∧s.t 47 = .int .i64 x47∧s.t 48 = .int .i64 x48∧s.t 1 = .op 1 u1 0 0∧s.b 1=⟨u1, .own, .vals [.agg [.int .i64 z1_0, .int .i64 z1_1, .int .i64 z1_2, .int .u16 z1_3, .fi .i16 z1_4, .fi .i16 z1_5, .int .u8 z1_6]],26⟩∧s.t 3 = .op 3 u3 0 0∧s.b 3=⟨u3, .own, .vals [.agg [.int .i64 x1647000, .int .i64 x1647001, .int .i64 x1647002]],28⟩∧s.t 4 = .op 4 u4 0 0∧s.b 4=⟨u4, .own, .vals [.agg [.int .i64 x1648000, .int .i64 x1648001, .int .i64 x1648002]],28⟩∧s.t 8 = .op 8 u8 0 0∧s.b 8=⟨u8, .own, .vals [.agg [.int .i64 x1654000, .int .i64 x1654001, .int .i64 x1654002]],28⟩∧chattellaw12_SplitWhole.l0 k x6 x46 x47 x48 x1647000 x1647001 x1647002 x1648000 x1648001 x1648002 x1654000 x1654001 x1654002=some r) ?_ ?_ ⟨_,_,_,_,_,_,_,_,_,_,_,_,_,_,_,_,_,_,_,_,_,_,_,_,rfl,rfl,rfl,rfl,rfl,rfl,rfl,rfl,rfl,rfl,rfl,rfl,h⟩
        · rintro s ⟨_,_,_,_,_,_,_,_,_,_,_,_,_,_,_,_,_,_,_,_,_,_,_,_,_,_,_,_,_,_,_,_,_,_,_,_,h⟩;unfold chattellaw12_SplitWhole.l0 at h;cases h
        · rintro k1 s1 ⟨x6,x46,x47,x48,x1647000,x1647001,x1647002,x1648000,x1648001,x1648002,x1654000,x1654001,x1654002,u1,u3,u4,u8,z1_0,z1_1,z1_2,z1_3,z1_4,z1_5,z1_6,e0,e1,e2,e3,e4,e5,e6,e7,e8,e9,e10,e11,h⟩
          unfold chattellaw12_SplitWhole.l0 at h
          rw [St.fixT e0,St.fixT e1,St.fixT e2,St.fixT e3,St.fixT e4,St.fixB e5,St.fixT e6,St.fixB e7,St.fixT e8,St.fixB e9,St.fixT e10,St.fixB e11]
          refine X.seq ?_
          refine X.still ?_
          refine O.pu (Pu.bin (.tmp rfl) (.tmp rfl) .lss) ?_
          refine O.nil ?_
          refine X.seq ?_
          refine X.condP (.tmp rfl) (fun c=>?_) (fun c=>?_)
          · rw [if_pos c] at h
            refine X.skip ?_
            refine X.seq ?_
            refine X.block ?_
            refine X.seq ?_
            refine X.still ?_
            repeat (rw [giff] at h;obtain ⟨_,h⟩:=h)
            refine O.pu (U.rdVS z55 rfl (fun _=>⟨rfl,rfl⟩) (.tmp rfl) (.tmp rfl) (by omega) (by omega)) ?_
            refine O.pu (Pu.loadR (.tmp rfl) (U.whole rfl rfl)) ?_
            refine O.puE (v':=.op 10 ((s1.b 10).ver + 1) 0 0) (b':=⟨(s1.b 10).ver + 1, .own,(.vals [.agg [.int .i64 0, .int .i64 0, .int .i64 0, .int .i64 0, .int .i64 0, .int .i64 0]]),_⟩) Pu.alloc rfl rfl ?_
            refine O.ef0 (U.storeE (.tmp rfl) rfl rfl (.tmp (v:=.agg _) rfl) rfl rfl (.whole (notBad_ne rfl) rfl) .one) ?_
            refine O.nil ?_
            refine X.seq ?_
            refine X.seq ?_
            refine X.still ?_
            refine O.pu (U.fieldA rfl rfl rfl (.tmp rfl)) ?_
            refine O.pu (U.load (.tmp rfl) rfl rfl (U.sub rfl (.take (.take (.take .done))))) ?_
            refine O.pu (U.load (.tmp rfl) rfl rfl (U.whole rfl rfl)) ?_
            refine O.pu (U.neq28 (.tmp rfl) (.tmp rfl)) ?_
            refine O.pu (Pu.move (.tmp (v:=.bool _) rfl)) ?_
            refine O.split (fun c=>?_) (fun c=>?_)
            · replace h:=iteT c h
              refine G.skip (W.f rfl rfl rfl) ?_
              refine G.skip (W.f rfl rfl rfl) ?_
              refine G.skip (W.f rfl rfl rfl) ?_
              refine G.skip (W.f rfl rfl rfl) ?_
              refine G.skip (W.f rfl rfl rfl) ?_
              refine G.skip (W.f rfl rfl rfl) ?_
              refine O.pu (Pu.pickT (.tmp rfl) .bool) ?_
              refine O.nil ?_
              refine X.condT (.tmp rfl) ?_
              refine X.seq ?_
              refine X.still ?_
              refine O.pu (Pu.assign .bool) ?_
              refine O.nil ?_
              refine X.ret ?_
              cases h
              exact E.fin [] (.tmp (v:=.bool _) rfl .nil) (.cons (.cl .bool) .nil)
            · replace h:=iteF c h
              refine G.pu (W.t rfl rfl) (U.fieldA rfl rfl rfl (.tmp rfl)) ?_
              refine G.pu (W.t rfl rfl) (U.load (.tmp rfl) rfl rfl (U.sub rfl (.take (.take (.take .done))))) ?_
              refine G.pu (W.t rfl rfl) (U.fieldA rfl rfl rfl (.tmp rfl)) ?_
              refine G.pu (W.t rfl rfl) (U.load (.tmp rfl) rfl rfl (U.sub rfl (.skip (.skip (.skip (.take (.take (.take .done)))))))) ?_
              obtain ⟨q4,Hq4,h⟩:=Option.bind_eq_some_iff.1 h
              refine G.pu (W.t rfl rfl) (U.call (ss:=[]) (.cons (.tmp (v:=.agg _) rfl) (.cons (.tmp (v:=.agg _) rfl) .nil)) (.cons (.cl (.aggL (.cons .int (.cons .int (.cons .int .nil))))) (.cons (.cl (.aggL (.cons .int (.cons .int (.cons .int .nil))))) .nil)) (date_Cmp.cs Hq4) (.inl rfl) (.int)) ?_
              refine G.pu (W.t rfl rfl) (Pu.bin (.tmp rfl) .int .geq) ?_
              refine O.pu (Pu.pickF (.tmp rfl) (.tmp (v:=.bool _) rfl)) ?_
              refine O.nil ?_
              refine X.condP (.tmp rfl) (fun c=>?_) (fun c=>?_)
              · rw [if_pos c] at h
                refine X.seq ?_
                refine X.still ?_
                refine O.pu (Pu.assign .bool) ?_
                refine O.nil ?_
                refine X.ret ?_
                cases h
                exact E.fin [] (.tmp (v:=.bool _) rfl .nil) (.cons (.cl .bool) .nil)
              · rw [if_neg c] at h
                refine X.skip ?_
                refine X.still ?_
                refine O.pu (U.fieldA rfl rfl rfl (.tmp rfl)) ?_
                refine O.pu (U.load (.tmp rfl) rfl rfl (U.sub rfl (.skip (.skip (.skip (.take (.take (.take .done)))))))) ?_
                refine O.ef0 (U.storeE (.tmp rfl) rfl rfl (.tmp (v:=.agg _) rfl) rfl rfl (.whole (notBad_ne rfl) rfl) .one) ?_
                refine O.nil ?_
                refine X.still ?_
                refine O.pu (Pu.bin (.tmp rfl) .int U.add64) ?_
                refine O.pu (Pu.move (.tmp (v:=.int _ _) rfl)) ?_
                refine O.nil ?_
                exact ⟨_,(by omega),_,_,_,_,_,_,_,_,_,_,_,_,_,_,_,_,_,_,_,_,_,_,_,_,rfl,rfl,rfl,rfl,rfl,rfl,rfl,rfl,rfl,rfl,rfl,rfl,h⟩
          · rw [if_neg c] at h
            refine X.exit (B.out ?_)
            refine X.seq ?_
            refine X.seq ?_
            refine X.still ?_
            refine O.pu (U.load (.tmp rfl) rfl rfl (U.whole rfl rfl)) ?_
            refine O.pu (U.load (.tmp rfl) rfl rfl (U.whole rfl rfl)) ?_
            refine O.pu (U.neq28 (.tmp rfl) (.tmp rfl)) ?_
            refine O.nil ?_
            refine X.cond (.tmp rfl) (fun c=>?_) (fun c=>?_)
            · rw [if_pos c] at h
              refine X.seq ?_
              refine X.still ?_
              refine O.pu (Pu.assign .bool) ?_
              refine O.nil ?_
              refine X.ret ?_
              cases h
              exact E.fin [] (.tmp (v:=.bool _) rfl .nil) (.cons (.cl .bool) .nil)
            · rw [if_neg (bf c)] at h
              refine X.skip ?_
              refine X.seq ?_
              refine X.seq ?_
              refine X.still ?_
              refine O.puE (v':=.os 70 ((s1.b 70).ver + 1) 0 _ true) (b':=⟨(s1.b 70).ver + 1, .own,_,_⟩) (U.litI rfl rfl (.cons .int (.cons .int .nil)) rfl rfl) rfl rfl ?_
              refine O.pu (Pu.lenO rfl (.tmp rfl)) ?_
              refine O.pu (Pu.move .int) ?_
              refine O.nil ?_
              refine X.block ?_
              repeat rw [bdff] at h
              refine X.inv (fun k s=>k≤k1∧∃ x6 x70 x71 x72 x1647000 x1647001 x1647002 x1648000 x1648001 x1648002 n70 u1 u3 u4 u70 u8 z1_0 z1_1 z1_2 z1_3 z1_4 z1_5 z1_6 z8_0 z8_1 z8_2,s.t 6 = .fv (List.map en55 x6)∧s.b 70=⟨u70, .own, .ints .i64 x70,52⟩∧s.t 70 = .os 70 u70 0 n70 true∧x70.length=n70∧s.t 71 = .int .i64 x71∧s.t 72 = .int .i64 x72∧s.t 1 = .op 1 u1 0 0∧s.b 1=⟨u1, .own, .vals [.agg [.int .i64 z1_0, .int .i64 z1_1, .int .i64 z1_2, .int .u16 z1_3, .fi .i16 z1_4, .fi .i16 z1_5, .int .u8 z1_6]],26⟩∧s.t 3 = .op 3 u3 0 0∧s.b 3=⟨u3, .own, .vals [.agg [.int .i64 x1647000, .int .i64 x1647001, .int .i64 x1647002]],28⟩∧s.t 4 = .op 4 u4 0 0∧s.b 4=⟨u4, .own, .vals [.agg [.int .i64 x1648000, .int .i64 x1648001, .int .i64 x1648002]],28⟩∧s.t 8 = .op 8 u8 0 0∧s.b 8=⟨u8, .own, .vals [.agg [.int .i64 z8_0, .int .i64 z8_1, .int .i64 z8_2]],28⟩∧chattellaw12_SplitWhole.l1 k x6 x70 x71 x72 x1647000 x1647001 x1647002 x1648000 x1648001 x1648002=some r) ?_ ?_ ⟨(by omega),_,_,_,_,_,_,_,_,_,_,_,_,_,_,_,_,_,_,_,_,_,_,_,_,_,_,rfl,rfl,rfl,(by first|rfl|(simp only [List.length_set];done)|(simp only [List.length_drop,List.length_take,List.length_append,List.length_set] at *;omega)),rfl,rfl,rfl,rfl,rfl,rfl,rfl,rfl,rfl,rfl,h⟩
              · rintro s ⟨_,_,_,_,_,_,_,_,_,_,_,_,_,_,_,_,_,_,_,_,_,_,_,_,_,_,_,_,_,_,_,_,_,_,_,_,_,_,_,_,_,h⟩;unfold chattellaw12_SplitWhole.l1 at h;cases h
              · rintro k2 s2 ⟨kl2,x6,x70,x71,x72,x1647000,x1647001,x1647002,x1648000,x1648001,x1648002,n70,u1,u3,u4,u70,u8,z1_0,z1_1,z1_2,z1_3,z1_4,z1_5,z1_6,z8_0,z8_1,z8_2,e0,e1,e2,rfl,e4,e5,e6,e7,e8,e9,e10,e11,e12,e13,h⟩
                unfold chattellaw12_SplitWhole.l1 at h
                rw [St.fixT e0,St.fixB e1,St.fixT e2,St.fixT e4,St.fixT e5,St.fixT e6,St.fixB e7,St.fixT e8,St.fixB e9,St.fixT e10,St.fixB e11,St.fixT e12,St.fixB e13]
                refine X.seq ?_
                refine X.still ?_
                refine O.pu (Pu.bin (.tmp rfl) (.tmp rfl) .lss) ?_
                refine O.nil ?_
                refine X.seq ?_
                refine X.condP (.tmp rfl) (fun c=>?_) (fun c=>?_)
                · rw [if_pos c] at h
                  refine X.skip ?_
                  refine X.seq ?_
                  refine X.block ?_
                  refine X.seq ?_
                  refine X.still ?_
                  repeat (rw [giff] at h;obtain ⟨_,h⟩:=h)
                  refine O.pu (U.indexO0 rfl (.tmp rfl) rfl rfl (.tmp rfl) (by first|omega|(simp only [List.length_set] at *;omega)) (by first|omega|(simp only [List.length_set] at *;omega)) rfl rfl) ?_
                  refine O.pu (U.rdO (.tmp rfl) rfl rfl rfl rfl rfl) ?_
                  refine O.pu (Pu.assign (.tmp (v:=.int _ _) rfl)) ?_
                  refine O.nil ?_
                  refine X.seq ?_
                  refine X.still ?_
                  refine O.pu (Pu.move (.tmp (v:=.int _ _) rfl)) ?_
                  refine O.pu (Pu.move (.tmp (v:=.fv _) rfl)) ?_
                  obtain ⟨q5,Hq5,h⟩:=Option.bind_eq_some_iff.1 h
                  refine O.pu (U.call (ss:=[]) (.cons (.tmp (v:=.int _ _) rfl) (.cons (.tmp (v:=.fv _) rfl) .nil)) (.cons (.cl .int) (.cons (.cl (.fv (ClL.map fun _=>.aggL (.cons .int (.cons .int (.cons .int (.cons .int (.cons .int (.cons .int .nil))))))))) .nil)) (split_Years.cs Hq5) (.inl rfl) (.tupL (.cons (.aggL (.cons .fi (.cons .bool (.cons .fi .nil)))) (.cons .int .nil)))) ?_
                  refine O.pu (Pu.move (.tmp (v:=.tup _) rfl)) ?_
                  refine O.pu (Pu.extract (.tmp rfl) rfl) ?_
                  refine O.pu (Pu.extract (.tmp rfl) rfl) ?_
                  refine O.puE (v':=.op 13 ((s2.b 13).ver + 1) 0 0) (b':=⟨(s2.b 13).ver + 1, .own,(.vals [.agg [.fi .u64 [], .bool false, .fi .u64 []]]),_⟩) Pu.alloc rfl rfl ?_
                  refine O.ef0 (U.storeE (.tmp rfl) rfl rfl (.tmp (v:=.agg _) rfl) rfl rfl (.whole (notBad_ne rfl) rfl) .one) ?_
                  refine O.pu (Pu.assign (.tmp (v:=.int _ _) rfl)) ?_
                  refine O.nil ?_
                  refine X.seq ?_
                  refine X.still ?_
                  refine O.pu (Pu.move (.tmp (v:=.int _ _) rfl)) ?_
                  refine O.pu (U.load (.tmp rfl) rfl rfl (U.whole rfl rfl)) ?_
                  refine O.pu (U.load (.tmp rfl) rfl rfl (U.whole rfl rfl)) ?_
                  obtain ⟨q6,Hq6,h⟩:=Option.bind_eq_some_iff.1 h
                  refine O.pu (U.call (ss:=[]) (.cons (.tmp (v:=.int _ _) rfl) (.cons (.tmp (v:=.agg _) rfl) (.cons (.tmp (v:=.agg _) rfl) .nil))) (.cons (.cl .int) (.cons (.cl (.aggL (.cons .int (.cons .int (.cons .int .nil))))) (.cons (.cl (.aggL (.cons .int (.cons .int (.cons .int .nil))))) .nil))) (count_Year.cs Hq6) (.inl rfl) (.tupL (.cons (.aggL (.cons .fi (.cons .bool (.cons .fi .nil)))) (.cons .int .nil)))) ?_
                  refine O.pu (Pu.move (.tmp (v:=.tup _) rfl)) ?_
                  refine O.pu (Pu.extract (.tmp rfl) rfl) ?_
                  refine O.pu (Pu.extract (.tmp rfl) rfl) ?_
                  refine O.puE (v':=.op 15 ((s2.b 15).ver + 1) 0 0) (b':=⟨(s2.b 15).ver + 1, .own,(.vals [.agg [.fi .u64 [], .bool false, .fi .u64 []]]),_⟩) Pu.alloc rfl rfl ?_
                  refine O.ef0 (U.storeE (.tmp rfl) rfl rfl (.tmp (v:=.agg _) rfl) rfl rfl (.whole (notBad_ne rfl) rfl) .one) ?_
                  refine O.pu (Pu.assign (.tmp (v:=.int _ _) rfl)) ?_
                  refine O.nil ?_
                  refine X.seq ?_
                  refine X.still ?_
                  refine O.pu (Pu.move (.tmp (v:=.int _ _) rfl)) ?_
                  refine O.pu (Pu.bin (.tmp rfl) .int .neq) ?_
                  refine O.pu (Pu.move (.tmp (v:=.bool _) rfl)) ?_
                  refine O.splitN (fun c=>?_) (fun c=>?_)
                  · rw [if_neg c] at h
                    refine G.skip (W.f rfl rfl rfl) ?_
                    refine G.skip (W.f rfl rfl rfl) ?_
                    refine O.pu (Pu.pickT (.tmp rfl) .bool) ?_
                    refine O.pu (Pu.move (.tmp (v:=.bool _) rfl)) ?_
                    refine G.skip (W.f rfl rfl rfl) ?_
                    refine G.skip (W.f rfl rfl rfl) ?_
                    refine G.skip (W.f rfl rfl rfl) ?_
                    refine G.skip (W.f rfl rfl rfl) ?_
                    refine O.pu (Pu.pickT (.tmp rfl) .bool) ?_
                    refine O.nil ?_
                    refine X.condT (.tmp rfl) ?_
                    refine X.seq ?_
                    refine X.still ?_
                    refine O.pu (Pu.assign .bool) ?_
                    refine O.nil ?_
                    refine X.ret ?_
                    cases h
                    exact E.fin [] (.tmp (v:=.bool _) rfl .nil) (.cons (.cl .bool) .nil)
                  · rw [if_pos c] at h
                    refine G.pu (W.t rfl rfl) (Pu.move (.tmp (v:=.int _ _) rfl)) ?_
                    refine G.pu (W.t rfl rfl) (Pu.bin (.tmp rfl) .int .neq) ?_
                    refine O.pu (Pu.pickF (.tmp rfl) (.tmp (v:=.bool _) rfl)) ?_
                    refine O.pu (Pu.move (.tmp (v:=.bool _) rfl)) ?_
                    refine O.splitN (fun c=>?_) (fun c=>?_)
                    · rw [if_neg c] at h
                      refine G.skip (W.f rfl rfl rfl) ?_
                      refine G.skip (W.f rfl rfl rfl) ?_
                      refine G.skip (W.f rfl rfl rfl) ?_
                      refine G.skip (W.f rfl rfl rfl) ?_
                      refine O.pu (Pu.pickT (.tmp rfl) .bool) ?_
                      refine O.nil ?_
                      refine X.condT (.tmp rfl) ?_
                      refine X.seq ?_
                      refine X.still ?_
                      refine O.pu (Pu.assign .bool) ?_
                      refine O.nil ?_
                      refine X.ret ?_
                      cases h
                      exact E.fin [] (.tmp (v:=.bool _) rfl .nil) (.cons (.cl .bool) .nil)
                    · rw [if_pos c] at h
                      refine G.pu (W.t rfl rfl) (U.load (.tmp rfl) rfl rfl (U.whole rfl rfl)) ?_
                      refine G.pu (W.t rfl rfl) (U.load (.tmp rfl) rfl rfl (U.whole rfl rfl)) ?_
                      obtain ⟨q7,Hq7,h⟩:=Option.bind_eq_some_iff.1 h
                      refine G.pu (W.t rfl rfl) (U.call (ss:=[]) (.cons (.tmp (v:=.agg _) rfl) (.cons (.tmp (v:=.agg _) rfl) .nil)) (.cons (.cl (.aggL (.cons .fi (.cons .bool (.cons .fi .nil))))) (.cons (.cl (.aggL (.cons .fi (.cons .bool (.cons .fi .nil))))) .nil)) (frac_Frac_Cmp.cs Hq7) (.inl rfl) (.int)) ?_
                      refine G.pu (W.t rfl rfl) (Pu.bin (.tmp rfl) .int .neq) ?_
                      refine O.pu (Pu.pickF (.tmp rfl) (.tmp (v:=.bool _) rfl)) ?_
                      refine O.nil ?_
                      refine X.condN (.tmp rfl) (fun c=>?_) (fun c=>?_)
                      · rw [if_neg c] at h
                        refine X.seq ?_
                        refine X.still ?_
                        refine O.pu (Pu.assign .bool) ?_
                        refine O.nil ?_
                        refine X.ret ?_
                        cases h
                        exact E.fin [] (.tmp (v:=.bool _) rfl .nil) (.cons (.cl .bool) .nil)
                      · rw [if_pos c] at h
                        refine X.skip ?_
                        refine X.still ?_
                        refine O.pu (Pu.bin (.tmp rfl) .int U.add64) ?_
                        refine O.pu (Pu.move (.tmp (v:=.int _ _) rfl)) ?_
                        refine O.nil ?_
                        exact ⟨_,(by omega),(by omega),_,_,_,_,_,_,_,_,_,_,_,_,_,_,_,_,_,_,_,_,_,_,_,_,_,_,rfl,rfl,rfl,(by first|rfl|(simp only [List.length_set];done)|(simp only [List.length_drop,List.length_take,List.length_append,List.length_set] at *;omega)),rfl,rfl,rfl,rfl,rfl,rfl,rfl,rfl,rfl,rfl,h⟩
                · rw [if_neg c] at h
                  refine X.exit (B.out ?_)
                  refine X.seq ?_
                  refine X.still ?_
                  refine O.pu (Pu.assign .bool) ?_
                  refine O.nil ?_
                  refine X.ret ?_
                  cases h
                  exact E.fin [] (.tmp (v:=.bool _) rfl .nil) (.cons (.cl .bool) .nil)
end Go.Proofs.YtakidmbnkkhojaaGreat
end
