-- Joined of: G47 G48 G15 G10 G3
import Derived.Test.YtakidmbnkkhojaaGreatCd5eJG2
import Derived.Test.YtakidmbnkkhojaaGreatCd5eSp15
import Derived.Test.YtakidmbnkkhojaaGreatCd5eJG4
import Derived.Test.YtakidmbnkkhojaaGreatCd5eJG3
section
namespace Go.Proofs.YtakidmbnkkhojaaGreat
open Go.AVL Go.RowKit Go.Proofs.YtakidmbnkkhojaaGreat.F Go.Proofs.YtakidmbnkkhojaaGreatX Go.Proofs.YtakidmbnkkhojaaGreatW.PrintWords Go.Proofs.YtakidmbnkkhojaaGreatW.PrintLast Go.Proofs.YtakidmbnkkhojaaGreatW.PrintMore
set_option linter.unusedVariables false
set_option linter.unusedSimpArgs false
set_option maxRecDepth 100000
set_option maxHeartbeats 16000000
noncomputable def c47:Code:=Tryz.f47.body.getD .skip
theorem fn47:FnOk Tryz.prog 47 Tryz.f47 c47:=⟨Tryz.func47,rfl,by kernel_rfl,by kernel_rfl,mixed⟩
theorem chattelref09_Right.cs {k:Nat} {a0_0:Int} {a0_1:Int} {a0_2:Int} {r:Bool} (h:chattelref09_Right.f k a0_0 a0_1 a0_2=some r):CS Tryz.prog 47 [.agg [.int .i64 a0_0, .int .i64 a0_1, .int .i64 a0_2]] .no [.bool r]:=by
  unfold chattelref09_Right.f at h
  refine E.pure fn47 rfl ?_
  refine X.seq ?_
  refine X.still ?_
  refine O.puE (v':=.op 1 (1) 0 0) (b':=⟨1, .own,_,_⟩) (Pu.box (.tmp (v:=.agg _) rfl) rfl rfl) rfl rfl ?_
  refine O.pu (Pu.assign .bool) ?_
  refine O.nil ?_
  refine X.seq ?_
  refine X.still ?_
  refine O.pu (U.fieldA rfl rfl rfl (.tmp rfl)) ?_
  refine O.pu (U.load (.tmp rfl) rfl rfl (U.cell rfl rfl rfl)) ?_
  refine O.pu (U.fieldA rfl rfl rfl (.tmp rfl)) ?_
  refine O.pu (U.load (.tmp rfl) rfl rfl (U.cell rfl rfl rfl)) ?_
  obtain ⟨q1,Hq1,h⟩:=Option.bind_eq_some_iff.1 h
  refine O.pu (U.call (ss:=[]) (.cons (.tmp (v:=.int _ _) rfl) (.cons (.tmp (v:=.int _ _) rfl) .nil)) (.cons (.cl .int) (.cons (.cl .int) .nil)) (chattelref09_Days.cs Hq1) (.inl rfl) (.int)) ?_
  refine O.pu (Pu.assign (.tmp (v:=.int _ _) rfl)) ?_
  refine O.nil ?_
  refine X.seq ?_
  refine X.still ?_
  refine O.pu (U.fieldA rfl rfl rfl (.tmp rfl)) ?_
  refine O.pu (U.load (.tmp rfl) rfl rfl (U.cell rfl rfl rfl)) ?_
  refine O.pu (Pu.bin (.tmp rfl) .int .geq) ?_
  refine O.pu (Pu.move (.tmp (v:=.bool _) rfl)) ?_
  refine O.splitP (fun c=>?_) (fun c=>?_)
  · rw [if_pos c] at h
    refine G.pu (W.t rfl rfl) (U.fieldA rfl rfl rfl (.tmp rfl)) ?_
    refine G.pu (W.t rfl rfl) (U.load (.tmp rfl) rfl rfl (U.cell rfl rfl rfl)) ?_
    refine G.pu (W.t rfl rfl) (Pu.move (.tmp (v:=.int _ _) rfl)) ?_
    refine G.pu (W.t rfl rfl) (Pu.bin (.tmp rfl) (.tmp rfl) .leq) ?_
    refine O.pu (Pu.pickT (.tmp rfl) (.tmp (v:=.bool _) rfl)) ?_
    refine O.pu (Pu.assign (.tmp (v:=.bool _) rfl)) ?_
    refine O.nil ?_
    refine X.ret ?_
    cases h
    exact E.fin [] (.tmp (v:=.bool _) rfl .nil) (.cons (.cl .bool) .nil)
  · rw [if_neg c] at h
    refine G.skip (W.f rfl rfl rfl) ?_
    refine G.skip (W.f rfl rfl rfl) ?_
    refine G.skip (W.f rfl rfl rfl) ?_
    refine G.skip (W.f rfl rfl rfl) ?_
    refine O.pu (Pu.pickF (.tmp rfl) .bool) ?_
    refine O.pu (Pu.assign (.tmp (v:=.bool _) rfl)) ?_
    refine O.nil ?_
    refine X.ret ?_
    cases h
    exact E.fin [] (.tmp (v:=.bool _) rfl .nil) (.cons (.cl .bool) .nil)
noncomputable def c48:Code:=Tryz.f48.body.getD .skip
theorem fn48:FnOk Tryz.prog 48 Tryz.f48 c48:=⟨Tryz.func48,rfl,by kernel_rfl,by kernel_rfl,mixed⟩
theorem chattelref09_Cmp.cs {k:Nat} {a0_0:Int} {a0_1:Int} {a0_2:Int} {a1_0:Int} {a1_1:Int} {a1_2:Int} {r:Int} (h:chattelref09_Cmp.f k a0_0 a0_1 a0_2 a1_0 a1_1 a1_2=some r):CS Tryz.prog 48 [.agg [.int .i64 a0_0, .int .i64 a0_1, .int .i64 a0_2], .agg [.int .i64 a1_0, .int .i64 a1_1, .int .i64 a1_2]] .no [.int .i64 r]:=by
  unfold chattelref09_Cmp.f at h
  refine E.pure fn48 rfl ?_
  refine X.seq ?_
  refine X.still ?_
  refine O.puE (v':=.op 2 (1) 0 0) (b':=⟨1, .own,_,_⟩) (Pu.box (.tmp (v:=.agg _) rfl) rfl rfl) rfl rfl ?_
  refine O.puE (v':=.op 3 (1) 0 0) (b':=⟨1, .own,_,_⟩) (Pu.box (.tmp (v:=.agg _) rfl) rfl rfl) rfl rfl ?_
  refine O.pu (Pu.assign .int) ?_
  refine O.nil ?_
  refine X.seq ?_
  refine X.still ?_
  refine O.pu (U.fieldA rfl rfl rfl (.tmp rfl)) ?_
  refine O.pu (U.load (.tmp rfl) rfl rfl (U.cell rfl rfl rfl)) ?_
  refine O.pu (U.fieldA rfl rfl rfl (.tmp rfl)) ?_
  refine O.pu (U.load (.tmp rfl) rfl rfl (U.cell rfl rfl rfl)) ?_
  refine O.pu (U.fieldA rfl rfl rfl (.tmp rfl)) ?_
  refine O.pu (U.load (.tmp rfl) rfl rfl (U.cell rfl rfl rfl)) ?_
  refine O.puE (v':=.os 14 (1) 0 _ true) (b':=⟨1, .own,_,_⟩) (U.litI rfl rfl (.cons (.tmp (v:=.int _ _) rfl) (.cons (.tmp (v:=.int _ _) rfl) (.cons (.tmp (v:=.int _ _) rfl) .nil))) rfl rfl) rfl rfl ?_
  refine O.pu (Pu.assign (.tmp (v:=.os _ _ _ _ _) rfl)) ?_
  refine O.nil ?_
  refine X.seq ?_
  refine X.still ?_
  refine O.pu (U.fieldA rfl rfl rfl (.tmp rfl)) ?_
  refine O.pu (U.load (.tmp rfl) rfl rfl (U.cell rfl rfl rfl)) ?_
  refine O.pu (U.fieldA rfl rfl rfl (.tmp rfl)) ?_
  refine O.pu (U.load (.tmp rfl) rfl rfl (U.cell rfl rfl rfl)) ?_
  refine O.pu (U.fieldA rfl rfl rfl (.tmp rfl)) ?_
  refine O.pu (U.load (.tmp rfl) rfl rfl (U.cell rfl rfl rfl)) ?_
  refine O.puE (v':=.os 21 (1) 0 _ true) (b':=⟨1, .own,_,_⟩) (U.litI rfl rfl (.cons (.tmp (v:=.int _ _) rfl) (.cons (.tmp (v:=.int _ _) rfl) (.cons (.tmp (v:=.int _ _) rfl) .nil))) rfl rfl) rfl rfl ?_
  refine O.pu (Pu.assign (.tmp (v:=.os _ _ _ _ _) rfl)) ?_
  refine O.nil ?_
  refine X.seq ?_
  refine X.seq ?_
  refine X.still ?_
  refine O.pu (Pu.assign .int) ?_
  refine O.nil ?_
  refine X.block ?_
  refine X.inv (fun k s=>∃ x5 x6 x7 n5 n6 u14 u2 u21 u3 z2_0 z2_1 z2_2 z3_0 z3_1 z3_2,s.b 14=⟨u14, .own, .ints .i64 x5,3⟩∧s.t 5 = .os 14 u14 0 n5 true∧x5.length=n5∧s.b 21=⟨u21, .own, .ints .i64 x6,3⟩∧s.t 6 = .os 21 u21 0 n6 true∧x6.length=n6∧s.t 7 = .int .i64 x7∧s.t 2 = .op 2 u2 0 0∧s.b 2=⟨u2, .own, .vals [.agg [.int .i64 z2_0, .int .i64 z2_1, .int .i64 z2_2]],28⟩∧s.t 3 = .op 3 u3 0 0∧s.b 3=⟨u3, .own, .vals [.agg [.int .i64 z3_0, .int .i64 z3_1, .int .i64 z3_2]],28⟩∧chattelref09_Cmp.l0 k x5 x6 x7=some r) ?_ ?_ ⟨_,_,_,_,_,_,_,_,_,_,_,_,_,_,_,rfl,rfl,rfl,rfl,rfl,rfl,rfl,rfl,rfl,rfl,rfl,h⟩
  · rintro s ⟨_,_,_,_,_,_,_,_,_,_,_,_,_,_,_,_,_,_,_,_,_,_,_,_,_,_,h⟩;unfold chattelref09_Cmp.l0 at h;cases h
  · rintro k1 s1 ⟨x5,x6,x7,n5,n6,u14,u2,u21,u3,z2_0,z2_1,z2_2,z3_0,z3_1,z3_2,e0,e1,rfl,e3,e4,rfl,e6,e7,e8,e9,e10,h⟩
    unfold chattelref09_Cmp.l0 at h
    rw [St.fixB e0,St.fixT e1,St.fixB e3,St.fixT e4,St.fixT e6,St.fixT e7,St.fixB e8,St.fixT e9,St.fixB e10]
    refine X.seq ?_
    refine X.seq ?_
    refine X.still ?_
    refine O.pu (Pu.move (.tmp (v:=.int _ _) rfl)) ?_
    refine O.pu (Pu.bin (.tmp rfl) .int .lss) ?_
    refine O.nil ?_
    refine X.condP (.tmp rfl) (fun c=>?_) (fun c=>?_)
    · rw [if_pos c] at h
      refine X.skip ?_
      refine X.seq ?_
      refine X.block ?_
      refine X.seq ?_
      refine X.seq ?_
      refine X.drawn ?_
      refine D.pu (Pu.move (.tmp (v:=.os _ _ _ _ _) rfl)) ?_
      refine D.pu (Pu.move (.tmp (v:=.int _ _) rfl)) ?_
      repeat (rw [giff] at h;obtain ⟨_,h⟩:=h)
      refine D.pu (U.indexO0 rfl (.tmp rfl) rfl rfl (.tmp rfl) (by first|omega|(simp only [List.length_set] at *;omega)) (by first|omega|(simp only [List.length_set] at *;omega)) rfl rfl) ?_
      refine D.pu (U.rdO (.tmp rfl) rfl rfl rfl rfl rfl) ?_
      refine D.pu (Pu.move (.tmp (v:=.os _ _ _ _ _) rfl)) ?_
      refine D.pu (Pu.move (.tmp (v:=.int _ _) rfl)) ?_
      refine D.pu (U.indexO0 rfl (.tmp rfl) rfl rfl (.tmp rfl) (by first|omega|(simp only [List.length_set] at *;omega)) (by first|omega|(simp only [List.length_set] at *;omega)) rfl rfl) ?_
      refine D.pu (U.rdO (.tmp rfl) rfl rfl rfl rfl rfl) ?_
      refine D.pu (Pu.bin (.tmp rfl) (.tmp rfl) .lss) ?_
      refine D.nil (by kernel_rfl) ?_
      refine X.condP (.tmp rfl) (fun c=>?_) (fun c=>?_)
      · rw [if_pos c] at h
        refine X.seq ?_
        refine X.still ?_
        refine O.pu (Pu.assign .int) ?_
        refine O.nil ?_
        refine X.ret ?_
        cases h
        exact E.fin [] (.tmp (v:=.int _ _) rfl .nil) (.cons (.cl .int) .nil)
      · rw [if_neg c] at h
        refine X.skip ?_
        refine X.seq ?_
        refine X.drawn ?_
        refine D.pu (Pu.move (.tmp (v:=.os _ _ _ _ _) rfl)) ?_
        refine D.pu (Pu.move (.tmp (v:=.int _ _) rfl)) ?_
        refine D.pu (U.indexO0 rfl (.tmp rfl) rfl rfl (.tmp rfl) (by first|omega|(simp only [List.length_set] at *;omega)) (by first|omega|(simp only [List.length_set] at *;omega)) rfl rfl) ?_
        refine D.pu (U.rdO (.tmp rfl) rfl rfl rfl rfl rfl) ?_
        refine D.pu (Pu.move (.tmp (v:=.os _ _ _ _ _) rfl)) ?_
        refine D.pu (Pu.move (.tmp (v:=.int _ _) rfl)) ?_
        refine D.pu (U.indexO0 rfl (.tmp rfl) rfl rfl (.tmp rfl) (by first|omega|(simp only [List.length_set] at *;omega)) (by first|omega|(simp only [List.length_set] at *;omega)) rfl rfl) ?_
        refine D.pu (U.rdO (.tmp rfl) rfl rfl rfl rfl rfl) ?_
        refine D.pu (Pu.bin (.tmp rfl) (.tmp rfl) .gtr) ?_
        refine D.nil (by kernel_rfl) ?_
        refine X.condP (.tmp rfl) (fun c=>?_) (fun c=>?_)
        · rw [if_pos c] at h
          refine X.seq ?_
          refine X.still ?_
          refine O.pu (Pu.assign .int) ?_
          refine O.nil ?_
          refine X.ret ?_
          cases h
          exact E.fin [] (.tmp (v:=.int _ _) rfl .nil) (.cons (.cl .int) .nil)
        · rw [if_neg c] at h
          refine X.skip ?_
          refine X.still ?_
          refine O.pu (Pu.move (.tmp (v:=.int _ _) rfl)) ?_
          refine O.pu (Pu.bin (.tmp rfl) .int U.add64) ?_
          refine O.pu (Pu.assign (.tmp (v:=.int _ _) rfl)) ?_
          refine O.nil ?_
          exact ⟨_,(by omega),_,_,_,_,_,_,_,_,_,_,_,_,_,_,_,rfl,rfl,(by first|rfl|(simp only [List.length_set];done)|(simp only [List.length_drop,List.length_take,List.length_append,List.length_set] at *;omega)),rfl,rfl,(by first|rfl|(simp only [List.length_set];done)|(simp only [List.length_drop,List.length_take,List.length_append,List.length_set] at *;omega)),rfl,rfl,rfl,rfl,rfl,h⟩
    · rw [if_neg c] at h
      refine X.exit (B.out ?_)
      refine X.seq ?_
      refine X.still ?_
      refine O.pu (Pu.assign .int) ?_
      refine O.nil ?_
      refine X.ret ?_
      cases h
      exact E.fin [] (.tmp (v:=.int _ _) rfl .nil) (.cons (.cl .int) .nil)
theorem chattelref12_Parts.j0_e {k y0 y1 y2 y3 y4 y5 y6 y7 r}:(chattelref12_Parts.j0 k y0 y1 y2 y3 y4 y5 y6 y7=some r) = ∃ j,k=j + 1∧chattelref12_Parts.j0 (j + 1) y0 y1 y2 y3 y4 y5 y6 y7=some r:=propext ⟨fun h=>by cases k with|zero=>(unfold chattelref12_Parts.j0 at h;cases h)|succ k=>exact ⟨k,rfl,h⟩,fun ⟨j,hj,h⟩=>by subst hj;exact h⟩
noncomputable def c15:Code:=Tryz.f15.body.getD .skip
theorem fn15:FnOk Tryz.prog 15 Tryz.f15 c15:=⟨Tryz.func15,rfl,by kernel_rfl,by kernel_rfl,mixed⟩
theorem chattelref12_Parts.cs {k:Nat} {a0_0:Int} {a0_1:Int} {a0_2:Int} {a1_0:Int} {a1_1:Int} {a1_2:Int} {l2:List (S28)} {r:(List (S91))×Int} (h:chattelref12_Parts.f k a0_0 a0_1 a0_2 a1_0 a1_1 a1_2 l2=some r):CS Tryz.prog 15 [.agg [.int .i64 a0_0, .int .i64 a0_1, .int .i64 a0_2], .agg [.int .i64 a1_0, .int .i64 a1_1, .int .i64 a1_2], .fv (List.map en28 l2)] .no [.fv (List.map en91 r.1), .int .i64 r.2]:=by
  unfold chattelref12_Parts.f at h
  refine E.pure fn15 rfl ?_
  refine X.seq ?_
  refine X.still ?_
  refine O.puE (v':=.op 3 (1) 0 0) (b':=⟨1, .own,_,_⟩) (Pu.box (.tmp (v:=.agg _) rfl) rfl rfl) rfl rfl ?_
  refine O.puE (v':=.op 4 (1) 0 0) (b':=⟨1, .own,_,_⟩) (Pu.box (.tmp (v:=.agg _) rfl) rfl rfl) rfl rfl ?_
  refine O.pu (Pu.assign .nilV) ?_
  refine O.pu (Pu.assign .int) ?_
  refine O.nil ?_
  refine X.seq ?_
  refine X.still ?_
  refine O.pu (U.load (.tmp rfl) rfl rfl (U.whole rfl rfl)) ?_
  obtain ⟨q1,Hq1,h⟩:=Option.bind_eq_some_iff.1 h
  refine O.pu (U.call (ss:=[]) (.cons (.tmp (v:=.agg _) rfl) .nil) (.cons (.cl (.aggL (.cons .int (.cons .int (.cons .int .nil))))) .nil) (chattelref09_Right.cs Hq1) (.inl rfl) (.bool)) ?_
  refine O.pu (Pu.assign (.tmp (v:=.bool _) rfl)) ?_
  refine O.nil ?_
  refine X.seq ?_
  refine X.still ?_
  refine O.pu (U.load (.tmp rfl) rfl rfl (U.whole rfl rfl)) ?_
  obtain ⟨q2,Hq2,h⟩:=Option.bind_eq_some_iff.1 h
  refine O.pu (U.call (ss:=[]) (.cons (.tmp (v:=.agg _) rfl) .nil) (.cons (.cl (.aggL (.cons .int (.cons .int (.cons .int .nil))))) .nil) (chattelref09_Right.cs Hq2) (.inl rfl) (.bool)) ?_
  refine O.pu (Pu.assign (.tmp (v:=.bool _) rfl)) ?_
  refine O.nil ?_
  refine X.seq ?_
  refine X.seq ?_
  refine X.still ?_
  refine O.pu (Pu.move (.tmp (v:=.bool _) rfl)) ?_
  refine O.pu (Pu.un (.tmp rfl) .not) ?_
  refine O.pu (Pu.move (.tmp (v:=.bool _) rfl)) ?_
  refine O.splitNot (fun c=>?_) (fun c=>?_)
  · rw [if_neg (bf c)] at h
    refine G.skip (W.f rfl rfl rfl) ?_
    refine G.skip (W.f rfl rfl rfl) ?_
    refine O.pu (Pu.pickT (.tmp rfl) .bool) ?_
    refine O.nil ?_
    repeat (rw [chattelref12_Parts.j0_e] at h;obtain ⟨k,_,h⟩:=h;unfold chattelref12_Parts.j0 at h;try dsimp only at h)
    rw [if_pos rfl] at h
    refine X.condT (.tmp rfl) ?_
    refine X.seq ?_
    refine X.still ?_
    refine O.pu (Pu.assign .nilV) ?_
    refine O.pu (Pu.assign .int) ?_
    refine O.nil ?_
    refine X.ret ?_
    cases h
    exact E.fin [] (.tmp (v:=.fv _) rfl (.tmp (v:=.int _ _) rfl .nil)) (.cons (.cl (.fv ClL.nil)) (.cons (.cl .int) .nil))
  · rw [if_pos c] at h
    refine G.pu (W.t rfl rfl) (Pu.move (.tmp (v:=.bool _) rfl)) ?_
    refine G.pu (W.t rfl rfl) (Pu.un (.tmp rfl) .not) ?_
    refine O.pu (Pu.pickF (.tmp rfl) (.tmp (v:=.bool _) rfl)) ?_
    refine O.nil ?_
    repeat (rw [chattelref12_Parts.j0_e] at h;obtain ⟨k,_,h⟩:=h;unfold chattelref12_Parts.j0 at h;try dsimp only at h)
    refine X.condNot (.tmp rfl) (fun c=>?_) (fun c=>?_)
    · rw [if_pos (nt c)] at h
      refine X.seq ?_
      refine X.still ?_
      refine O.pu (Pu.assign .nilV) ?_
      refine O.pu (Pu.assign .int) ?_
      refine O.nil ?_
      refine X.ret ?_
      cases h
      exact E.fin [] (.tmp (v:=.fv _) rfl (.tmp (v:=.int _ _) rfl .nil)) (.cons (.cl (.fv ClL.nil)) (.cons (.cl .int) .nil))
    · rw [if_neg (nf c)] at h
      refine X.skip ?_
      refine X.seq ?_
      refine X.seq ?_
      refine X.still ?_
      refine O.pu (Pu.assign .int) ?_
      refine O.nil ?_
      refine X.block ?_
      refine X.inv (fun k s=>∃ x2 x10 x935000 x935001 x935002 x936000 x936001 x936002 u3 u4,s.t 2 = .fv (List.map en28 x2)∧s.t 10 = .int .i64 x10∧s.t 3 = .op 3 u3 0 0∧s.b 3=⟨u3, .own, .vals [.agg [.int .i64 x935000, .int .i64 x935001, .int .i64 x935002]],28⟩∧s.t 4 = .op 4 u4 0 0∧s.b 4=⟨u4, .own, .vals [.agg [.int .i64 x936000, .int .i64 x936001, .int .i64 x936002]],28⟩∧chattelref12_Parts.l0 k x2 x10 x935000 x935001 x935002 x936000 x936001 x936002=some r) ?_ ?_ ⟨_,_,_,_,_,_,_,_,_,_,rfl,rfl,rfl,rfl,rfl,rfl,h⟩
      · rintro s ⟨_,_,_,_,_,_,_,_,_,_,_,_,_,_,_,_,h⟩;unfold chattelref12_Parts.l0 at h;cases h
      · rintro k1 s1 ⟨x2,x10,x935000,x935001,x935002,x936000,x936001,x936002,u3,u4,e0,e1,e2,e3,e4,e5,h⟩
        unfold chattelref12_Parts.l0 at h
        rw [St.fixT e0,St.fixT e1,St.fixT e2,St.fixB e3,St.fixT e4,St.fixB e5]
        refine X.seq ?_
        refine X.seq ?_
        refine X.still ?_
        refine O.pu (Pu.move (.tmp (v:=.int _ _) rfl)) ?_
        refine O.pu (Pu.move (.tmp (v:=.fv _) rfl)) ?_
        refine O.pu (U.lenS rfl (.tmp rfl)) ?_
        refine O.pu (Pu.bin (.tmp rfl) (.tmp rfl) .lss) ?_
        refine O.nil ?_
        refine X.condP (.tmp rfl) (fun c=>?_) (fun c=>?_)
        · rw [if_pos c] at h
          refine X.skip ?_
          refine X.seq ?_
          refine X.block ?_
          refine X.seq ?_
          refine X.still ?_
          refine O.pu (Pu.move (.tmp (v:=.fv _) rfl)) ?_
          refine O.pu (Pu.move (.tmp (v:=.int _ _) rfl)) ?_
          repeat (rw [giff] at h;obtain ⟨_,h⟩:=h)
          refine O.pu (U.rdVS z28 rfl (fun _=>⟨rfl,rfl⟩) (.tmp rfl) (.tmp rfl) (by omega) (by omega)) ?_
          refine O.pu (Pu.loadR (.tmp rfl) (U.whole rfl rfl)) ?_
          obtain ⟨q3,Hq3,h⟩:=Option.bind_eq_some_iff.1 h
          refine O.pu (U.call (ss:=[]) (.cons (.tmp (v:=.agg _) rfl) .nil) (.cons (.cl (.aggL (.cons .int (.cons .int (.cons .int .nil))))) .nil) (chattelref09_Right.cs Hq3) (.inl rfl) (.bool)) ?_
          refine O.pu (Pu.assign (.tmp (v:=.bool _) rfl)) ?_
          refine O.nil ?_
          refine X.seq ?_
          refine X.still ?_
          refine O.pu (Pu.move (.tmp (v:=.bool _) rfl)) ?_
          refine O.pu (Pu.un (.tmp rfl) .not) ?_
          refine O.nil ?_
          refine X.condNot (.tmp rfl) (fun c=>?_) (fun c=>?_)
          · rw [if_neg (bf c)] at h
            refine X.seq ?_
            refine X.still ?_
            refine O.pu (Pu.assign .nilV) ?_
            refine O.pu (Pu.assign .int) ?_
            refine O.nil ?_
            refine X.ret ?_
            cases h
            exact E.fin [] (.tmp (v:=.fv _) rfl (.tmp (v:=.int _ _) rfl .nil)) (.cons (.cl (.fv ClL.nil)) (.cons (.cl .int) .nil))
          · rw [if_pos c] at h
            refine X.skip ?_
            refine X.still ?_
            refine O.pu (Pu.move (.tmp (v:=.int _ _) rfl)) ?_
            refine O.pu (Pu.bin (.tmp rfl) .int U.add64) ?_
            refine O.pu (Pu.assign (.tmp (v:=.int _ _) rfl)) ?_
            refine O.nil ?_
            exact ⟨_,(by omega),_,_,_,_,_,_,_,_,_,_,rfl,rfl,rfl,rfl,rfl,rfl,h⟩
        · rw [if_neg c] at h
          refine X.exit (B.out ?_)
          refine X.seq ?_
          refine X.still ?_
          refine O.pu (U.load (.tmp rfl) rfl rfl (U.whole rfl rfl)) ?_
          refine O.pu (U.load (.tmp rfl) rfl rfl (U.whole rfl rfl)) ?_
          obtain ⟨q4,Hq4,h⟩:=Option.bind_eq_some_iff.1 h
          refine O.pu (U.call (ss:=[]) (.cons (.tmp (v:=.agg _) rfl) (.cons (.tmp (v:=.agg _) rfl) .nil)) (.cons (.cl (.aggL (.cons .int (.cons .int (.cons .int .nil))))) (.cons (.cl (.aggL (.cons .int (.cons .int (.cons .int .nil))))) .nil)) (chattelref09_Cmp.cs Hq4) (.inl rfl) (.int)) ?_
          refine O.pu (Pu.assign (.tmp (v:=.int _ _) rfl)) ?_
          refine O.nil ?_
          refine X.seq ?_
          refine X.seq ?_
          refine X.still ?_
          refine O.pu (Pu.move (.tmp (v:=.int _ _) rfl)) ?_
          refine O.pu (Pu.bin (.tmp rfl) .int .gtr) ?_
          refine O.nil ?_
          refine X.condP (.tmp rfl) (fun c=>?_) (fun c=>?_)
          · rw [if_pos c] at h
            refine X.seq ?_
            refine X.still ?_
            refine O.pu (Pu.assign .nilV) ?_
            refine O.pu (Pu.assign .int) ?_
            refine O.nil ?_
            refine X.ret ?_
            cases h
            exact E.fin [] (.tmp (v:=.fv _) rfl (.tmp (v:=.int _ _) rfl .nil)) (.cons (.cl (.fv ClL.nil)) (.cons (.cl .int) .nil))
          · rw [if_neg c] at h
            refine X.skip ?_
            refine X.seq ?_
            refine X.still ?_
            refine O.ef (U.nilOE (u:=(s1.b 13).ver + 1) (row:=.vals (List.map en91 [])) (e:=91) rfl rfl) ?_
            refine O.nil ?_
            refine X.seq ?_
            refine X.block ?_
            refine X.inv (fun k s=>k≤k1∧∃ x2 x12 x13 x935000 x935001 x935002 x936000 x936001 x936002 n13 u13 u3 u4,s.t 2 = .fv (List.map en28 x2)∧s.t 12 = .int .i64 x12∧s.b 13=⟨u13, .own, .vals (List.map en91 x13),91⟩∧s.t 13 = .os 13 u13 0 n13 true∧x13.length=n13∧s.t 3 = .op 3 u3 0 0∧s.b 3=⟨u3, .own, .vals [.agg [.int .i64 x935000, .int .i64 x935001, .int .i64 x935002]],28⟩∧s.t 4 = .op 4 u4 0 0∧s.b 4=⟨u4, .own, .vals [.agg [.int .i64 x936000, .int .i64 x936001, .int .i64 x936002]],28⟩∧chattelref12_Parts.l1 k x2 x12 x13 x935000 x935001 x935002 x936000 x936001 x936002=some r) ?_ ?_ ⟨(by omega),_,_,_,_,_,_,_,_,_,_,_,_,_,rfl,rfl,rfl,rfl,(by first|rfl|(simp only [List.length_set];done)|(simp only [List.length_drop,List.length_take,List.length_append,List.length_set] at *;omega)),rfl,rfl,rfl,rfl,h⟩
            · rintro s ⟨_,_,_,_,_,_,_,_,_,_,_,_,_,_,_,_,_,_,_,_,_,_,_,h⟩;unfold chattelref12_Parts.l1 at h;cases h
            · rintro k2 s2 ⟨kl2,x2,x12,x13,x935000,x935001,x935002,x936000,x936001,x936002,n13,u13,u3,u4,e0,e1,e2,e3,rfl,e5,e6,e7,e8,h⟩
              unfold chattelref12_Parts.l1 at h
              rw [St.fixT e0,St.fixT e1,St.fixB e2,St.fixT e3,St.fixT e5,St.fixB e6,St.fixT e7,St.fixB e8]
              refine X.seq ?_
              refine X.seq ?_
              refine X.still ?_
              refine O.pu (Pu.move (.tmp (v:=.int _ _) rfl)) ?_
              refine O.pu (Pu.bin (.tmp rfl) .int .lss) ?_
              refine O.nil ?_
              refine X.condP (.tmp rfl) (fun c=>?_) (fun c=>?_)
              · rw [if_pos c] at h
                refine X.skip ?_
                refine X.block ?_
                refine X.seq ?_
                refine X.still ?_
                refine O.pu (U.load (.tmp rfl) rfl rfl (U.whole rfl rfl)) ?_
                refine O.puE (v':=.op 14 ((s2.b 14).ver + 1) 0 0) (b':=⟨(s2.b 14).ver + 1, .own,(.vals [.agg [.int .i64 0, .int .i64 0, .int .i64 0]]),_⟩) Pu.alloc rfl rfl ?_
                refine O.ef0 (U.storeE (.tmp rfl) rfl rfl (.tmp (v:=.agg _) rfl) rfl rfl (.whole (notBad_ne rfl) rfl) .one) ?_
                refine O.nil ?_
                refine X.seq ?_
                refine X.seq ?_
                refine X.still ?_
                refine O.pu (Pu.assign .int) ?_
                refine O.nil ?_
                refine X.block ?_
                refine X.inv (fun k s=>k≤k2∧∃ x2 x13 x15 x935000 x935001 x935002 x936000 x936001 x936002 x942000 x942001 x942002 n13 u13 u14 u3 u4,s.t 2 = .fv (List.map en28 x2)∧s.b 13=⟨u13, .own, .vals (List.map en91 x13),91⟩∧s.t 13 = .os 13 u13 0 n13 true∧x13.length=n13∧s.t 15 = .int .i64 x15∧s.t 3 = .op 3 u3 0 0∧s.b 3=⟨u3, .own, .vals [.agg [.int .i64 x935000, .int .i64 x935001, .int .i64 x935002]],28⟩∧s.t 4 = .op 4 u4 0 0∧s.b 4=⟨u4, .own, .vals [.agg [.int .i64 x936000, .int .i64 x936001, .int .i64 x936002]],28⟩∧s.t 14 = .op 14 u14 0 0∧s.b 14=⟨u14, .own, .vals [.agg [.int .i64 x942000, .int .i64 x942001, .int .i64 x942002]],28⟩∧chattelref12_Parts.l2 k x2 x13 x15 x935000 x935001 x935002 x936000 x936001 x936002 x942000 x942001 x942002=some r) ?_ ?_ ⟨(by omega),_,_,_,_,_,_,_,_,_,_,_,_,_,_,_,_,_,rfl,rfl,rfl,(by first|rfl|(simp only [List.length_set];done)|(simp only [List.length_drop,List.length_take,List.length_append,List.length_set] at *;omega)),rfl,rfl,rfl,rfl,rfl,rfl,rfl,h⟩
                · rintro s ⟨_,_,_,_,_,_,_,_,_,_,_,_,_,_,_,_,_,_,_,_,_,_,_,_,_,_,_,_,_,h⟩;unfold chattelref12_Parts.l2 at h;cases h
                · rintro k3 s3 ⟨kl3,x2,x13,x15,x935000,x935001,x935002,x936000,x936001,x936002,x942000,x942001,x942002,n13,u13,u14,u3,u4,e0,e1,e2,rfl,e4,e5,e6,e7,e8,e9,e10,h⟩
                  unfold chattelref12_Parts.l2 at h
                  rw [St.fixT e0,St.fixB e1,St.fixT e2,St.fixT e4,St.fixT e5,St.fixB e6,St.fixT e7,St.fixB e8,St.fixT e9,St.fixB e10]
                  refine X.seq ?_
                  refine X.seq ?_
                  refine X.still ?_
                  refine O.pu (Pu.move (.tmp (v:=.int _ _) rfl)) ?_
                  refine O.pu (Pu.move (.tmp (v:=.fv _) rfl)) ?_
                  refine O.pu (U.lenS rfl (.tmp rfl)) ?_
                  refine O.pu (Pu.bin (.tmp rfl) (.tmp rfl) .lss) ?_
                  refine O.nil ?_
                  refine X.condP (.tmp rfl) (fun c=>?_) (fun c=>?_)
                  · rw [if_pos c] at h
                    refine X.skip ?_
                    refine X.seq ?_
                    refine X.block ?_
                    refine X.seq ?_
                    refine X.drawn ?_
                    refine D.pu (U.load (.tmp rfl) rfl rfl (U.whole rfl rfl)) ?_
                    refine D.pu (Pu.move (.tmp (v:=.fv _) rfl)) ?_
                    refine D.pu (Pu.move (.tmp (v:=.int _ _) rfl)) ?_
                    repeat (rw [giff] at h;obtain ⟨_,h⟩:=h)
                    refine D.pu (U.rdVS z28 rfl (fun _=>⟨rfl,rfl⟩) (.tmp rfl) (.tmp rfl) (by omega) (by omega)) ?_
                    refine D.pu (Pu.loadR (.tmp rfl) (U.whole rfl rfl)) ?_
                    obtain ⟨q5,Hq5,h⟩:=Option.bind_eq_some_iff.1 h
                    refine D.pu (U.call (ss:=[]) (.cons (.tmp (v:=.agg _) rfl) (.cons (.tmp (v:=.agg _) rfl) .nil)) (.cons (.cl (.aggL (.cons .int (.cons .int (.cons .int .nil))))) (.cons (.cl (.aggL (.cons .int (.cons .int (.cons .int .nil))))) .nil)) (chattelref09_Cmp.cs Hq5) (.inl rfl) (.int)) ?_
                    refine D.pu (Pu.assign (.tmp (v:=.int _ _) rfl)) ?_
                    refine D.nil (by kernel_rfl) ?_
                    refine X.seq ?_
                    refine X.drawn ?_
                    refine D.pu (Pu.move (.tmp (v:=.fv _) rfl)) ?_
                    refine D.pu (Pu.move (.tmp (v:=.int _ _) rfl)) ?_
                    refine D.pu (U.rdVS z28 rfl (fun _=>⟨rfl,rfl⟩) (.tmp rfl) (.tmp rfl) (by omega) (by omega)) ?_
                    refine D.pu (Pu.loadR (.tmp rfl) (U.whole rfl rfl)) ?_
                    refine D.pu (U.load (.tmp rfl) rfl rfl (U.whole rfl rfl)) ?_
                    obtain ⟨q6,Hq6,h⟩:=Option.bind_eq_some_iff.1 h
                    refine D.pu (U.call (ss:=[]) (.cons (.tmp (v:=.agg _) rfl) (.cons (.tmp (v:=.agg _) rfl) .nil)) (.cons (.cl (.aggL (.cons .int (.cons .int (.cons .int .nil))))) (.cons (.cl (.aggL (.cons .int (.cons .int (.cons .int .nil))))) .nil)) (chattelref09_Cmp.cs Hq6) (.inl rfl) (.int)) ?_
                    refine D.pu (Pu.assign (.tmp (v:=.int _ _) rfl)) ?_
                    refine D.nil (by kernel_rfl) ?_
                    refine X.seq ?_
                    refine X.still ?_
                    refine O.pu (Pu.move (.tmp (v:=.int _ _) rfl)) ?_
                    refine O.pu (Pu.bin (.tmp rfl) .int .lss) ?_
                    refine O.pu (Pu.move (.tmp (v:=.bool _) rfl)) ?_
                    refine O.splitP (fun c=>?_) (fun c=>?_)
                    · rw [if_pos c] at h
                      refine G.pu (W.t rfl rfl) (Pu.move (.tmp (v:=.int _ _) rfl)) ?_
                      refine G.pu (W.t rfl rfl) (Pu.bin (.tmp rfl) .int .lss) ?_
                      refine O.pu (Pu.pickT (.tmp rfl) (.tmp (v:=.bool _) rfl)) ?_
                      refine O.nil ?_
                      refine X.condP (.tmp rfl) (fun c=>?_) (fun c=>?_)
                      · rw [if_pos c] at h
                        refine X.still ?_
                        refine O.pu (Pu.move (.tmp (v:=.fv _) rfl)) ?_
                        refine O.pu (Pu.move (.tmp (v:=.int _ _) rfl)) ?_
                        refine O.pu (U.rdVS z28 rfl (fun _=>⟨rfl,rfl⟩) (.tmp rfl) (.tmp rfl) (by omega) (by omega)) ?_
                        refine O.pu (Pu.loadR (.tmp rfl) (U.whole rfl rfl)) ?_
                        refine O.ef0 (U.storeE (.tmp rfl) rfl rfl (.tmp (v:=.agg _) rfl) rfl rfl (.whole (notBad_ne rfl) rfl) .one) ?_
                        refine O.nil ?_
                        refine X.still ?_
                        refine O.pu (Pu.move (.tmp (v:=.int _ _) rfl)) ?_
                        refine O.pu (Pu.bin (.tmp rfl) .int U.add64) ?_
                        refine O.pu (Pu.assign (.tmp (v:=.int _ _) rfl)) ?_
                        refine O.nil ?_
                        exact ⟨_,(by omega),(by omega),_,_,_,_,_,_,_,_,_,_,_,_,_,_,_,_,_,rfl,rfl,rfl,(by first|rfl|(simp only [List.length_set];done)|(simp only [List.length_drop,List.length_take,List.length_append,List.length_set] at *;omega)),rfl,rfl,rfl,rfl,rfl,rfl,rfl,h⟩
                      · rw [if_neg c] at h
                        refine X.skip ?_
                        refine X.still ?_
                        refine O.pu (Pu.move (.tmp (v:=.int _ _) rfl)) ?_
                        refine O.pu (Pu.bin (.tmp rfl) .int U.add64) ?_
                        refine O.pu (Pu.assign (.tmp (v:=.int _ _) rfl)) ?_
                        refine O.nil ?_
                        exact ⟨_,(by omega),(by omega),_,_,_,_,_,_,_,_,_,_,_,_,_,_,_,_,_,rfl,rfl,rfl,(by first|rfl|(simp only [List.length_set];done)|(simp only [List.length_drop,List.length_take,List.length_append,List.length_set] at *;omega)),rfl,rfl,rfl,rfl,rfl,rfl,rfl,h⟩
                    · rw [if_neg c] at h
                      refine G.skip (W.f rfl rfl rfl) ?_
                      refine G.skip (W.f rfl rfl rfl) ?_
                      refine O.pu (Pu.pickF (.tmp rfl) .bool) ?_
                      refine O.nil ?_
                      refine X.condF (.tmp rfl) ?_
                      refine X.skip ?_
                      refine X.still ?_
                      refine O.pu (Pu.move (.tmp (v:=.int _ _) rfl)) ?_
                      refine O.pu (Pu.bin (.tmp rfl) .int U.add64) ?_
                      refine O.pu (Pu.assign (.tmp (v:=.int _ _) rfl)) ?_
                      refine O.nil ?_
                      exact ⟨_,(by omega),(by omega),_,_,_,_,_,_,_,_,_,_,_,_,_,_,_,_,_,rfl,rfl,rfl,(by first|rfl|(simp only [List.length_set];done)|(simp only [List.length_drop,List.length_take,List.length_append,List.length_set] at *;omega)),rfl,rfl,rfl,rfl,rfl,rfl,rfl,h⟩
                  · rw [if_neg c] at h
                    refine X.exit (B.out ?_)
                    refine X.seq ?_
                    refine X.still ?_
                    refine O.pu (Pu.move (.tmp (v:=.os _ _ _ _ _) rfl)) ?_
                    refine O.pu (U.load (.tmp rfl) rfl rfl (U.whole rfl rfl)) ?_
                    refine O.pu (U.load (.tmp rfl) rfl rfl (U.whole rfl rfl)) ?_
                    refine O.pu (Pu.build rfl (.cons (.tmp (v:=.agg _) rfl) rfl rfl rfl (.put (.put (.put .done))) (.cons (.tmp (v:=.agg _) rfl) rfl rfl rfl (.skip (.skip (.skip (.put (.put (.put .done)))))) .nil))) ?_
                    refine O.puE (v':=.os 81 ((s3.b 81).ver + 1) 0 _ true) (b':=⟨(s3.b 81).ver + 1, .own,_,_⟩) (U.litS (en:=en91) (l:=[⟨⟨_,_,_⟩,⟨_,_,_⟩⟩]) rfl (.cons (.tmp (v:=.agg _) rfl) rfl .nil) rfl rfl rfl (fun _=>rfl)) rfl rfl ?_
                    repeat (rw [giff] at h;obtain ⟨_,h⟩:=h)
                    refine O.ef (U.appendSE (en:=en91) (u':=(s3.b 82).ver + 1) rfl (.tmp rfl) rfl (by first|rfl|(simp only [List.length_append,List.length_cons,List.length_nil] at *;omega)) (.tmp rfl) (.osVf (List.mem_singleton.2 rfl) rfl (Mode.live_ne rfl) rfl (ClL.map fun _=>.aggL (.cons .int (.cons .int (.cons .int (.cons .int (.cons .int (.cons .int .nil))))))) (by simp)) rfl (fun _=>⟨rfl,rfl⟩) (by simp only [maxLen,List.length_cons,List.length_nil];omega) (by simp only [List.length_cons,List.length_nil];omega) rfl) ?_
                    refine O.ef (U.takeE (u':=u13 + 1) (.tmp rfl) rfl (ne_of_beq rfl) rfl) ?_
                    refine O.nil ?_
                    refine X.seq ?_
                    refine X.still ?_
                    refine O.pu (U.load (.tmp rfl) rfl rfl (U.whole rfl rfl)) ?_
                    refine O.ef0 (U.storeE (.tmp rfl) rfl rfl (.tmp (v:=.agg _) rfl) rfl rfl (.whole (notBad_ne rfl) rfl) .one) ?_
                    refine O.nil ?_
                    refine X.still ?_
                    refine O.pu (U.load (.tmp rfl) rfl rfl (U.whole rfl rfl)) ?_
                    refine O.pu (U.load (.tmp rfl) rfl rfl (U.whole rfl rfl)) ?_
                    obtain ⟨q7,Hq7,h⟩:=Option.bind_eq_some_iff.1 h
                    refine O.pu (U.call (ss:=[]) (.cons (.tmp (v:=.agg _) rfl) (.cons (.tmp (v:=.agg _) rfl) .nil)) (.cons (.cl (.aggL (.cons .int (.cons .int (.cons .int .nil))))) (.cons (.cl (.aggL (.cons .int (.cons .int (.cons .int .nil))))) .nil)) (chattelref09_Cmp.cs Hq7) (.inl rfl) (.int)) ?_
                    refine O.pu (Pu.assign (.tmp (v:=.int _ _) rfl)) ?_
                    refine O.nil ?_
                    exact ⟨_,(by omega),(by omega),_,_,_,_,_,_,_,_,_,_,_,_,_,rfl,rfl,rfl,rfl,(by first|rfl|(simp only [List.length_set];done)|(simp only [List.length_drop,List.length_take,List.length_append,List.length_set] at *;omega)),rfl,rfl,rfl,rfl,h⟩
              · rw [if_neg c] at h
                refine X.exit (B.out ?_)
                refine X.seq ?_
                refine X.still ?_
                refine O.pu (Pu.move (.tmp (v:=.os _ _ _ _ _) rfl)) ?_
                refine O.pu (Pu.assign (.tmp (v:=.os _ _ _ _ _) rfl)) ?_
                refine O.pu (Pu.assign .int) ?_
                refine O.nil ?_
                refine X.ret ?_
                cases h
                exact E.fin [13] (.tmp (v:=.os _ _ _ _ _) rfl (.tmp (v:=.int _ _) rfl .nil)) (.cons (.osVf (by simp) rfl (Mode.live_ne rfl) rfl (ClL.map fun _=>.aggL (.cons .int (.cons .int (.cons .int (.cons .int (.cons .int (.cons .int .nil))))))) (by first|rfl|(simp only [List.length_map,List.length_append,List.length_cons,List.length_nil] at *;done)|(simp only [List.length_map,List.length_append,List.length_cons,List.length_nil] at *;omega))) (.cons (.cl .int) .nil))
theorem chattellaw12_parts.j0_e {k y0 y1 y2 r}:(chattellaw12_parts.j0 k y0 y1 y2=some r) = ∃ j,k=j + 1∧chattellaw12_parts.j0 (j + 1) y0 y1 y2=some r:=propext ⟨fun h=>by cases k with|zero=>(unfold chattellaw12_parts.j0 at h;cases h)|succ k=>exact ⟨k,rfl,h⟩,fun ⟨j,hj,h⟩=>by subst hj;exact h⟩
noncomputable def c10:Code:=Tryz.f10.body.getD .skip
theorem fn10:FnOk Tryz.prog 10 Tryz.f10 c10:=⟨Tryz.func10,rfl,by kernel_rfl,by kernel_rfl,mixed⟩
theorem chattellaw12_parts.cs {k:Nat} {a0_0:Int} {a0_1:Int} {a0_2:Int} {a1_0:Int} {a1_1:Int} {a1_2:Int} {l2:List (S28)} {r:Bool} (h:chattellaw12_parts.f k a0_0 a0_1 a0_2 a1_0 a1_1 a1_2 l2=some r):CS Tryz.prog 10 [.agg [.int .i64 a0_0, .int .i64 a0_1, .int .i64 a0_2], .agg [.int .i64 a1_0, .int .i64 a1_1, .int .i64 a1_2], .fv (List.map en28 l2)] .no [.bool r]:=by
  unfold chattellaw12_parts.f at h
  refine E.pure fn10 rfl ?_
  refine X.seq ?_
  refine X.still ?_
  refine O.puE (v':=.op 3 (1) 0 0) (b':=⟨1, .own,_,_⟩) (Pu.box (.tmp (v:=.agg _) rfl) rfl rfl) rfl rfl ?_
  refine O.puE (v':=.op 4 (1) 0 0) (b':=⟨1, .own,_,_⟩) (Pu.box (.tmp (v:=.agg _) rfl) rfl rfl) rfl rfl ?_
  refine O.pu (Pu.assign .bool) ?_
  refine O.nil ?_
  refine X.seq ?_
  refine X.still ?_
  refine O.pu (U.load (.tmp rfl) rfl rfl (U.whole rfl rfl)) ?_
  refine O.pu (U.load (.tmp rfl) rfl rfl (U.whole rfl rfl)) ?_
  refine O.pu (Pu.move (.tmp (v:=.fv _) rfl)) ?_
  obtain ⟨q1,Hq1,h⟩:=Option.bind_eq_some_iff.1 h
  refine O.pu (U.call (ss:=[]) (.cons (.tmp (v:=.agg _) rfl) (.cons (.tmp (v:=.agg _) rfl) (.cons (.tmp (v:=.fv _) rfl) .nil))) (.cons (.cl (.aggL (.cons .int (.cons .int (.cons .int .nil))))) (.cons (.cl (.aggL (.cons .int (.cons .int (.cons .int .nil))))) (.cons (.cl (.fv (ClL.map fun _=>.aggL (.cons .int (.cons .int (.cons .int .nil)))))) .nil))) (split_Parts.cs Hq1) (.inl rfl) (.tupL (.cons (.fv (ClL.map fun _=>.aggL (.cons .int (.cons .int (.cons .int (.cons .int (.cons .int (.cons .int .nil)))))))) (.cons .int .nil)))) ?_
  refine O.pu (Pu.move (.tmp (v:=.tup _) rfl)) ?_
  refine O.pu (Pu.extract (.tmp rfl) rfl) ?_
  refine O.pu (Pu.extract (.tmp rfl) rfl) ?_
  refine O.pu (Pu.assign (.tmp (v:=.fv _) rfl)) ?_
  refine O.pu (Pu.assign (.tmp (v:=.int _ _) rfl)) ?_
  refine O.nil ?_
  refine X.seq ?_
  refine X.still ?_
  refine O.pu (U.load (.tmp rfl) rfl rfl (U.whole rfl rfl)) ?_
  refine O.pu (U.load (.tmp rfl) rfl rfl (U.whole rfl rfl)) ?_
  refine O.pu (Pu.move (.tmp (v:=.fv _) rfl)) ?_
  obtain ⟨q2,Hq2,h⟩:=Option.bind_eq_some_iff.1 h
  refine O.pu (U.call (ss:=[]) (.cons (.tmp (v:=.agg _) rfl) (.cons (.tmp (v:=.agg _) rfl) (.cons (.tmp (v:=.fv _) rfl) .nil))) (.cons (.cl (.aggL (.cons .int (.cons .int (.cons .int .nil))))) (.cons (.cl (.aggL (.cons .int (.cons .int (.cons .int .nil))))) (.cons (.cl (.fv (ClL.map fun _=>.aggL (.cons .int (.cons .int (.cons .int .nil)))))) .nil))) (chattelref12_Parts.cs Hq2) (.inl rfl) (.tupL (.cons (.fv (ClL.map fun _=>.aggL (.cons .int (.cons .int (.cons .int (.cons .int (.cons .int (.cons .int .nil)))))))) (.cons .int .nil)))) ?_
  refine O.pu (Pu.move (.tmp (v:=.tup _) rfl)) ?_
  refine O.pu (Pu.extract (.tmp rfl) rfl) ?_
  refine O.pu (Pu.extract (.tmp rfl) rfl) ?_
  refine O.pu (Pu.assign (.tmp (v:=.fv _) rfl)) ?_
  refine O.pu (Pu.assign (.tmp (v:=.int _ _) rfl)) ?_
  refine O.nil ?_
  refine X.seq ?_
  refine X.seq ?_
  refine X.still ?_
  refine O.pu (Pu.move (.tmp (v:=.int _ _) rfl)) ?_
  refine O.pu (Pu.move (.tmp (v:=.int _ _) rfl)) ?_
  refine O.pu (Pu.bin (.tmp rfl) (.tmp rfl) .neq) ?_
  refine O.pu (Pu.move (.tmp (v:=.bool _) rfl)) ?_
  refine O.splitN (fun c=>?_) (fun c=>?_)
  · rw [if_neg c] at h
    refine G.skip (W.f rfl rfl rfl) ?_
    refine G.skip (W.f rfl rfl rfl) ?_
    refine G.skip (W.f rfl rfl rfl) ?_
    refine G.skip (W.f rfl rfl rfl) ?_
    refine G.skip (W.f rfl rfl rfl) ?_
    refine O.pu (Pu.pickT (.tmp rfl) .bool) ?_
    refine O.nil ?_
    repeat (rw [chattellaw12_parts.j0_e] at h;obtain ⟨k,_,h⟩:=h;unfold chattellaw12_parts.j0 at h;try dsimp only at h)
    rw [if_pos rfl] at h
    refine X.condT (.tmp rfl) ?_
    refine X.seq ?_
    refine X.still ?_
    refine O.pu (Pu.assign .bool) ?_
    refine O.nil ?_
    refine X.ret ?_
    cases h
    exact E.fin [] (.tmp (v:=.bool _) rfl .nil) (.cons (.cl .bool) .nil)
  · rw [if_pos c] at h
    refine G.pu (W.t rfl rfl) (Pu.move (.tmp (v:=.fv _) rfl)) ?_
    refine G.pu (W.t rfl rfl) (U.lenS rfl (.tmp rfl)) ?_
    refine G.pu (W.t rfl rfl) (Pu.move (.tmp (v:=.fv _) rfl)) ?_
    refine G.pu (W.t rfl rfl) (U.lenS rfl (.tmp rfl)) ?_
    refine G.pu (W.t rfl rfl) (Pu.bin (.tmp rfl) (.tmp rfl) .neq) ?_
    refine O.pu (Pu.pickF (.tmp rfl) (.tmp (v:=.bool _) rfl)) ?_
    refine O.nil ?_
    repeat (rw [chattellaw12_parts.j0_e] at h;obtain ⟨k,_,h⟩:=h;unfold chattellaw12_parts.j0 at h;try dsimp only at h)
    refine X.condN (.tmp rfl) (fun c=>?_) (fun c=>?_)
    · rw [if_pos (ne1 c)] at h
      refine X.seq ?_
      refine X.still ?_
      refine O.pu (Pu.assign .bool) ?_
      refine O.nil ?_
      refine X.ret ?_
      cases h
      exact E.fin [] (.tmp (v:=.bool _) rfl .nil) (.cons (.cl .bool) .nil)
    · rw [if_neg (ne0 c)] at h
      refine X.skip ?_
      refine X.seq ?_
      refine X.seq ?_
      refine X.still ?_
      refine O.pu (Pu.move (.tmp (v:=.fv _) rfl)) ?_
      refine O.pu (U.lenS rfl (.tmp rfl)) ?_
      refine O.pu (Pu.move .int) ?_
      refine O.nil ?_
      refine X.block ?_
      refine X.inv (fun k s=>∃ x7 x9 x37 x38 u3 u4 z3_0 z3_1 z3_2 z4_0 z4_1 z4_2,s.t 7 = .fv (List.map en55 x7)∧s.t 9 = .fv (List.map en91 x9)∧s.t 37 = .int .i64 x37∧s.t 38 = .int .i64 x38∧s.t 3 = .op 3 u3 0 0∧s.b 3=⟨u3, .own, .vals [.agg [.int .i64 z3_0, .int .i64 z3_1, .int .i64 z3_2]],28⟩∧s.t 4 = .op 4 u4 0 0∧s.b 4=⟨u4, .own, .vals [.agg [.int .i64 z4_0, .int .i64 z4_1, .int .i64 z4_2]],28⟩∧chattellaw12_parts.l0 k x7 x9 x37 x38=some r) ?_ ?_ ⟨_,_,_,_,_,_,_,_,_,_,_,_,rfl,rfl,rfl,rfl,rfl,rfl,rfl,rfl,h⟩
      · rintro s ⟨_,_,_,_,_,_,_,_,_,_,_,_,_,_,_,_,_,_,_,_,h⟩;unfold chattellaw12_parts.l0 at h;cases h
      · rintro k1 s1 ⟨x7,x9,x37,x38,u3,u4,z3_0,z3_1,z3_2,z4_0,z4_1,z4_2,e0,e1,e2,e3,e4,e5,e6,e7,h⟩
        unfold chattellaw12_parts.l0 at h
        rw [St.fixT e0,St.fixT e1,St.fixT e2,St.fixT e3,St.fixT e4,St.fixB e5,St.fixT e6,St.fixB e7]
        refine X.seq ?_
        refine X.still ?_
        refine O.pu (Pu.bin (.tmp rfl) (.tmp rfl) .lss) ?_
        refine O.nil ?_
        refine X.seq ?_
        refine X.condP (.tmp rfl) (fun c=>?_) (fun c=>?_)
        · rw [if_pos c] at h
          refine X.skip ?_
          refine X.seq ?_
          refine X.block ?_
          refine X.seq ?_
          refine X.still ?_
          refine O.pu (Pu.move (.tmp (v:=.int _ _) rfl)) ?_
          refine O.pu (Pu.assign (.tmp (v:=.int _ _) rfl)) ?_
          refine O.nil ?_
          refine X.seq ?_
          refine X.drawn ?_
          refine D.pu (Pu.move (.tmp (v:=.fv _) rfl)) ?_
          refine D.pu (Pu.move (.tmp (v:=.int _ _) rfl)) ?_
          repeat (rw [giff] at h;obtain ⟨_,h⟩:=h)
          refine D.pu (U.rdVS z55 rfl (fun _=>⟨rfl,rfl⟩) (.tmp rfl) (.tmp rfl) (by omega) (by omega)) ?_
          refine D.pu (U.fieldR rfl rfl rfl (.tmp rfl)) ?_
          refine D.pu (Pu.loadR (.tmp rfl) (U.sub rfl (.take (.take (.take .done))))) ?_
          refine D.pu (Pu.move (.tmp (v:=.fv _) rfl)) ?_
          refine D.pu (Pu.move (.tmp (v:=.int _ _) rfl)) ?_
          refine D.pu (U.rdVS z91 rfl (fun _=>⟨rfl,rfl⟩) (.tmp rfl) (.tmp rfl) (by omega) (by omega)) ?_
          refine D.pu (U.fieldR rfl rfl rfl (.tmp rfl)) ?_
          refine D.pu (Pu.loadR (.tmp rfl) (U.sub rfl (.take (.take (.take .done))))) ?_
          refine D.pu (U.neq28 (.tmp rfl) (.tmp rfl)) ?_
          refine D.pu (Pu.move (.tmp (v:=.bool _) rfl)) ?_
          refine D.split (fun c=>?_) (fun c=>?_)
          · replace h:=iteT c h
            refine D.gskip (W.f rfl rfl rfl) ?_
            refine D.gskip (W.f rfl rfl rfl) ?_
            refine D.gskip (W.f rfl rfl rfl) ?_
            refine D.gskip (W.f rfl rfl rfl) ?_
            refine D.gskip (W.f rfl rfl rfl) ?_
            refine D.gskip (W.f rfl rfl rfl) ?_
            refine D.gskip (W.f rfl rfl rfl) ?_
            refine D.gskip (W.f rfl rfl rfl) ?_
            refine D.gskip (W.f rfl rfl rfl) ?_
            refine D.gskip (W.f rfl rfl rfl) ?_
            refine D.gskip (W.f rfl rfl rfl) ?_
            refine D.pu (Pu.pickT (.tmp rfl) .bool) ?_
            refine D.nil (by kernel_rfl) ?_
            refine X.condT (.tmp rfl) ?_
            refine X.seq ?_
            refine X.still ?_
            refine O.pu (Pu.assign .bool) ?_
            refine O.nil ?_
            refine X.ret ?_
            cases h
            exact E.fin [] (.tmp (v:=.bool _) rfl .nil) (.cons (.cl .bool) .nil)
          · replace h:=iteF c h
            refine D.gpu (W.t rfl rfl) (Pu.move (.tmp (v:=.fv _) rfl)) ?_
            refine D.gpu (W.t rfl rfl) (Pu.move (.tmp (v:=.int _ _) rfl)) ?_
            refine D.gpu (W.t rfl rfl) (U.rdVS z55 rfl (fun _=>⟨rfl,rfl⟩) (.tmp rfl) (.tmp rfl) (by omega) (by omega)) ?_
            refine D.gpu (W.t rfl rfl) (U.fieldR rfl rfl rfl (.tmp rfl)) ?_
            refine D.gpu (W.t rfl rfl) (Pu.loadR (.tmp rfl) (U.sub rfl (.skip (.skip (.skip (.take (.take (.take .done)))))))) ?_
            refine D.gpu (W.t rfl rfl) (Pu.move (.tmp (v:=.fv _) rfl)) ?_
            refine D.gpu (W.t rfl rfl) (Pu.move (.tmp (v:=.int _ _) rfl)) ?_
            refine D.gpu (W.t rfl rfl) (U.rdVS z91 rfl (fun _=>⟨rfl,rfl⟩) (.tmp rfl) (.tmp rfl) (by omega) (by omega)) ?_
            refine D.gpu (W.t rfl rfl) (U.fieldR rfl rfl rfl (.tmp rfl)) ?_
            refine D.gpu (W.t rfl rfl) (Pu.loadR (.tmp rfl) (U.sub rfl (.skip (.skip (.skip (.take (.take (.take .done)))))))) ?_
            refine D.gpu (W.t rfl rfl) (U.neq28 (.tmp rfl) (.tmp rfl)) ?_
            refine D.pu (Pu.pickF (.tmp rfl) (.tmp (v:=.bool _) rfl)) ?_
            refine D.nil (by kernel_rfl) ?_
            refine X.cond (.tmp rfl) (fun c=>?_) (fun c=>?_)
            · replace h:=iteT c h
              refine X.seq ?_
              refine X.still ?_
              refine O.pu (Pu.assign .bool) ?_
              refine O.nil ?_
              refine X.ret ?_
              cases h
              exact E.fin [] (.tmp (v:=.bool _) rfl .nil) (.cons (.cl .bool) .nil)
            · replace h:=iteF c h
              refine X.skip ?_
              refine X.still ?_
              refine O.pu (Pu.bin (.tmp rfl) .int U.add64) ?_
              refine O.pu (Pu.move (.tmp (v:=.int _ _) rfl)) ?_
              refine O.nil ?_
              exact ⟨_,(by omega),_,_,_,_,_,_,_,_,_,_,_,_,rfl,rfl,rfl,rfl,rfl,rfl,rfl,rfl,h⟩
        · rw [if_neg c] at h
          refine X.exit (B.out ?_)
          refine X.seq ?_
          refine X.still ?_
          refine O.pu (Pu.assign .bool) ?_
          refine O.nil ?_
          refine X.ret ?_
          cases h
          exact E.fin [] (.tmp (v:=.bool _) rfl .nil) (.cons (.cl .bool) .nil)
noncomputable def co3:Code:=Tryz.f3.body.getD .skip
theorem fn3:FnOk Tryz.prog 3 Tryz.f3 co3:=⟨Tryz.func3,rfl,by kernel_rfl,by kernel_rfl,mixed⟩
theorem chattellaw12_SplitTells.cs {k:Nat} {a0_0:Int} {a0_1:Int} {a0_2:Int} {a0_3:Int} {l0_4:List Int} {l0_5:List Int} {a0_6:Int} {a0_7:Int} {a0_8:Int} {a0_9:Int} {a0_10:Int} {a0_11:Int} {a0_12:Int} {l0_13:List (S28)} {r:Bool} (h:chattellaw12_SplitTells.f k a0_0 a0_1 a0_2 a0_3 l0_4 l0_5 a0_6 a0_7 a0_8 a0_9 a0_10 a0_11 a0_12 l0_13=some r):CS Tryz.prog 3 [.agg [.int .i64 a0_0, .int .i64 a0_1, .int .i64 a0_2, .int .u16 a0_3, .fi .i16 l0_4, .fi .i16 l0_5, .int .u8 a0_6, .int .i64 a0_7, .int .i64 a0_8, .int .i64 a0_9, .int .i64 a0_10, .int .i64 a0_11, .int .i64 a0_12, .fv (List.map en28 l0_13)]] .no [.bool r]:=by
  unfold chattellaw12_SplitTells.f at h
  refine E.pure fn3 rfl ?_
  refine X.seq ?_
  refine X.still ?_
  refine O.puE (v':=.op 1 (1) 0 0) (b':=⟨1, .own,_,_⟩) (Pu.box (.tmp (v:=.agg _) rfl) rfl rfl) rfl rfl ?_
  refine O.pu (Pu.assign .bool) ?_
  refine O.nil ?_
  refine X.seq ?_
  refine X.drawn ?_
  refine D.pu (U.fieldA rfl rfl rfl (.tmp rfl)) ?_
  refine D.pu (U.load (.tmp rfl) rfl rfl (U.sub rfl (.skip (.skip (.skip (.skip (.skip (.skip (.skip (.take (.take (.take .done)))))))))))) ?_
  refine D.pu (U.fieldA rfl rfl rfl (.tmp rfl)) ?_
  refine D.pu (U.load (.tmp rfl) rfl rfl (U.sub rfl (.skip (.skip (.skip (.skip (.skip (.skip (.skip (.skip (.skip (.skip (.take (.take (.take .done))))))))))))))) ?_
  refine D.pu (U.fieldA rfl rfl rfl (.tmp rfl)) ?_
  refine D.pu (U.load (.tmp rfl) rfl rfl (U.cell rfl rfl rfl)) ?_
  refine D.pu (U.fieldA rfl rfl rfl (.tmp rfl)) ?_
  refine D.pu (U.load (.tmp rfl) rfl rfl (U.cell rfl rfl rfl)) ?_
  refine D.pu (U.lenS rfl (.tmp rfl)) ?_
  refine D.pu (U.mn (.tmp rfl) .int) ?_
  repeat first|(rw [giff] at h;obtain ⟨_,h⟩:=h)|rw [bdff] at h
  refine D.pu (U.sliceHS rfl (.tmp rfl) (.yes (.tmp rfl) (by omega)) .no (by omega)) ?_
  refine D.puE (v':=.op 3 (1) 0 0) (b':=⟨1, .own,(.vals [.agg [.int .i64 0, .int .i64 0, .int .i64 0]]),_⟩) Pu.alloc rfl rfl ?_
  refine D.puE (v':=.op 4 (1) 0 0) (b':=⟨1, .own,(.vals [.agg [.int .i64 0, .int .i64 0, .int .i64 0]]),_⟩) Pu.alloc rfl rfl ?_
  refine D.ef0 (C.storeE (.tmp rfl) rfl rfl (.tmp (v:=.agg _) rfl) rfl rfl (.whole (notBad_ne rfl) rfl) .one) ?_
  refine D.ef0 (C.storeE (.tmp rfl) rfl rfl (.tmp (v:=.agg _) rfl) rfl rfl (.whole (notBad_ne rfl) rfl) .one) ?_
  refine D.pu (Pu.assign (.tmp (v:=.fv _) rfl)) ?_
  refine D.nil (by kernel_rfl) ?_
  refine X.seq ?_
  refine X.still ?_
  refine O.pu (U.fieldA rfl rfl rfl (.tmp rfl)) ?_
  refine O.pu (U.load (.tmp rfl) rfl rfl (U.sub rfl (.take (.take (.take (.take (.take (.take (.take .done))))))))) ?_
  obtain ⟨q1,Hq1,h⟩:=Option.bind_eq_some_iff.1 h
  refine O.puE (v':=.tup [_,_, .os 23 (1) 0 _ true]) (b':=⟨1, .own,_,_⟩) (U.callTV (en:=en28) (ss:=[]) [_,_] [] (.cons (.tmp (v:=.agg _) rfl) .nil) (.cons (.cl (.aggL (.cons .int (.cons .int (.cons .int (.cons .int (.cons .fi (.cons .fi (.cons .int .nil))))))))) .nil) (chattellaw12_Time_make.cs Hq1) (fun _=>.aggL (.cons .int (.cons .int (.cons .int .nil)))) (fun _=>.aggL (.cons .int (.cons .int (.cons .int .nil)))) (FlL.cons (.aggL (.cons .int (.cons .int (.cons .int .nil)))) (FlL.cons (.aggL (.cons .int (.cons .int (.cons .int .nil)))) FlL.nil)) FlL.nil) rfl rfl ?_
  refine O.pu (Pu.move (.tmp (v:=.tup _) rfl)) ?_
  refine O.pu (Pu.extract (.tmp rfl) rfl) ?_
  refine O.pu (Pu.extract (.tmp rfl) rfl) ?_
  refine O.pu (Pu.extract (.tmp rfl) rfl) ?_
  refine O.puE (v':=.op 6 (1) 0 0) (b':=⟨1, .own,(.vals [.agg [.int .i64 0, .int .i64 0, .int .i64 0]]),_⟩) Pu.alloc rfl rfl ?_
  refine O.puE (v':=.op 7 (1) 0 0) (b':=⟨1, .own,(.vals [.agg [.int .i64 0, .int .i64 0, .int .i64 0]]),_⟩) Pu.alloc rfl rfl ?_
  refine O.ef0 (U.storeE (.tmp rfl) rfl rfl (.tmp (v:=.agg _) rfl) rfl rfl (.whole (notBad_ne rfl) rfl) .one) ?_
  refine O.ef0 (U.storeE (.tmp rfl) rfl rfl (.tmp (v:=.agg _) rfl) rfl rfl (.whole (notBad_ne rfl) rfl) .one) ?_
  refine O.ef (U.takeE (u':=1) (.tmp rfl) rfl (ne_of_beq rfl) rfl) ?_
  refine O.nil ?_
  refine X.seq ?_
  refine X.drawn ?_
  obtain ⟨q2,Hq2,h⟩:=Option.bind_eq_some_iff.1 h
  refine D.pu (U.call (ss:=[]) .nil .nil (chattellaw12_wakes.cs Hq2) (.inl rfl) (.bool)) ?_
  refine D.pu (Pu.move (.tmp (v:=.bool _) rfl)) ?_
  refine D.split (fun c=>?_) (fun c=>?_)
  · rw [if_pos c] at h
    refine D.gpu (W.t rfl rfl) (U.load (.tmp rfl) rfl rfl (U.whole rfl rfl)) ?_
    refine D.gpu (W.t rfl rfl) (U.load (.tmp rfl) rfl rfl (U.whole rfl rfl)) ?_
    refine D.gpu (W.t rfl rfl) (Pu.move (.tmp (v:=.os _ _ _ _ _) rfl)) ?_
    obtain ⟨q3,Hq3,h⟩:=Option.bind_eq_some_iff.1 h
    refine D.gpu (W.t rfl rfl) (U.call (ss:=[8]) (.cons (.tmp (v:=.agg _) rfl) (.cons (.tmp (v:=.agg _) rfl) (.cons (.tmp (v:=.os _ _ _ _ _) rfl) .nil))) (.cons (.cl (.aggL (.cons .int (.cons .int (.cons .int .nil))))) (.cons (.cl (.aggL (.cons .int (.cons .int (.cons .int .nil))))) (.cons (.osVf (by simp) rfl (Mode.live_ne rfl) rfl (ClL.map fun _=>.aggL (.cons .int (.cons .int (.cons .int .nil)))) (by first|rfl|(simp only [List.length_map,List.length_append,List.length_cons,List.length_nil] at *;done)|(simp only [List.length_map,List.length_append,List.length_cons,List.length_nil] at *;omega))) .nil))) (chattellaw12_parts.cs Hq3) (.inr (.bool)) (.bool)) ?_
    refine D.pu (Pu.pickT (.tmp rfl) (.tmp (v:=.bool _) rfl)) ?_
    refine D.pu (Pu.move (.tmp (v:=.bool _) rfl)) ?_
    refine D.split (fun c=>?_) (fun c=>?_)
    · rw [if_pos c] at h
      refine D.gpu (W.t rfl rfl) (U.load (.tmp rfl) rfl rfl (U.whole rfl rfl)) ?_
      refine D.gpu (W.t rfl rfl) (U.load (.tmp rfl) rfl rfl (U.whole rfl rfl)) ?_
      refine D.gpu (W.t rfl rfl) (Pu.move (.tmp (v:=.os _ _ _ _ _) rfl)) ?_
      obtain ⟨q4,Hq4,h⟩:=Option.bind_eq_some_iff.1 h
      refine D.gpu (W.t rfl rfl) (U.call (ss:=[8]) (.cons (.tmp (v:=.agg _) rfl) (.cons (.tmp (v:=.agg _) rfl) (.cons (.tmp (v:=.os _ _ _ _ _) rfl) .nil))) (.cons (.cl (.aggL (.cons .int (.cons .int (.cons .int .nil))))) (.cons (.cl (.aggL (.cons .int (.cons .int (.cons .int .nil))))) (.cons (.osVf (by simp) rfl (Mode.live_ne rfl) rfl (ClL.map fun _=>.aggL (.cons .int (.cons .int (.cons .int .nil)))) (by first|rfl|(simp only [List.length_map,List.length_append,List.length_cons,List.length_nil] at *;done)|(simp only [List.length_map,List.length_append,List.length_cons,List.length_nil] at *;omega))) .nil))) (chattellaw12_parts.cs Hq4) (.inr (.bool)) (.bool)) ?_
      refine D.pu (Pu.pickT (.tmp rfl) (.tmp (v:=.bool _) rfl)) ?_
      refine D.pu (Pu.move (.tmp (v:=.bool _) rfl)) ?_
      refine D.split (fun c=>?_) (fun c=>?_)
      · rw [if_pos c] at h
        refine D.gpu (W.t rfl rfl) (U.load (.tmp rfl) rfl rfl (U.whole rfl rfl)) ?_
        refine D.gpu (W.t rfl rfl) (U.load (.tmp rfl) rfl rfl (U.whole rfl rfl)) ?_
        refine D.gpu (W.t rfl rfl) (Pu.move (.tmp (v:=.fv _) rfl)) ?_
        obtain ⟨q5,Hq5,h⟩:=Option.bind_eq_some_iff.1 h
        refine D.gpu (W.t rfl rfl) (U.call (ss:=[]) (.cons (.tmp (v:=.agg _) rfl) (.cons (.tmp (v:=.agg _) rfl) (.cons (.tmp (v:=.fv _) rfl) .nil))) (.cons (.cl (.aggL (.cons .int (.cons .int (.cons .int .nil))))) (.cons (.cl (.aggL (.cons .int (.cons .int (.cons .int .nil))))) (.cons (.cl (.fv (ClL.map fun _=>.aggL (.cons .int (.cons .int (.cons .int .nil)))))) .nil))) (chattellaw12_parts.cs Hq5) (.inl rfl) (.bool)) ?_
        refine D.pu (Pu.pickT (.tmp rfl) (.tmp (v:=.bool _) rfl)) ?_
        refine D.pu (Pu.move (.tmp (v:=.bool _) rfl)) ?_
        refine D.split (fun c=>?_) (fun c=>?_)
        · rw [if_pos c] at h
          refine D.gpu (W.t rfl rfl) (U.load (.tmp rfl) rfl rfl (U.whole rfl rfl)) ?_
          refine D.gpu (W.t rfl rfl) (U.load (.tmp rfl) rfl rfl (U.whole rfl rfl)) ?_
          refine D.gpu (W.t rfl rfl) (Pu.move (.tmp (v:=.os _ _ _ _ _) rfl)) ?_
          refine D.gpu (W.t rfl rfl) (Pu.move (.tmp (v:=.fv _) rfl)) ?_
          repeat (rw [giff] at h;obtain ⟨_,h⟩:=h)
          refine D.gef (W.t rfl rfl) (C.appendSE (en:=en28) (u':=1) rfl (.tmp rfl) rfl (by first|rfl|(simp only [List.length_append,List.length_cons,List.length_nil] at *;omega)) (.tmp rfl) (.cl (ss:=[]) (.fv (ClL.map fun _=>.aggL (.cons .int (.cons .int (.cons .int .nil)))))) rfl (fun _=>⟨rfl,rfl⟩) (by simp only [maxLen,List.length_cons,List.length_nil];omega) (by simp only [List.length_cons,List.length_nil];omega) rfl) ?_
          obtain ⟨q6,Hq6,h⟩:=Option.bind_eq_some_iff.1 h
          refine D.gpu (W.t rfl rfl) (U.call (ss:=[51]) (.cons (.tmp (v:=.agg _) rfl) (.cons (.tmp (v:=.agg _) rfl) (.cons (.tmp (v:=.os _ _ _ _ _) rfl) .nil))) (.cons (.cl (.aggL (.cons .int (.cons .int (.cons .int .nil))))) (.cons (.cl (.aggL (.cons .int (.cons .int (.cons .int .nil))))) (.cons (.osVf (by simp) rfl (Mode.live_ne rfl) rfl (ClL.map fun _=>.aggL (.cons .int (.cons .int (.cons .int .nil)))) (by first|rfl|(simp only [List.length_map,List.length_append,List.length_cons,List.length_nil] at *;done)|(simp only [List.length_map,List.length_append,List.length_cons,List.length_nil] at *;omega))) .nil))) (chattellaw12_parts.cs Hq6) (.inr (.bool)) (.bool)) ?_
          refine D.pu (Pu.pickT (.tmp rfl) (.tmp (v:=.bool _) rfl)) ?_
          refine D.pu (Pu.assign (.tmp (v:=.bool _) rfl)) ?_
          refine D.nil (by kernel_rfl) ?_
          refine X.ret ?_
          cases h
          exact E.fin [] (.tmp (v:=.bool _) rfl .nil) (.cons (.cl .bool) .nil)
        · rw [if_neg (bf c)] at h
          refine D.gskip (W.f rfl rfl rfl) ?_
          refine D.gskip (W.f rfl rfl rfl) ?_
          refine D.gskip (W.f rfl rfl rfl) ?_
          refine D.gskip (W.f rfl rfl rfl) ?_
          refine D.gskip (W.f rfl rfl rfl) ?_
          refine D.gskip (W.f rfl rfl rfl) ?_
          refine D.pu (Pu.pickF (.tmp rfl) .bool) ?_
          refine D.pu (Pu.assign (.tmp (v:=.bool _) rfl)) ?_
          refine D.nil (by kernel_rfl) ?_
          refine X.ret ?_
          cases h
          exact E.fin [] (.tmp (v:=.bool _) rfl .nil) (.cons (.cl .bool) .nil)
      · rw [if_neg (bf c)] at h
        refine D.gskip (W.f rfl rfl rfl) ?_
        refine D.gskip (W.f rfl rfl rfl) ?_
        refine D.gskip (W.f rfl rfl rfl) ?_
        refine D.gskip (W.f rfl rfl rfl) ?_
        refine D.pu (Pu.pickF (.tmp rfl) .bool) ?_
        refine D.pu (Pu.move (.tmp (v:=.bool _) rfl)) ?_
        refine D.gskip (W.f rfl rfl rfl) ?_
        refine D.gskip (W.f rfl rfl rfl) ?_
        refine D.gskip (W.f rfl rfl rfl) ?_
        refine D.gskip (W.f rfl rfl rfl) ?_
        refine D.gskip (W.f rfl rfl rfl) ?_
        refine D.gskip (W.f rfl rfl rfl) ?_
        refine D.pu (Pu.pickF (.tmp rfl) .bool) ?_
        refine D.pu (Pu.assign (.tmp (v:=.bool _) rfl)) ?_
        refine D.nil (by kernel_rfl) ?_
        refine X.ret ?_
        cases h
        exact E.fin [] (.tmp (v:=.bool _) rfl .nil) (.cons (.cl .bool) .nil)
    · rw [if_neg (bf c)] at h
      refine D.gskip (W.f rfl rfl rfl) ?_
      refine D.gskip (W.f rfl rfl rfl) ?_
      refine D.gskip (W.f rfl rfl rfl) ?_
      refine D.gskip (W.f rfl rfl rfl) ?_
      refine D.pu (Pu.pickF (.tmp rfl) .bool) ?_
      refine D.pu (Pu.move (.tmp (v:=.bool _) rfl)) ?_
      refine D.gskip (W.f rfl rfl rfl) ?_
      refine D.gskip (W.f rfl rfl rfl) ?_
      refine D.gskip (W.f rfl rfl rfl) ?_
      refine D.gskip (W.f rfl rfl rfl) ?_
      refine D.pu (Pu.pickF (.tmp rfl) .bool) ?_
      refine D.pu (Pu.move (.tmp (v:=.bool _) rfl)) ?_
      refine D.gskip (W.f rfl rfl rfl) ?_
      refine D.gskip (W.f rfl rfl rfl) ?_
      refine D.gskip (W.f rfl rfl rfl) ?_
      refine D.gskip (W.f rfl rfl rfl) ?_
      refine D.gskip (W.f rfl rfl rfl) ?_
      refine D.gskip (W.f rfl rfl rfl) ?_
      refine D.pu (Pu.pickF (.tmp rfl) .bool) ?_
      refine D.pu (Pu.assign (.tmp (v:=.bool _) rfl)) ?_
      refine D.nil (by kernel_rfl) ?_
      refine X.ret ?_
      cases h
      exact E.fin [] (.tmp (v:=.bool _) rfl .nil) (.cons (.cl .bool) .nil)
  · rw [if_neg (bf c)] at h
    refine D.gskip (W.f rfl rfl rfl) ?_
    refine D.gskip (W.f rfl rfl rfl) ?_
    refine D.gskip (W.f rfl rfl rfl) ?_
    refine D.gskip (W.f rfl rfl rfl) ?_
    refine D.pu (Pu.pickF (.tmp rfl) .bool) ?_
    refine D.pu (Pu.move (.tmp (v:=.bool _) rfl)) ?_
    refine D.gskip (W.f rfl rfl rfl) ?_
    refine D.gskip (W.f rfl rfl rfl) ?_
    refine D.gskip (W.f rfl rfl rfl) ?_
    refine D.gskip (W.f rfl rfl rfl) ?_
    refine D.pu (Pu.pickF (.tmp rfl) .bool) ?_
    refine D.pu (Pu.move (.tmp (v:=.bool _) rfl)) ?_
    refine D.gskip (W.f rfl rfl rfl) ?_
    refine D.gskip (W.f rfl rfl rfl) ?_
    refine D.gskip (W.f rfl rfl rfl) ?_
    refine D.gskip (W.f rfl rfl rfl) ?_
    refine D.pu (Pu.pickF (.tmp rfl) .bool) ?_
    refine D.pu (Pu.move (.tmp (v:=.bool _) rfl)) ?_
    refine D.gskip (W.f rfl rfl rfl) ?_
    refine D.gskip (W.f rfl rfl rfl) ?_
    refine D.gskip (W.f rfl rfl rfl) ?_
    refine D.gskip (W.f rfl rfl rfl) ?_
    refine D.gskip (W.f rfl rfl rfl) ?_
    refine D.gskip (W.f rfl rfl rfl) ?_
    refine D.pu (Pu.pickF (.tmp rfl) .bool) ?_
    refine D.pu (Pu.assign (.tmp (v:=.bool _) rfl)) ?_
    refine D.nil (by kernel_rfl) ?_
    refine X.ret ?_
    cases h
    exact E.fin [] (.tmp (v:=.bool _) rfl .nil) (.cons (.cl .bool) .nil)
end Go.Proofs.YtakidmbnkkhojaaGreat
end
