-- Joined of: G26 G9 G13 G4
import Derived.Test.YtelfpflfikaloaaC70eJG2
import Derived.Test.YtelfpflfikaloaaC70eJG3
section
namespace Go.Proofs.Ytelfpflfikaloaa
open Go.AVL Go.RowKit Go.Proofs.Ytelfpflfikaloaa.F Go.Proofs.YtelfpflfikaloaaX Go.Proofs.YtelfpflfikaloaaW.PrintWords Go.Proofs.YtelfpflfikaloaaW.PrintLast Go.Proofs.YtelfpflfikaloaaW.PrintMore
set_option linter.unusedVariables false
set_option linter.unusedSimpArgs false
set_option maxRecDepth 100000
set_option maxHeartbeats 4000000
noncomputable def c26:Code:=Try.f26.body.getD .skip
theorem fn26:FnOk Try.prog 26 Try.f26 c26:=⟨Try.func26,rfl,by kernel_rfl,by kernel_rfl,mixed⟩
theorem chattelref09_Cmp.cs {k:Nat} {a0_0:Int} {a0_1:Int} {a0_2:Int} {a1_0:Int} {a1_1:Int} {a1_2:Int} {r:Int} (h:chattelref09_Cmp.f k a0_0 a0_1 a0_2 a1_0 a1_1 a1_2=some r):CS Try.prog 26 [.agg [.int .i64 a0_0, .int .i64 a0_1, .int .i64 a0_2], .agg [.int .i64 a1_0, .int .i64 a1_1, .int .i64 a1_2]] .no [.int .i64 r]:=by
  unfold chattelref09_Cmp.f at h
  refine E.pure fn26 rfl ?_
  refine X.seq ?_
  refine X.still ?_
  refine O.puE (v':=.op 2 (1) 0 0) (b':=⟨1, .own,_,_⟩) (Pu.box (.tmp (v:=.agg _) rfl) rfl rfl) rfl rfl ?_
  refine O.puE (v':=.op 3 (1) 0 0) (b':=⟨1, .own,_,_⟩) (Pu.box (.tmp (v:=.agg _) rfl) rfl rfl) rfl rfl ?_
  refine O.pu (Pu.assign .int) ?_
  refine O.nil ?_
  refine X.seq ?_
  refine X.still ?_
  refine O.pu (U.fieldA rfl rfl rfl (.tmp rfl)) ?_
  refine O.pu (U.load (.tmp rfl) rfl rfl (U.cell rfl rfl rfl)) ?_
  refine O.pu (U.fieldA rfl rfl rfl (.tmp rfl)) ?_
  refine O.pu (U.load (.tmp rfl) rfl rfl (U.cell rfl rfl rfl)) ?_
  refine O.pu (U.fieldA rfl rfl rfl (.tmp rfl)) ?_
  refine O.pu (U.load (.tmp rfl) rfl rfl (U.cell rfl rfl rfl)) ?_
  refine O.puE (v':=.os 14 (1) 0 _ true) (b':=⟨1, .own,_,_⟩) (U.litI rfl rfl (.cons (.tmp (v:=.int _ _) rfl) (.cons (.tmp (v:=.int _ _) rfl) (.cons (.tmp (v:=.int _ _) rfl) .nil))) rfl rfl) rfl rfl ?_
  refine O.pu (Pu.assign (.tmp (v:=.os _ _ _ _ _) rfl)) ?_
  refine O.nil ?_
  refine X.seq ?_
  refine X.still ?_
  refine O.pu (U.fieldA rfl rfl rfl (.tmp rfl)) ?_
  refine O.pu (U.load (.tmp rfl) rfl rfl (U.cell rfl rfl rfl)) ?_
  refine O.pu (U.fieldA rfl rfl rfl (.tmp rfl)) ?_
  refine O.pu (U.load (.tmp rfl) rfl rfl (U.cell rfl rfl rfl)) ?_
  refine O.pu (U.fieldA rfl rfl rfl (.tmp rfl)) ?_
  refine O.pu (U.load (.tmp rfl) rfl rfl (U.cell rfl rfl rfl)) ?_
  refine O.puE (v':=.os 21 (1) 0 _ true) (b':=⟨1, .own,_,_⟩) (U.litI rfl rfl (.cons (.tmp (v:=.int _ _) rfl) (.cons (.tmp (v:=.int _ _) rfl) (.cons (.tmp (v:=.int _ _) rfl) .nil))) rfl rfl) rfl rfl ?_
  refine O.pu (Pu.assign (.tmp (v:=.os _ _ _ _ _) rfl)) ?_
  refine O.nil ?_
  refine X.seq ?_
  refine X.seq ?_
  refine X.still ?_
  refine O.pu (Pu.assign .int) ?_
  refine O.nil ?_
  refine X.block ?_
  refine X.inv (fun k s=>∃ x5 x6 x7 n5 n6 u14 u2 u21 u3 z2_0 z2_1 z2_2 z3_0 z3_1 z3_2,s.b 14=⟨u14, .own, .ints .i64 x5,3⟩∧s.t 5 = .os 14 u14 0 n5 true∧x5.length=n5∧s.b 21=⟨u21, .own, .ints .i64 x6,3⟩∧s.t 6 = .os 21 u21 0 n6 true∧x6.length=n6∧s.t 7 = .int .i64 x7∧s.t 2 = .op 2 u2 0 0∧s.b 2=⟨u2, .own, .vals [.agg [.int .i64 z2_0, .int .i64 z2_1, .int .i64 z2_2]],30⟩∧s.t 3 = .op 3 u3 0 0∧s.b 3=⟨u3, .own, .vals [.agg [.int .i64 z3_0, .int .i64 z3_1, .int .i64 z3_2]],30⟩∧chattelref09_Cmp.l0 k x5 x6 x7=some r) ?_ ?_ ⟨_,_,_,_,_,_,_,_,_,_,_,_,_,_,_,rfl,rfl,rfl,rfl,rfl,rfl,rfl,rfl,rfl,rfl,rfl,h⟩
  · rintro s ⟨_,_,_,_,_,_,_,_,_,_,_,_,_,_,_,_,_,_,_,_,_,_,_,_,_,_,h⟩;unfold chattelref09_Cmp.l0 at h;cases h
  · rintro k1 s1 ⟨x5,x6,x7,n5,n6,u14,u2,u21,u3,z2_0,z2_1,z2_2,z3_0,z3_1,z3_2,e0,e1,rfl,e3,e4,rfl,e6,e7,e8,e9,e10,h⟩
    unfold chattelref09_Cmp.l0 at h
    rw [St.fixB e0,St.fixT e1,St.fixB e3,St.fixT e4,St.fixT e6,St.fixT e7,St.fixB e8,St.fixT e9,St.fixB e10]
    refine X.seq ?_
    refine X.seq ?_
    refine X.still ?_
    refine O.pu (Pu.move (.tmp (v:=.int _ _) rfl)) ?_
    refine O.pu (Pu.bin (.tmp rfl) .int .lss) ?_
    refine O.nil ?_
    refine X.condP (.tmp rfl) (fun c=>?_) (fun c=>?_)
    · rw [if_pos c] at h
      refine X.skip ?_
      refine X.seq ?_
      refine X.block ?_
      refine X.seq ?_
      refine X.seq ?_
      refine X.drawn ?_
      refine D.pu (Pu.move (.tmp (v:=.os _ _ _ _ _) rfl)) ?_
      refine D.pu (Pu.move (.tmp (v:=.int _ _) rfl)) ?_
      repeat (rw [giff] at h;obtain ⟨_,h⟩:=h)
      refine D.pu (U.indexO0 rfl (.tmp rfl) rfl rfl (.tmp rfl) (by first|omega|(simp only [List.length_set] at *;omega)) (by first|omega|(simp only [List.length_set] at *;omega)) rfl rfl) ?_
      refine D.pu (U.rdO (.tmp rfl) rfl rfl rfl rfl rfl) ?_
      refine D.pu (Pu.move (.tmp (v:=.os _ _ _ _ _) rfl)) ?_
      refine D.pu (Pu.move (.tmp (v:=.int _ _) rfl)) ?_
      refine D.pu (U.indexO0 rfl (.tmp rfl) rfl rfl (.tmp rfl) (by first|omega|(simp only [List.length_set] at *;omega)) (by first|omega|(simp only [List.length_set] at *;omega)) rfl rfl) ?_
      refine D.pu (U.rdO (.tmp rfl) rfl rfl rfl rfl rfl) ?_
      refine D.pu (Pu.bin (.tmp rfl) (.tmp rfl) .lss) ?_
      refine D.nil (by kernel_rfl) ?_
      refine X.condP (.tmp rfl) (fun c=>?_) (fun c=>?_)
      · rw [if_pos c] at h
        refine X.seq ?_
        refine X.still ?_
        refine O.pu (Pu.assign .int) ?_
        refine O.nil ?_
        refine X.ret ?_
        cases h
        exact E.fin [] (.tmp (v:=.int _ _) rfl .nil) (.cons (.cl .int) .nil)
      · rw [if_neg c] at h
        refine X.skip ?_
        refine X.seq ?_
        refine X.drawn ?_
        refine D.pu (Pu.move (.tmp (v:=.os _ _ _ _ _) rfl)) ?_
        refine D.pu (Pu.move (.tmp (v:=.int _ _) rfl)) ?_
        refine D.pu (U.indexO0 rfl (.tmp rfl) rfl rfl (.tmp rfl) (by first|omega|(simp only [List.length_set] at *;omega)) (by first|omega|(simp only [List.length_set] at *;omega)) rfl rfl) ?_
        refine D.pu (U.rdO (.tmp rfl) rfl rfl rfl rfl rfl) ?_
        refine D.pu (Pu.move (.tmp (v:=.os _ _ _ _ _) rfl)) ?_
        refine D.pu (Pu.move (.tmp (v:=.int _ _) rfl)) ?_
        refine D.pu (U.indexO0 rfl (.tmp rfl) rfl rfl (.tmp rfl) (by first|omega|(simp only [List.length_set] at *;omega)) (by first|omega|(simp only [List.length_set] at *;omega)) rfl rfl) ?_
        refine D.pu (U.rdO (.tmp rfl) rfl rfl rfl rfl rfl) ?_
        refine D.pu (Pu.bin (.tmp rfl) (.tmp rfl) .gtr) ?_
        refine D.nil (by kernel_rfl) ?_
        refine X.condP (.tmp rfl) (fun c=>?_) (fun c=>?_)
        · rw [if_pos c] at h
          refine X.seq ?_
          refine X.still ?_
          refine O.pu (Pu.assign .int) ?_
          refine O.nil ?_
          refine X.ret ?_
          cases h
          exact E.fin [] (.tmp (v:=.int _ _) rfl .nil) (.cons (.cl .int) .nil)
        · rw [if_neg c] at h
          refine X.skip ?_
          refine X.still ?_
          refine O.pu (Pu.move (.tmp (v:=.int _ _) rfl)) ?_
          refine O.pu (Pu.bin (.tmp rfl) .int U.add64) ?_
          refine O.pu (Pu.assign (.tmp (v:=.int _ _) rfl)) ?_
          refine O.nil ?_
          exact ⟨_,(by omega),_,_,_,_,_,_,_,_,_,_,_,_,_,_,_,rfl,rfl,(by first|rfl|(simp only [List.length_set];done)|(simp only [List.length_drop,List.length_take,List.length_append,List.length_set] at *;omega)),rfl,rfl,(by first|rfl|(simp only [List.length_set];done)|(simp only [List.length_drop,List.length_take,List.length_append,List.length_set] at *;omega)),rfl,rfl,rfl,rfl,rfl,h⟩
    · rw [if_neg c] at h
      refine X.exit (B.out ?_)
      refine X.seq ?_
      refine X.still ?_
      refine O.pu (Pu.assign .int) ?_
      refine O.nil ?_
      refine X.ret ?_
      cases h
      exact E.fin [] (.tmp (v:=.int _ _) rfl .nil) (.cons (.cl .int) .nil)
noncomputable def c9:Code:=Try.f9.body.getD .skip
theorem fn9:FnOk Try.prog 9 Try.f9 c9:=⟨Try.func9,rfl,by kernel_rfl,by kernel_rfl,mixed⟩
theorem chattellaw11_near.cs {k:Nat} {a0_0:Int} {a0_1:Int} {a0_2:Int} {a1_0:Int} {a1_1:Int} {a1_2:Int} {r:Int×Int×Int×Int×Int×Int} (h:chattellaw11_near.f k a0_0 a0_1 a0_2 a1_0 a1_1 a1_2=some r):CS Try.prog 9 [.agg [.int .i64 a0_0, .int .i64 a0_1, .int .i64 a0_2], .agg [.int .i64 a1_0, .int .i64 a1_1, .int .i64 a1_2]] .no [.agg [.int .i64 r.1, .int .i64 r.2.1, .int .i64 r.2.2.1], .agg [.int .i64 r.2.2.2.1, .int .i64 r.2.2.2.2.1, .int .i64 r.2.2.2.2.2]]:=by
  unfold chattellaw11_near.f at h
  refine E.pure fn9 rfl ?_
  refine X.seq ?_
  refine X.still ?_
  refine O.puE (v':=.op 2 (1) 0 0) (b':=⟨1, .own,_,_⟩) (Pu.box (.tmp (v:=.agg _) rfl) rfl rfl) rfl rfl ?_
  refine O.puE (v':=.op 3 (1) 0 0) (b':=⟨1, .own,_,_⟩) (Pu.box (.tmp (v:=.agg _) rfl) rfl rfl) rfl rfl ?_
  refine O.puE (v':=.op 4 (1) 0 0) (b':=⟨1, .own,(.vals [.agg [.int .i64 0, .int .i64 0, .int .i64 0]]),_⟩) Pu.alloc rfl rfl ?_
  refine O.puE (v':=.op 5 (1) 0 0) (b':=⟨1, .own,(.vals [.agg [.int .i64 0, .int .i64 0, .int .i64 0]]),_⟩) Pu.alloc rfl rfl ?_
  refine O.nil ?_
  refine X.seq ?_
  refine X.still ?_
  refine O.pu (U.fieldA rfl rfl rfl (.tmp rfl)) ?_
  refine O.pu (U.load (.tmp rfl) rfl rfl (U.cell rfl rfl rfl)) ?_
  refine O.pu (U.fieldA rfl rfl rfl (.tmp rfl)) ?_
  refine O.pu (U.load (.tmp rfl) rfl rfl (U.cell rfl rfl rfl)) ?_
  refine O.pu (U.fieldA rfl rfl rfl (.tmp rfl)) ?_
  refine O.pu (U.load (.tmp rfl) rfl rfl (U.cell rfl rfl rfl)) ?_
  refine O.pu (U.bldAr3 (k:=.i64) (.tmp (v:=.int _ _) rfl) (.tmp (v:=.int _ _) rfl) (.tmp (v:=.int _ _) rfl) (fun w n0 n1 n2=>by kernel_rfl)) ?_
  obtain ⟨q1,Hq1,h⟩:=Option.bind_eq_some_iff.1 h
  refine O.pu (U.call (ss:=[]) (.cons (.tmp (v:=.agg _) rfl) (.cons .int .nil)) (.cons (.cl (.aggL (.cons .int (.cons .int (.cons .int .nil))))) (.cons (.cl .int) .nil)) (chattelref09_Make.cs Hq1) (.inl rfl) (.aggL (.cons .int (.cons .int (.cons .int .nil))))) ?_
  refine O.puE (v':=.op 6 (1) 0 0) (b':=⟨1, .own,(.vals [.agg [.int .i64 0, .int .i64 0, .int .i64 0]]),_⟩) Pu.alloc rfl rfl ?_
  refine O.ef0 (U.storeE (.tmp rfl) rfl rfl (.tmp (v:=.agg _) rfl) rfl rfl (.whole (notBad_ne rfl) rfl) .one) ?_
  refine O.nil ?_
  refine X.seq ?_
  refine X.still ?_
  refine O.pu (U.fieldA rfl rfl rfl (.tmp rfl)) ?_
  refine O.pu (U.load (.tmp rfl) rfl rfl (U.cell rfl rfl rfl)) ?_
  refine O.pu (U.fieldA rfl rfl rfl (.tmp rfl)) ?_
  refine O.pu (U.load (.tmp rfl) rfl rfl (U.cell rfl rfl rfl)) ?_
  refine O.pu (U.fieldA rfl rfl rfl (.tmp rfl)) ?_
  refine O.pu (U.load (.tmp rfl) rfl rfl (U.cell rfl rfl rfl)) ?_
  refine O.pu (U.bldAr3 (k:=.i64) (.tmp (v:=.int _ _) rfl) (.tmp (v:=.int _ _) rfl) (.tmp (v:=.int _ _) rfl) (fun w n0 n1 n2=>by kernel_rfl)) ?_
  obtain ⟨q2,Hq2,h⟩:=Option.bind_eq_some_iff.1 h
  refine O.pu (U.call (ss:=[]) (.cons (.tmp (v:=.agg _) rfl) (.cons .int .nil)) (.cons (.cl (.aggL (.cons .int (.cons .int (.cons .int .nil))))) (.cons (.cl .int) .nil)) (chattelref09_Make.cs Hq2) (.inl rfl) (.aggL (.cons .int (.cons .int (.cons .int .nil))))) ?_
  refine O.puE (v':=.op 7 (1) 0 0) (b':=⟨1, .own,(.vals [.agg [.int .i64 0, .int .i64 0, .int .i64 0]]),_⟩) Pu.alloc rfl rfl ?_
  refine O.ef0 (U.storeE (.tmp rfl) rfl rfl (.tmp (v:=.agg _) rfl) rfl rfl (.whole (notBad_ne rfl) rfl) .one) ?_
  refine O.nil ?_
  refine X.seq ?_
  refine X.still ?_
  refine O.pu (U.fieldA rfl rfl rfl (.tmp rfl)) ?_
  refine O.pu (U.load (.tmp rfl) rfl rfl (U.cell rfl rfl rfl)) ?_
  refine O.pu (U.fieldA rfl rfl rfl (.tmp rfl)) ?_
  refine O.pu (U.load (.tmp rfl) rfl rfl (U.cell rfl rfl rfl)) ?_
  refine O.pu (Pu.bin (.tmp rfl) (.tmp rfl) U.add64) ?_
  refine O.pu (U.fieldA rfl rfl rfl (.tmp rfl)) ?_
  refine O.ef0 (U.storeE (.tmp rfl) rfl rfl (.tmp (v:=.int _ _) rfl) rfl rfl (.part (.put .done)) .one) ?_
  refine O.nil ?_
  refine X.seq ?_
  refine X.drawn ?_
  refine D.pu (U.fieldA rfl rfl rfl (.tmp rfl)) ?_
  refine D.pu (U.load (.tmp rfl) rfl rfl (U.cell rfl rfl rfl)) ?_
  refine D.pu (U.fieldA rfl rfl rfl (.tmp rfl)) ?_
  refine D.pu (U.load (.tmp rfl) rfl rfl (U.cell rfl rfl rfl)) ?_
  refine D.pu (U.fieldA rfl rfl rfl (.tmp rfl)) ?_
  refine D.pu (U.load (.tmp rfl) rfl rfl (U.cell rfl rfl rfl)) ?_
  obtain ⟨q3,Hq3,h⟩:=Option.bind_eq_some_iff.1 h
  refine D.pu (U.call (ss:=[]) (.cons (.tmp (v:=.int _ _) rfl) (.cons (.tmp (v:=.int _ _) rfl) .nil)) (.cons (.cl .int) (.cons (.cl .int) .nil)) (chattelref09_Days.cs Hq3) (.inl rfl) (.int)) ?_
  refine D.pu (U.mn (.tmp rfl) (.tmp rfl)) ?_
  refine D.pu (U.fieldA rfl rfl rfl (.tmp rfl)) ?_
  refine D.ef0 (C.storeE (.tmp rfl) rfl rfl (.tmp (v:=.int _ _) rfl) rfl rfl (.part (.skip (.skip (.put .done)))) .one) ?_
  refine D.nil (by kernel_rfl) ?_
  refine X.seq ?_
  refine X.seq ?_
  refine X.still ?_
  refine O.pu (U.load (.tmp rfl) rfl rfl (U.whole rfl rfl)) ?_
  refine O.pu (U.load (.tmp rfl) rfl rfl (U.whole rfl rfl)) ?_
  obtain ⟨q4,Hq4,h⟩:=Option.bind_eq_some_iff.1 h
  refine O.pu (U.call (ss:=[]) (.cons (.tmp (v:=.agg _) rfl) (.cons (.tmp (v:=.agg _) rfl) .nil)) (.cons (.cl (.aggL (.cons .int (.cons .int (.cons .int .nil))))) (.cons (.cl (.aggL (.cons .int (.cons .int (.cons .int .nil))))) .nil)) (chattelref09_Cmp.cs Hq4) (.inl rfl) (.int)) ?_
  refine O.pu (Pu.bin (.tmp rfl) .int .gtr) ?_
  refine O.nil ?_
  refine X.condP (.tmp rfl) (fun c=>?_) (fun c=>?_)
  · rw [if_pos c] at h
    refine X.still ?_
    refine O.pu (U.load (.tmp rfl) rfl rfl (U.whole rfl rfl)) ?_
    refine O.pu (U.load (.tmp rfl) rfl rfl (U.whole rfl rfl)) ?_
    refine O.ef0 (U.storeE (.tmp rfl) rfl rfl (.tmp (v:=.agg _) rfl) rfl rfl (.whole (notBad_ne rfl) rfl) .one) ?_
    refine O.ef0 (U.storeE (.tmp rfl) rfl rfl (.tmp (v:=.agg _) rfl) rfl rfl (.whole (notBad_ne rfl) rfl) .one) ?_
    refine O.nil ?_
    refine X.seq ?_
    refine X.drawn ?_
    refine D.pu (U.load (.tmp rfl) rfl rfl (U.whole rfl rfl)) ?_
    refine D.pu (U.load (.tmp rfl) rfl rfl (U.whole rfl rfl)) ?_
    refine D.ef0 (C.storeE (.tmp rfl) rfl rfl (.tmp (v:=.agg _) rfl) rfl rfl (.whole (notBad_ne rfl) rfl) .one) ?_
    refine D.ef0 (C.storeE (.tmp rfl) rfl rfl (.tmp (v:=.agg _) rfl) rfl rfl (.whole (notBad_ne rfl) rfl) .one) ?_
    refine D.nil (by kernel_rfl) ?_
    refine X.ret ?_
    cases h
    exact E.fin [] (.cell rfl rfl (Mode.live_ne rfl) (U.whole rfl rfl) (.cell rfl rfl (Mode.live_ne rfl) (U.whole rfl rfl) .nil)) (.cons (.cl (.aggL (.cons .int (.cons .int (.cons .int .nil))))) (.cons (.cl (.aggL (.cons .int (.cons .int (.cons .int .nil))))) .nil))
  · rw [if_neg c] at h
    refine X.skip ?_
    refine X.seq ?_
    refine X.drawn ?_
    refine D.pu (U.load (.tmp rfl) rfl rfl (U.whole rfl rfl)) ?_
    refine D.pu (U.load (.tmp rfl) rfl rfl (U.whole rfl rfl)) ?_
    refine D.ef0 (C.storeE (.tmp rfl) rfl rfl (.tmp (v:=.agg _) rfl) rfl rfl (.whole (notBad_ne rfl) rfl) .one) ?_
    refine D.ef0 (C.storeE (.tmp rfl) rfl rfl (.tmp (v:=.agg _) rfl) rfl rfl (.whole (notBad_ne rfl) rfl) .one) ?_
    refine D.nil (by kernel_rfl) ?_
    refine X.ret ?_
    cases h
    exact E.fin [] (.cell rfl rfl (Mode.live_ne rfl) (U.whole rfl rfl) (.cell rfl rfl (Mode.live_ne rfl) (U.whole rfl rfl) .nil)) (.cons (.cl (.aggL (.cons .int (.cons .int (.cons .int .nil))))) (.cons (.cl (.aggL (.cons .int (.cons .int (.cons .int .nil))))) .nil))
noncomputable def c13:Code:=Try.f13.body.getD .skip
theorem fn13:FnOk Try.prog 13 Try.f13 c13:=⟨Try.func13,rfl,by kernel_rfl,by kernel_rfl,mixed⟩
theorem frac_Frac_Sign.cs {l0_0:List Int} {a0_1:Bool} {l0_2:List Int} {r:Int} (h:frac_Frac_Sign.f l0_0 a0_1 l0_2=some r):CS Try.prog 13 [.agg [.fi .u64 l0_0, .bool a0_1, .fi .u64 l0_2]] .no [.int .i64 r]:=by
  unfold frac_Frac_Sign.f at h
  refine E.pure fn13 rfl ?_
  refine X.seq ?_
  refine X.still ?_
  refine O.puE (v':=.op 1 (1) 0 0) (b':=⟨1, .own,_,_⟩) (Pu.box (.tmp (v:=.agg _) rfl) rfl rfl) rfl rfl ?_
  refine O.pu (Pu.assign .int) ?_
  refine O.nil ?_
  refine X.seq ?_
  refine X.still ?_
  refine O.pu (U.fieldA rfl rfl rfl (.tmp rfl)) ?_
  refine O.pu (U.load (.tmp rfl) rfl rfl (U.sub rfl (.take (.take .done)))) ?_
  obtain ⟨q1,Hq1,h⟩:=Option.bind_eq_some_iff.1 h
  refine O.pu (U.call (ss:=[]) (.cons (.tmp (v:=.agg _) rfl) .nil) (.cons (.cl (.aggL (.cons .fi (.cons .bool .nil)))) .nil) (whole_Int_Sign.cs Hq1) (.inl rfl) (.int)) ?_
  refine O.pu (Pu.assign (.tmp (v:=.int _ _) rfl)) ?_
  refine O.nil ?_
  refine X.ret ?_
  cases h
  exact E.fin [] (.tmp (v:=.int _ _) rfl .nil) (.cons (.cl .int) .nil)
theorem chattellaw11_CountParts.j1_e {k y0 y1 y2 y3 y4 y5 y6 y7 y8 y9 y10 y11 y12 y13 y14 y15 y16 y17 y18 y19 y20 r}:(chattellaw11_CountParts.j1 k y0 y1 y2 y3 y4 y5 y6 y7 y8 y9 y10 y11 y12 y13 y14 y15 y16 y17 y18 y19 y20=some r) = ∃ j,k=j + 1∧chattellaw11_CountParts.j1 (j + 1) y0 y1 y2 y3 y4 y5 y6 y7 y8 y9 y10 y11 y12 y13 y14 y15 y16 y17 y18 y19 y20=some r:=propext ⟨fun h=>by cases k with|zero=>(unfold chattellaw11_CountParts.j1 at h;cases h)|succ k=>exact ⟨k,rfl,h⟩,fun ⟨j,hj,h⟩=>by subst hj;exact h⟩
noncomputable def c4:Code:=Try.f4.body.getD .skip
theorem fn4:FnOk Try.prog 4 Try.f4 c4:=⟨Try.func4,rfl,by kernel_rfl,by kernel_rfl,mixed⟩
theorem chattellaw11_CountParts.cs {k:Nat} {a0_0:Int} {a0_1:Int} {a0_2:Int} {a1_0:Int} {a1_1:Int} {a1_2:Int} {a2:Int} {r:Bool} (h:chattellaw11_CountParts.f k a0_0 a0_1 a0_2 a1_0 a1_1 a1_2 a2=some r):CS Try.prog 4 [.agg [.int .i64 a0_0, .int .i64 a0_1, .int .i64 a0_2], .agg [.int .i64 a1_0, .int .i64 a1_1, .int .i64 a1_2], .int .u16 a2] .no [.bool r]:=by
  unfold chattellaw11_CountParts.f at h
  refine E.pure fn4 rfl ?_
  refine X.seq ?_
  refine X.still ?_
  refine O.puE (v':=.op 3 (1) 0 0) (b':=⟨1, .own,_,_⟩) (Pu.box (.tmp (v:=.agg _) rfl) rfl rfl) rfl rfl ?_
  refine O.puE (v':=.op 4 (1) 0 0) (b':=⟨1, .own,_,_⟩) (Pu.box (.tmp (v:=.agg _) rfl) rfl rfl) rfl rfl ?_
  refine O.pu (Pu.assign .bool) ?_
  refine O.nil ?_
  refine X.seq ?_
  refine X.still ?_
  refine O.pu (U.load (.tmp rfl) rfl rfl (U.whole rfl rfl)) ?_
  refine O.pu (U.load (.tmp rfl) rfl rfl (U.whole rfl rfl)) ?_
  obtain ⟨q1,Hq1,h⟩:=Option.bind_eq_some_iff.1 h
  refine O.pu (U.call (ss:=[]) (.cons (.tmp (v:=.agg _) rfl) (.cons (.tmp (v:=.agg _) rfl) .nil)) (.cons (.cl (.aggL (.cons .int (.cons .int (.cons .int .nil))))) (.cons (.cl (.aggL (.cons .int (.cons .int (.cons .int .nil))))) .nil)) (chattellaw11_near.cs Hq1) (.inl rfl) (.tupL (.cons (.aggL (.cons .int (.cons .int (.cons .int .nil)))) (.cons (.aggL (.cons .int (.cons .int (.cons .int .nil)))) .nil)))) ?_
  refine O.pu (Pu.move (.tmp (v:=.tup _) rfl)) ?_
  refine O.pu (Pu.extract (.tmp rfl) rfl) ?_
  refine O.pu (Pu.extract (.tmp rfl) rfl) ?_
  refine O.puE (v':=.op 7 (1) 0 0) (b':=⟨1, .own,(.vals [.agg [.int .i64 0, .int .i64 0, .int .i64 0]]),_⟩) Pu.alloc rfl rfl ?_
  refine O.puE (v':=.op 8 (1) 0 0) (b':=⟨1, .own,(.vals [.agg [.int .i64 0, .int .i64 0, .int .i64 0]]),_⟩) Pu.alloc rfl rfl ?_
  refine O.ef0 (U.storeE (.tmp rfl) rfl rfl (.tmp (v:=.agg _) rfl) rfl rfl (.whole (notBad_ne rfl) rfl) .one) ?_
  refine O.ef0 (U.storeE (.tmp rfl) rfl rfl (.tmp (v:=.agg _) rfl) rfl rfl (.whole (notBad_ne rfl) rfl) .one) ?_
  refine O.nil ?_
  refine X.seq ?_
  refine X.still ?_
  refine O.pu (U.load (.tmp rfl) rfl rfl (U.whole rfl rfl)) ?_
  refine O.pu (U.load (.tmp rfl) rfl rfl (U.whole rfl rfl)) ?_
  obtain ⟨q2,Hq2,h⟩:=Option.bind_eq_some_iff.1 h
  refine O.pu (U.call (ss:=[]) (.cons (.tmp (v:=.agg _) rfl) (.cons (.tmp (v:=.agg _) rfl) .nil)) (.cons (.cl (.aggL (.cons .int (.cons .int (.cons .int .nil))))) (.cons (.cl (.aggL (.cons .int (.cons .int (.cons .int .nil))))) .nil)) (month_Between.cs Hq2) (.inl rfl) (.tupL (.cons .int (.cons .int .nil)))) ?_
  refine O.pu (Pu.move (.tmp (v:=.tup _) rfl)) ?_
  refine O.pu (Pu.extract (.tmp rfl) rfl) ?_
  refine O.pu (Pu.extract (.tmp rfl) rfl) ?_
  refine O.pu (Pu.assign (.tmp (v:=.int _ _) rfl)) ?_
  refine O.pu (Pu.assign (.tmp (v:=.int _ _) rfl)) ?_
  refine O.nil ?_
  refine X.seq ?_
  refine X.drawn ?_
  refine D.pu (U.load (.tmp rfl) rfl rfl (U.whole rfl rfl)) ?_
  refine D.pu (Pu.move (.tmp (v:=.int _ _) rfl)) ?_
  refine D.pu (U.conv64 rfl (.tmp rfl)) ?_
  refine D.pu (Pu.move (.tmp (v:=.int _ _) rfl)) ?_
  refine D.pu (Pu.bin (.tmp rfl) .int U.add64) ?_
  repeat (rw [giffn] at h;obtain ⟨_,h⟩:=h)
  refine D.pu (Pu.bin (.tmp rfl) (.tmp rfl) (.rem (by omega))) ?_
  obtain ⟨q3,Hq3,h⟩:=Option.bind_eq_some_iff.1 h
  refine D.pu (U.call (ss:=[]) (.cons (.tmp (v:=.agg _) rfl) (.cons (.tmp (v:=.int _ _) rfl) .nil)) (.cons (.cl (.aggL (.cons .int (.cons .int (.cons .int .nil))))) (.cons (.cl .int) .nil)) (month_AddDays.cs Hq3) (.inl rfl) (.tupL (.cons (.aggL (.cons .int (.cons .int (.cons .int .nil)))) (.cons .int .nil)))) ?_
  refine D.pu (Pu.move (.tmp (v:=.tup _) rfl)) ?_
  refine D.pu (Pu.extract (.tmp rfl) rfl) ?_
  refine D.pu (Pu.extract (.tmp rfl) rfl) ?_
  refine D.puE (v':=.op 11 (1) 0 0) (b':=⟨1, .own,(.vals [.agg [.int .i64 0, .int .i64 0, .int .i64 0]]),_⟩) Pu.alloc rfl rfl ?_
  refine D.ef0 (C.storeE (.tmp rfl) rfl rfl (.tmp (v:=.agg _) rfl) rfl rfl (.whole (notBad_ne rfl) rfl) .one) ?_
  refine D.pu (Pu.assign (.tmp (v:=.int _ _) rfl)) ?_
  refine D.nil (by kernel_rfl) ?_
  refine X.seq ?_
  refine X.seq ?_
  refine X.still ?_
  refine O.pu (Pu.move .int) ?_
  refine O.nil ?_
  refine X.block ?_
  refine X.inv (fun k s=>∃ x44 x917000 x917001 x917002 x918000 x918001 x918002 x925000 x925001 x925002 u11 u3 u4 u7 u8 z3_0 z3_1 z3_2 z4_0 z4_1 z4_2,s.t 44 = .int .i64 x44∧s.t 3 = .op 3 u3 0 0∧s.b 3=⟨u3, .own, .vals [.agg [.int .i64 z3_0, .int .i64 z3_1, .int .i64 z3_2]],30⟩∧s.t 4 = .op 4 u4 0 0∧s.b 4=⟨u4, .own, .vals [.agg [.int .i64 z4_0, .int .i64 z4_1, .int .i64 z4_2]],30⟩∧s.t 7 = .op 7 u7 0 0∧s.b 7=⟨u7, .own, .vals [.agg [.int .i64 x917000, .int .i64 x917001, .int .i64 x917002]],30⟩∧s.t 8 = .op 8 u8 0 0∧s.b 8=⟨u8, .own, .vals [.agg [.int .i64 x918000, .int .i64 x918001, .int .i64 x918002]],30⟩∧s.t 11 = .op 11 u11 0 0∧s.b 11=⟨u11, .own, .vals [.agg [.int .i64 x925000, .int .i64 x925001, .int .i64 x925002]],30⟩∧chattellaw11_CountParts.l0 k x44 x917000 x917001 x917002 x918000 x918001 x918002 x925000 x925001 x925002=some r) ?_ ?_ ⟨_,_,_,_,_,_,_,_,_,_,_,_,_,_,_,_,_,_,_,_,_,rfl,rfl,rfl,rfl,rfl,rfl,rfl,rfl,rfl,rfl,rfl,h⟩
  · rintro s ⟨_,_,_,_,_,_,_,_,_,_,_,_,_,_,_,_,_,_,_,_,_,_,_,_,_,_,_,_,_,_,_,_,h⟩;unfold chattellaw11_CountParts.l0 at h;cases h
  · rintro k1 s1 ⟨x44,x917000,x917001,x917002,x918000,x918001,x918002,x925000,x925001,x925002,u11,u3,u4,u7,u8,z3_0,z3_1,z3_2,z4_0,z4_1,z4_2,e0,e1,e2,e3,e4,e5,e6,e7,e8,e9,e10,h⟩
    unfold chattellaw11_CountParts.l0 at h
    rw [St.fixT e0,St.fixT e1,St.fixB e2,St.fixT e3,St.fixB e4,St.fixT e5,St.fixB e6,St.fixT e7,St.fixB e8,St.fixT e9,St.fixB e10]
    refine X.seq ?_
    refine X.still ?_
    refine O.pu (Pu.bin (.tmp rfl) .int .lss) ?_
    refine O.nil ?_
    refine X.seq ?_
    refine X.condP (.tmp rfl) (fun c=>?_) (fun c=>?_)
    · rw [if_pos c] at h
      refine X.skip ?_
      refine X.seq ?_
      refine X.block ?_
      refine X.seq ?_
      refine X.still ?_
      refine O.pu (Pu.move (.tmp (v:=.int _ _) rfl)) ?_
      refine O.pu (Pu.assign (.tmp (v:=.int _ _) rfl)) ?_
      refine O.nil ?_
      refine X.seq ?_
      refine X.still ?_
      refine O.pu (Pu.move (.tmp (v:=.int _ _) rfl)) ?_
      refine O.pu (U.load (.tmp rfl) rfl rfl (U.whole rfl rfl)) ?_
      refine O.pu (U.load (.tmp rfl) rfl rfl (U.whole rfl rfl)) ?_
      obtain ⟨q4,Hq4,h⟩:=Option.bind_eq_some_iff.1 h
      refine O.pu (U.call (ss:=[]) (.cons (.tmp (v:=.int _ _) rfl) (.cons (.tmp (v:=.agg _) rfl) (.cons (.tmp (v:=.agg _) rfl) .nil))) (.cons (.cl .int) (.cons (.cl (.aggL (.cons .int (.cons .int (.cons .int .nil))))) (.cons (.cl (.aggL (.cons .int (.cons .int (.cons .int .nil))))) .nil))) (count_Year.cs Hq4) (.inl rfl) (.tupL (.cons (.aggL (.cons .fi (.cons .bool (.cons .fi .nil)))) (.cons .int .nil)))) ?_
      refine O.pu (Pu.move (.tmp (v:=.tup _) rfl)) ?_
      refine O.pu (Pu.extract (.tmp rfl) rfl) ?_
      refine O.pu (Pu.extract (.tmp rfl) rfl) ?_
      refine O.puE (v':=.op 14 ((s1.b 14).ver + 1) 0 0) (b':=⟨(s1.b 14).ver + 1, .own,(.vals [.agg [.fi .u64 [], .bool false, .fi .u64 []]]),_⟩) Pu.alloc rfl rfl ?_
      refine O.ef0 (U.storeE (.tmp rfl) rfl rfl (.tmp (v:=.agg _) rfl) rfl rfl (.whole (notBad_ne rfl) rfl) .one) ?_
      refine O.pu (Pu.assign (.tmp (v:=.int _ _) rfl)) ?_
      refine O.nil ?_
      refine X.seq ?_
      refine X.still ?_
      refine O.pu (Pu.move (.tmp (v:=.int _ _) rfl)) ?_
      refine O.pu (U.load (.tmp rfl) rfl rfl (U.whole rfl rfl)) ?_
      refine O.pu (U.load (.tmp rfl) rfl rfl (U.whole rfl rfl)) ?_
      obtain ⟨q5,Hq5,h⟩:=Option.bind_eq_some_iff.1 h
      refine O.pu (U.call (ss:=[]) (.cons (.tmp (v:=.int _ _) rfl) (.cons (.tmp (v:=.agg _) rfl) (.cons (.tmp (v:=.agg _) rfl) .nil))) (.cons (.cl .int) (.cons (.cl (.aggL (.cons .int (.cons .int (.cons .int .nil))))) (.cons (.cl (.aggL (.cons .int (.cons .int (.cons .int .nil))))) .nil))) (count_Year.cs Hq5) (.inl rfl) (.tupL (.cons (.aggL (.cons .fi (.cons .bool (.cons .fi .nil)))) (.cons .int .nil)))) ?_
      refine O.pu (Pu.move (.tmp (v:=.tup _) rfl)) ?_
      refine O.pu (Pu.extract (.tmp rfl) rfl) ?_
      refine O.pu (Pu.extract (.tmp rfl) rfl) ?_
      refine O.puE (v':=.op 16 ((s1.b 16).ver + 1) 0 0) (b':=⟨(s1.b 16).ver + 1, .own,(.vals [.agg [.fi .u64 [], .bool false, .fi .u64 []]]),_⟩) Pu.alloc rfl rfl ?_
      refine O.ef0 (U.storeE (.tmp rfl) rfl rfl (.tmp (v:=.agg _) rfl) rfl rfl (.whole (notBad_ne rfl) rfl) .one) ?_
      refine O.pu (Pu.assign (.tmp (v:=.int _ _) rfl)) ?_
      refine O.nil ?_
      refine X.seq ?_
      refine X.still ?_
      refine O.pu (Pu.move (.tmp (v:=.int _ _) rfl)) ?_
      refine O.pu (U.load (.tmp rfl) rfl rfl (U.whole rfl rfl)) ?_
      refine O.pu (U.load (.tmp rfl) rfl rfl (U.whole rfl rfl)) ?_
      obtain ⟨q6,Hq6,h⟩:=Option.bind_eq_some_iff.1 h
      refine O.pu (U.call (ss:=[]) (.cons (.tmp (v:=.int _ _) rfl) (.cons (.tmp (v:=.agg _) rfl) (.cons (.tmp (v:=.agg _) rfl) .nil))) (.cons (.cl .int) (.cons (.cl (.aggL (.cons .int (.cons .int (.cons .int .nil))))) (.cons (.cl (.aggL (.cons .int (.cons .int (.cons .int .nil))))) .nil))) (count_Year.cs Hq6) (.inl rfl) (.tupL (.cons (.aggL (.cons .fi (.cons .bool (.cons .fi .nil)))) (.cons .int .nil)))) ?_
      refine O.pu (Pu.move (.tmp (v:=.tup _) rfl)) ?_
      refine O.pu (Pu.extract (.tmp rfl) rfl) ?_
      refine O.pu (Pu.extract (.tmp rfl) rfl) ?_
      refine O.puE (v':=.op 18 ((s1.b 18).ver + 1) 0 0) (b':=⟨(s1.b 18).ver + 1, .own,(.vals [.agg [.fi .u64 [], .bool false, .fi .u64 []]]),_⟩) Pu.alloc rfl rfl ?_
      refine O.ef0 (U.storeE (.tmp rfl) rfl rfl (.tmp (v:=.agg _) rfl) rfl rfl (.whole (notBad_ne rfl) rfl) .one) ?_
      refine O.pu (Pu.assign (.tmp (v:=.int _ _) rfl)) ?_
      refine O.nil ?_
      refine X.seq ?_
      refine X.still ?_
      refine O.pu (Pu.move (.tmp (v:=.int _ _) rfl)) ?_
      refine O.pu (U.load (.tmp rfl) rfl rfl (U.whole rfl rfl)) ?_
      refine O.pu (U.load (.tmp rfl) rfl rfl (U.whole rfl rfl)) ?_
      obtain ⟨q7,Hq7,h⟩:=Option.bind_eq_some_iff.1 h
      refine O.pu (U.call (ss:=[]) (.cons (.tmp (v:=.int _ _) rfl) (.cons (.tmp (v:=.agg _) rfl) (.cons (.tmp (v:=.agg _) rfl) .nil))) (.cons (.cl .int) (.cons (.cl (.aggL (.cons .int (.cons .int (.cons .int .nil))))) (.cons (.cl (.aggL (.cons .int (.cons .int (.cons .int .nil))))) .nil))) (count_Year.cs Hq7) (.inl rfl) (.tupL (.cons (.aggL (.cons .fi (.cons .bool (.cons .fi .nil)))) (.cons .int .nil)))) ?_
      refine O.pu (Pu.move (.tmp (v:=.tup _) rfl)) ?_
      refine O.pu (Pu.extract (.tmp rfl) rfl) ?_
      refine O.pu (Pu.extract (.tmp rfl) rfl) ?_
      refine O.puE (v':=.op 20 ((s1.b 20).ver + 1) 0 0) (b':=⟨(s1.b 20).ver + 1, .own,(.vals [.agg [.fi .u64 [], .bool false, .fi .u64 []]]),_⟩) Pu.alloc rfl rfl ?_
      refine O.ef0 (U.storeE (.tmp rfl) rfl rfl (.tmp (v:=.agg _) rfl) rfl rfl (.whole (notBad_ne rfl) rfl) .one) ?_
      refine O.pu (Pu.assign (.tmp (v:=.int _ _) rfl)) ?_
      refine O.nil ?_
      refine X.seq ?_
      refine X.seq ?_
      refine X.still ?_
      refine O.pu (Pu.move (.tmp (v:=.int _ _) rfl)) ?_
      refine O.pu (Pu.bin (.tmp rfl) .int .neq) ?_
      refine O.pu (Pu.move (.tmp (v:=.bool _) rfl)) ?_
      refine O.splitN (fun c=>?_) (fun c=>?_)
      · rw [if_neg c] at h
        refine G.skip (W.f rfl rfl rfl) ?_
        refine G.skip (W.f rfl rfl rfl) ?_
        refine O.pu (Pu.pickT (.tmp rfl) .bool) ?_
        refine O.pu (Pu.move (.tmp (v:=.bool _) rfl)) ?_
        refine G.skip (W.f rfl rfl rfl) ?_
        refine G.skip (W.f rfl rfl rfl) ?_
        refine O.pu (Pu.pickT (.tmp rfl) .bool) ?_
        refine O.pu (Pu.move (.tmp (v:=.bool _) rfl)) ?_
        refine G.skip (W.f rfl rfl rfl) ?_
        refine G.skip (W.f rfl rfl rfl) ?_
        refine O.pu (Pu.pickT (.tmp rfl) .bool) ?_
        refine O.pu (Pu.move (.tmp (v:=.bool _) rfl)) ?_
        refine G.skip (W.f rfl rfl rfl) ?_
        refine G.skip (W.f rfl rfl rfl) ?_
        refine G.skip (W.f rfl rfl rfl) ?_
        refine O.pu (Pu.pickT (.tmp rfl) .bool) ?_
        refine O.nil ?_
        repeat (rw [chattellaw11_CountParts.j1_e] at h;obtain ⟨k,_,h⟩:=h;unfold chattellaw11_CountParts.j1 at h;try dsimp only at h)
        rw [if_pos rfl] at h
        refine X.condT (.tmp rfl) ?_
        refine X.seq ?_
        refine X.still ?_
        refine O.pu (Pu.assign .bool) ?_
        refine O.nil ?_
        refine X.ret ?_
        cases h
        exact E.fin [] (.tmp (v:=.bool _) rfl .nil) (.cons (.cl .bool) .nil)
      · rw [if_pos c] at h
        refine G.pu (W.t rfl rfl) (Pu.move (.tmp (v:=.int _ _) rfl)) ?_
        refine G.pu (W.t rfl rfl) (Pu.bin (.tmp rfl) .int .neq) ?_
        refine O.pu (Pu.pickF (.tmp rfl) (.tmp (v:=.bool _) rfl)) ?_
        refine O.pu (Pu.move (.tmp (v:=.bool _) rfl)) ?_
        refine O.splitN (fun c=>?_) (fun c=>?_)
        · rw [if_neg c] at h
          refine G.skip (W.f rfl rfl rfl) ?_
          refine G.skip (W.f rfl rfl rfl) ?_
          refine O.pu (Pu.pickT (.tmp rfl) .bool) ?_
          refine O.pu (Pu.move (.tmp (v:=.bool _) rfl)) ?_
          refine G.skip (W.f rfl rfl rfl) ?_
          refine G.skip (W.f rfl rfl rfl) ?_
          refine O.pu (Pu.pickT (.tmp rfl) .bool) ?_
          refine O.pu (Pu.move (.tmp (v:=.bool _) rfl)) ?_
          refine G.skip (W.f rfl rfl rfl) ?_
          refine G.skip (W.f rfl rfl rfl) ?_
          refine G.skip (W.f rfl rfl rfl) ?_
          refine O.pu (Pu.pickT (.tmp rfl) .bool) ?_
          refine O.nil ?_
          repeat (rw [chattellaw11_CountParts.j1_e] at h;obtain ⟨k,_,h⟩:=h;unfold chattellaw11_CountParts.j1 at h;try dsimp only at h)
          rw [if_pos rfl] at h
          refine X.condT (.tmp rfl) ?_
          refine X.seq ?_
          refine X.still ?_
          refine O.pu (Pu.assign .bool) ?_
          refine O.nil ?_
          refine X.ret ?_
          cases h
          exact E.fin [] (.tmp (v:=.bool _) rfl .nil) (.cons (.cl .bool) .nil)
        · rw [if_pos c] at h
          refine G.pu (W.t rfl rfl) (Pu.move (.tmp (v:=.int _ _) rfl)) ?_
          refine G.pu (W.t rfl rfl) (Pu.bin (.tmp rfl) .int .neq) ?_
          refine O.pu (Pu.pickF (.tmp rfl) (.tmp (v:=.bool _) rfl)) ?_
          refine O.pu (Pu.move (.tmp (v:=.bool _) rfl)) ?_
          refine O.splitN (fun c=>?_) (fun c=>?_)
          · rw [if_neg c] at h
            refine G.skip (W.f rfl rfl rfl) ?_
            refine G.skip (W.f rfl rfl rfl) ?_
            refine O.pu (Pu.pickT (.tmp rfl) .bool) ?_
            refine O.pu (Pu.move (.tmp (v:=.bool _) rfl)) ?_
            refine G.skip (W.f rfl rfl rfl) ?_
            refine G.skip (W.f rfl rfl rfl) ?_
            refine G.skip (W.f rfl rfl rfl) ?_
            refine O.pu (Pu.pickT (.tmp rfl) .bool) ?_
            refine O.nil ?_
            repeat (rw [chattellaw11_CountParts.j1_e] at h;obtain ⟨k,_,h⟩:=h;unfold chattellaw11_CountParts.j1 at h;try dsimp only at h)
            rw [if_pos rfl] at h
            refine X.condT (.tmp rfl) ?_
            refine X.seq ?_
            refine X.still ?_
            refine O.pu (Pu.assign .bool) ?_
            refine O.nil ?_
            refine X.ret ?_
            cases h
            exact E.fin [] (.tmp (v:=.bool _) rfl .nil) (.cons (.cl .bool) .nil)
          · rw [if_pos c] at h
            refine G.pu (W.t rfl rfl) (Pu.move (.tmp (v:=.int _ _) rfl)) ?_
            refine G.pu (W.t rfl rfl) (Pu.bin (.tmp rfl) .int .neq) ?_
            refine O.pu (Pu.pickF (.tmp rfl) (.tmp (v:=.bool _) rfl)) ?_
            refine O.pu (Pu.move (.tmp (v:=.bool _) rfl)) ?_
            refine O.splitN (fun c=>?_) (fun c=>?_)
            · rw [if_neg c] at h
              refine G.skip (W.f rfl rfl rfl) ?_
              refine G.skip (W.f rfl rfl rfl) ?_
              refine G.skip (W.f rfl rfl rfl) ?_
              refine O.pu (Pu.pickT (.tmp rfl) .bool) ?_
              refine O.nil ?_
              repeat (rw [chattellaw11_CountParts.j1_e] at h;obtain ⟨k,_,h⟩:=h;unfold chattellaw11_CountParts.j1 at h;try dsimp only at h)
              rw [if_pos rfl] at h
              refine X.condT (.tmp rfl) ?_
              refine X.seq ?_
              refine X.still ?_
              refine O.pu (Pu.assign .bool) ?_
              refine O.nil ?_
              refine X.ret ?_
              cases h
              exact E.fin [] (.tmp (v:=.bool _) rfl .nil) (.cons (.cl .bool) .nil)
            · rw [if_pos c] at h
              refine G.pu (W.t rfl rfl) (U.load (.tmp rfl) rfl rfl (U.whole rfl rfl)) ?_
              obtain ⟨q8,Hq8,h⟩:=Option.bind_eq_some_iff.1 h
              refine G.pu (W.t rfl rfl) (U.call (ss:=[]) (.cons (.tmp (v:=.agg _) rfl) .nil) (.cons (.cl (.aggL (.cons .fi (.cons .bool (.cons .fi .nil))))) .nil) (frac_Frac_Sign.cs Hq8) (.inl rfl) (.int)) ?_
              refine G.pu (W.t rfl rfl) (Pu.bin (.tmp rfl) .int .neq) ?_
              refine O.pu (Pu.pickF (.tmp rfl) (.tmp (v:=.bool _) rfl)) ?_
              refine O.nil ?_
              repeat (rw [chattellaw11_CountParts.j1_e] at h;obtain ⟨k,_,h⟩:=h;unfold chattellaw11_CountParts.j1 at h;try dsimp only at h)
              refine X.condN (.tmp rfl) (fun c=>?_) (fun c=>?_)
              · rw [if_pos (ne1 c)] at h
                refine X.seq ?_
                refine X.still ?_
                refine O.pu (Pu.assign .bool) ?_
                refine O.nil ?_
                refine X.ret ?_
                cases h
                exact E.fin [] (.tmp (v:=.bool _) rfl .nil) (.cons (.cl .bool) .nil)
              · rw [if_neg (ne0 c)] at h
                refine X.skip ?_
                refine X.seq ?_
                refine X.drawn ?_
                refine D.pu (Pu.move (.tmp (v:=.int _ _) rfl)) ?_
                refine D.pu (Pu.bin (.tmp rfl) .int .neq) ?_
                refine D.pu (Pu.move (.tmp (v:=.bool _) rfl)) ?_
                refine D.splitN (fun c=>?_) (fun c=>?_)
                · rw [if_neg c] at h
                  refine D.gpu (W.t rfl rfl) (U.load (.tmp rfl) rfl rfl (U.whole rfl rfl)) ?_
                  refine D.gpu (W.t rfl rfl) (U.load (.tmp rfl) rfl rfl (U.whole rfl rfl)) ?_
                  obtain ⟨q9,Hq9,h⟩:=Option.bind_eq_some_iff.1 h
                  refine D.gpu (W.t rfl rfl) (U.call (ss:=[]) (.cons (.tmp (v:=.agg _) rfl) (.cons (.tmp (v:=.agg _) rfl) .nil)) (.cons (.cl (.aggL (.cons .fi (.cons .bool (.cons .fi .nil))))) (.cons (.cl (.aggL (.cons .fi (.cons .bool (.cons .fi .nil))))) .nil)) (frac_Frac_Add.cs Hq9) (.inl rfl) (.aggL (.cons .fi (.cons .bool (.cons .fi .nil))))) ?_
                  refine D.gpu (W.t rfl rfl) (U.load (.tmp rfl) rfl rfl (U.whole rfl rfl)) ?_
                  obtain ⟨q10,Hq10,h⟩:=Option.bind_eq_some_iff.1 h
                  refine D.gpu (W.t rfl rfl) (U.call (ss:=[]) (.cons (.tmp (v:=.agg _) rfl) (.cons (.tmp (v:=.agg _) rfl) .nil)) (.cons (.cl (.aggL (.cons .fi (.cons .bool (.cons .fi .nil))))) (.cons (.cl (.aggL (.cons .fi (.cons .bool (.cons .fi .nil))))) .nil)) (frac_Frac_Cmp.cs Hq10) (.inl rfl) (.int)) ?_
                  refine D.gpu (W.t rfl rfl) (Pu.bin (.tmp rfl) .int .neq) ?_
                  refine D.gpu (W.t rfl rfl) (Pu.move (.tmp (v:=.bool _) rfl)) ?_
                  refine D.splitN (fun c=>?_) (fun c=>?_)
                  · rw [if_neg c] at h
                    refine D.gskip (W.f rfl rfl rfl) ?_
                    refine D.gskip (W.f rfl rfl rfl) ?_
                    refine D.gskip (W.f rfl rfl rfl) ?_
                    refine D.gskip (W.f rfl rfl rfl) ?_
                    refine D.gpu (W.t rfl rfl) (Pu.pickT (.tmp rfl) .bool) ?_
                    refine D.gpu (W.t rfl rfl) (Pu.move (.tmp (v:=.bool _) rfl)) ?_
                    refine D.gskip (W.f rfl rfl rfl) ?_
                    refine D.gskip (W.f rfl rfl rfl) ?_
                    refine D.gskip (W.f rfl rfl rfl) ?_
                    refine D.gpu (W.t rfl rfl) (Pu.pickT (.tmp rfl) .bool) ?_
                    refine D.pu (Pu.pickT (.tmp rfl) (.tmp (v:=.bool _) rfl)) ?_
                    refine D.nil (by kernel_rfl) ?_
                    refine X.condT (.tmp rfl) ?_
                    refine X.seq ?_
                    refine X.still ?_
                    refine O.pu (Pu.assign .bool) ?_
                    refine O.nil ?_
                    refine X.ret ?_
                    cases h
                    exact E.fin [] (.tmp (v:=.bool _) rfl .nil) (.cons (.cl .bool) .nil)
                  · rw [if_pos c] at h
                    refine D.gpu (W.t rfl rfl) (U.load (.tmp rfl) rfl rfl (U.whole rfl rfl)) ?_
                    refine D.gpu (W.t rfl rfl) (U.load (.tmp rfl) rfl rfl (U.whole rfl rfl)) ?_
                    obtain ⟨q11,Hq11,h⟩:=Option.bind_eq_some_iff.1 h
                    refine D.gpu (W.t rfl rfl) (U.call (ss:=[]) (.cons (.tmp (v:=.agg _) rfl) (.cons (.tmp (v:=.agg _) rfl) .nil)) (.cons (.cl (.aggL (.cons .fi (.cons .bool (.cons .fi .nil))))) (.cons (.cl (.aggL (.cons .fi (.cons .bool (.cons .fi .nil))))) .nil)) (frac_Frac_Cmp.cs Hq11) (.inl rfl) (.int)) ?_
                    refine D.gpu (W.t rfl rfl) (Pu.bin (.tmp rfl) .int .gtr) ?_
                    refine D.gpu (W.t rfl rfl) (Pu.pickF (.tmp rfl) (.tmp (v:=.bool _) rfl)) ?_
                    refine D.gpu (W.t rfl rfl) (Pu.move (.tmp (v:=.bool _) rfl)) ?_
                    refine D.splitP (fun c=>?_) (fun c=>?_)
                    · rw [if_pos c] at h
                      refine D.gskip (W.f rfl rfl rfl) ?_
                      refine D.gskip (W.f rfl rfl rfl) ?_
                      refine D.gskip (W.f rfl rfl rfl) ?_
                      refine D.gpu (W.t rfl rfl) (Pu.pickT (.tmp rfl) .bool) ?_
                      refine D.pu (Pu.pickT (.tmp rfl) (.tmp (v:=.bool _) rfl)) ?_
                      refine D.nil (by kernel_rfl) ?_
                      refine X.condT (.tmp rfl) ?_
                      refine X.seq ?_
                      refine X.still ?_
                      refine O.pu (Pu.assign .bool) ?_
                      refine O.nil ?_
                      refine X.ret ?_
                      cases h
                      exact E.fin [] (.tmp (v:=.bool _) rfl .nil) (.cons (.cl .bool) .nil)
                    · rw [if_neg c] at h
                      refine D.gpu (W.t rfl rfl) (U.load (.tmp rfl) rfl rfl (U.whole rfl rfl)) ?_
                      obtain ⟨q12,Hq12,h⟩:=Option.bind_eq_some_iff.1 h
                      refine D.gpu (W.t rfl rfl) (U.call (ss:=[]) (.cons (.tmp (v:=.agg _) rfl) .nil) (.cons (.cl (.aggL (.cons .fi (.cons .bool (.cons .fi .nil))))) .nil) (frac_Frac_Sign.cs Hq12) (.inl rfl) (.int)) ?_
                      refine D.gpu (W.t rfl rfl) (Pu.bin (.tmp rfl) .int .lss) ?_
                      refine D.gpu (W.t rfl rfl) (Pu.pickF (.tmp rfl) (.tmp (v:=.bool _) rfl)) ?_
                      refine D.pu (Pu.pickT (.tmp rfl) (.tmp (v:=.bool _) rfl)) ?_
                      refine D.nil (by kernel_rfl) ?_
                      refine X.condP (.tmp rfl) (fun c=>?_) (fun c=>?_)
                      · rw [if_pos c] at h
                        refine X.seq ?_
                        refine X.still ?_
                        refine O.pu (Pu.assign .bool) ?_
                        refine O.nil ?_
                        refine X.ret ?_
                        cases h
                        exact E.fin [] (.tmp (v:=.bool _) rfl .nil) (.cons (.cl .bool) .nil)
                      · rw [if_neg c] at h
                        refine X.skip ?_
                        refine X.still ?_
                        refine O.pu (Pu.bin (.tmp rfl) .int U.add64) ?_
                        refine O.pu (Pu.move (.tmp (v:=.int _ _) rfl)) ?_
                        refine O.nil ?_
                        exact ⟨_,(by omega),_,_,_,_,_,_,_,_,_,_,_,_,_,_,_,_,_,_,_,_,_,rfl,rfl,rfl,rfl,rfl,rfl,rfl,rfl,rfl,rfl,rfl,h⟩
                · rw [if_pos c] at h
                  refine D.gskip (W.f rfl rfl rfl) ?_
                  refine D.gskip (W.f rfl rfl rfl) ?_
                  refine D.gskip (W.f rfl rfl rfl) ?_
                  refine D.gskip (W.f rfl rfl rfl) ?_
                  refine D.gskip (W.f rfl rfl rfl) ?_
                  refine D.gskip (W.f rfl rfl rfl) ?_
                  refine D.gskipN (b:=false) (W.f rfl rfl rfl) ?_
                  refine D.gskip (W.n rfl rfl) ?_
                  refine D.gskip (W.n rfl rfl) ?_
                  refine D.gskip (W.n rfl rfl) ?_
                  refine D.gskip (W.n rfl rfl) ?_
                  refine D.gskip (W.f rfl rfl rfl) ?_
                  refine D.gskipN (b:=false) (W.f rfl rfl rfl) ?_
                  refine D.gskip (W.n rfl rfl) ?_
                  refine D.gskip (W.n rfl rfl) ?_
                  refine D.gskip (W.n rfl rfl) ?_
                  refine D.gskip (W.f rfl rfl rfl) ?_
                  refine D.pu (Pu.pickF (.tmp rfl) .bool) ?_
                  refine D.nil (by kernel_rfl) ?_
                  refine X.condF (.tmp rfl) ?_
                  refine X.skip ?_
                  refine X.still ?_
                  refine O.pu (Pu.bin (.tmp rfl) .int U.add64) ?_
                  refine O.pu (Pu.move (.tmp (v:=.int _ _) rfl)) ?_
                  refine O.nil ?_
                  exact ⟨_,(by omega),_,_,_,_,_,_,_,_,_,_,_,_,_,_,_,_,_,_,_,_,_,rfl,rfl,rfl,rfl,rfl,rfl,rfl,rfl,rfl,rfl,rfl,h⟩
    · rw [if_neg c] at h
      refine X.exit (B.out ?_)
      refine X.seq ?_
      refine X.still ?_
      obtain ⟨q13,Hq13,h⟩:=Option.bind_eq_some_iff.1 h
      refine O.pu (U.call (ss:=[]) .nil .nil (chattellaw11_wakes.cs Hq13) (.inl rfl) (.bool)) ?_
      refine O.pu (Pu.assign (.tmp (v:=.bool _) rfl)) ?_
      refine O.nil ?_
      refine X.ret ?_
      cases h
      exact E.fin [] (.tmp (v:=.bool _) rfl .nil) (.cons (.cl .bool) .nil)
end Go.Proofs.Ytelfpflfikaloaa
end
