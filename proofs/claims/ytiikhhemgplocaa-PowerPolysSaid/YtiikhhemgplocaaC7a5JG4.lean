-- Joined of: G77 G50 G22 G79 G53 G23 G5 X6
import Derived.Test.YtiikhhemgplocaaC7a5JG3
import Derived.Test.YtiikhhemgplocaaC7a5JG2
import Derived.Test.YtiikhhemgplocaaC7a5WWords
section
namespace Go.Proofs.Ytiikhhemgplocaa
open Go.AVL Go.RowKit Go.Proofs.Ytiikhhemgplocaa.F Go.Proofs.YtiikhhemgplocaaX Go.Proofs.YtiikhhemgplocaaW.PrintWords Go.Proofs.YtiikhhemgplocaaW.PrintLast Go.Proofs.YtiikhhemgplocaaW.PrintMore
set_option linter.unusedVariables false
set_option linter.unusedSimpArgs false
set_option maxRecDepth 100000
set_option maxHeartbeats 4000000
noncomputable def c77:Code:=Try.f77.body.getD .skip
theorem fn77:FnOk Try.prog 77 Try.f77 c77:=⟨Try.func77,rfl,by kernel_rfl,by kernel_rfl,mixed⟩
theorem chattelref04_Add.cs {k:Nat} {l0_0:List Int} {a0_1:Bool} {l1_0:List Int} {a1_1:Bool} {r:List Int×Bool} (h:chattelref04_Add.f k l0_0 a0_1 l1_0 a1_1=some r):CS Try.prog 77 [.agg [.fi .i64 l0_0, .bool a0_1], .agg [.fi .i64 l1_0, .bool a1_1]] .no [.agg [.fi .i64 r.1, .bool r.2]]:=by
  unfold chattelref04_Add.f at h
  refine E.pure fn77 rfl ?_
  refine X.seq ?_
  refine X.still ?_
  refine O.puE (v':=.op 2 (1) 0 0) (b':=⟨1, .own,_,_⟩) (Pu.box (.tmp (v:=.agg _) rfl) rfl rfl) rfl rfl ?_
  refine O.puE (v':=.op 3 (1) 0 0) (b':=⟨1, .own,_,_⟩) (Pu.box (.tmp (v:=.agg _) rfl) rfl rfl) rfl rfl ?_
  refine O.puE (v':=.op 4 (1) 0 0) (b':=⟨1, .own,(.vals [.agg [.fi .i64 [], .bool false]]),_⟩) Pu.alloc rfl rfl ?_
  refine O.nil ?_
  refine X.seq ?_
  refine X.seq ?_
  refine X.still ?_
  refine O.pu (U.fieldA rfl rfl rfl (.tmp rfl)) ?_
  refine O.pu (U.load (.tmp rfl) rfl rfl (U.cell rfl rfl rfl)) ?_
  refine O.pu (U.fieldA rfl rfl rfl (.tmp rfl)) ?_
  refine O.pu (U.load (.tmp rfl) rfl rfl (U.cell rfl rfl rfl)) ?_
  refine O.pu (Pu.bin (.tmp rfl) (.tmp rfl) (.beql rfl)) ?_
  refine O.nil ?_
  refine X.cond (.tmp rfl) (fun c=>?_) (fun c=>?_)
  · rw [if_pos c] at h
    refine X.seq ?_
    refine X.still ?_
    refine O.pu (U.fieldA rfl rfl rfl (.tmp rfl)) ?_
    refine O.pu (U.load (.tmp rfl) rfl rfl (U.cell rfl rfl rfl)) ?_
    refine O.pu (U.fieldA rfl rfl rfl (.tmp rfl)) ?_
    refine O.pu (U.load (.tmp rfl) rfl rfl (U.cell rfl rfl rfl)) ?_
    obtain ⟨q1,Hq1,h⟩:=Option.bind_eq_some_iff.1 h
    refine O.pu (U.call (ss:=[]) (.cons (.tmp (v:=.fi _ _) rfl) (.cons (.tmp (v:=.fi _ _) rfl) .nil)) (.cons (.cl .fi) (.cons (.cl .fi) .nil)) (chattelref01_Add.cs Hq1) (.inl rfl) (.fi)) ?_
    refine O.pu (Pu.assign (.tmp (v:=.fi _ _) rfl)) ?_
    refine O.nil ?_
    refine X.seq ?_
    refine X.still ?_
    refine O.pu (Pu.move (.tmp (v:=.fi _ _) rfl)) ?_
    refine O.pu (U.fieldA rfl rfl rfl (.tmp rfl)) ?_
    refine O.pu (U.load (.tmp rfl) rfl rfl (U.cell rfl rfl rfl)) ?_
    obtain ⟨q2,Hq2,h⟩:=Option.bind_eq_some_iff.1 h
    refine O.pu (U.call (ss:=[]) (.cons (.tmp (v:=.fi _ _) rfl) (.cons (.tmp (v:=.bool _) rfl) .nil)) (.cons (.cl .fi) (.cons (.cl .bool) .nil)) (chattelref04_Of.cs Hq2) (.inl rfl) (.aggL (.cons .fi (.cons .bool .nil)))) ?_
    refine O.ef0 (U.storeE (.tmp rfl) rfl rfl (.tmp (v:=.agg _) rfl) rfl rfl (.whole (notBad_ne rfl) rfl) .one) ?_
    refine O.nil ?_
    refine X.ret ?_
    cases h
    exact E.fin [] (.cell rfl rfl (Mode.live_ne rfl) (U.whole rfl rfl) .nil) (.cons (.cl (.aggL (.cons .fi (.cons .bool .nil)))) .nil)
  · rw [if_neg (bf c)] at h
    refine X.skip ?_
    refine X.seq ?_
    refine X.still ?_
    refine O.pu (U.fieldA rfl rfl rfl (.tmp rfl)) ?_
    refine O.pu (U.load (.tmp rfl) rfl rfl (U.cell rfl rfl rfl)) ?_
    refine O.pu (U.fieldA rfl rfl rfl (.tmp rfl)) ?_
    refine O.pu (U.load (.tmp rfl) rfl rfl (U.cell rfl rfl rfl)) ?_
    obtain ⟨q3,Hq3,h⟩:=Option.bind_eq_some_iff.1 h
    refine O.pu (U.call (ss:=[]) (.cons (.tmp (v:=.fi _ _) rfl) (.cons (.tmp (v:=.fi _ _) rfl) .nil)) (.cons (.cl .fi) (.cons (.cl .fi) .nil)) (chattelref01_Cmp.cs Hq3) (.inl rfl) (.int)) ?_
    refine O.pu (Pu.assign (.tmp (v:=.int _ _) rfl)) ?_
    refine O.nil ?_
    refine X.seq ?_
    refine X.seq ?_
    refine X.still ?_
    refine O.pu (Pu.move (.tmp (v:=.int _ _) rfl)) ?_
    refine O.pu (Pu.bin (.tmp rfl) .int .geq) ?_
    refine O.nil ?_
    refine X.condP (.tmp rfl) (fun c=>?_) (fun c=>?_)
    · rw [if_pos c] at h
      refine X.seq ?_
      refine X.still ?_
      refine O.pu (U.fieldA rfl rfl rfl (.tmp rfl)) ?_
      refine O.pu (U.load (.tmp rfl) rfl rfl (U.cell rfl rfl rfl)) ?_
      refine O.pu (U.fieldA rfl rfl rfl (.tmp rfl)) ?_
      refine O.pu (U.load (.tmp rfl) rfl rfl (U.cell rfl rfl rfl)) ?_
      obtain ⟨q4,Hq4,h⟩:=Option.bind_eq_some_iff.1 h
      refine O.pu (U.call (ss:=[]) (.cons (.tmp (v:=.fi _ _) rfl) (.cons (.tmp (v:=.fi _ _) rfl) .nil)) (.cons (.cl .fi) (.cons (.cl .fi) .nil)) (chattelref01_Sub.cs Hq4) (.inl rfl) (.fi)) ?_
      refine O.pu (Pu.assign (.tmp (v:=.fi _ _) rfl)) ?_
      refine O.nil ?_
      refine X.seq ?_
      refine X.still ?_
      refine O.pu (Pu.move (.tmp (v:=.fi _ _) rfl)) ?_
      refine O.pu (U.fieldA rfl rfl rfl (.tmp rfl)) ?_
      refine O.pu (U.load (.tmp rfl) rfl rfl (U.cell rfl rfl rfl)) ?_
      obtain ⟨q5,Hq5,h⟩:=Option.bind_eq_some_iff.1 h
      refine O.pu (U.call (ss:=[]) (.cons (.tmp (v:=.fi _ _) rfl) (.cons (.tmp (v:=.bool _) rfl) .nil)) (.cons (.cl .fi) (.cons (.cl .bool) .nil)) (chattelref04_Of.cs Hq5) (.inl rfl) (.aggL (.cons .fi (.cons .bool .nil)))) ?_
      refine O.ef0 (U.storeE (.tmp rfl) rfl rfl (.tmp (v:=.agg _) rfl) rfl rfl (.whole (notBad_ne rfl) rfl) .one) ?_
      refine O.nil ?_
      refine X.ret ?_
      cases h
      exact E.fin [] (.cell rfl rfl (Mode.live_ne rfl) (U.whole rfl rfl) .nil) (.cons (.cl (.aggL (.cons .fi (.cons .bool .nil)))) .nil)
    · rw [if_neg c] at h
      refine X.skip ?_
      refine X.seq ?_
      refine X.still ?_
      refine O.pu (U.fieldA rfl rfl rfl (.tmp rfl)) ?_
      refine O.pu (U.load (.tmp rfl) rfl rfl (U.cell rfl rfl rfl)) ?_
      refine O.pu (U.fieldA rfl rfl rfl (.tmp rfl)) ?_
      refine O.pu (U.load (.tmp rfl) rfl rfl (U.cell rfl rfl rfl)) ?_
      obtain ⟨q6,Hq6,h⟩:=Option.bind_eq_some_iff.1 h
      refine O.pu (U.call (ss:=[]) (.cons (.tmp (v:=.fi _ _) rfl) (.cons (.tmp (v:=.fi _ _) rfl) .nil)) (.cons (.cl .fi) (.cons (.cl .fi) .nil)) (chattelref01_Sub.cs Hq6) (.inl rfl) (.fi)) ?_
      refine O.pu (Pu.assign (.tmp (v:=.fi _ _) rfl)) ?_
      refine O.nil ?_
      refine X.seq ?_
      refine X.still ?_
      refine O.pu (Pu.move (.tmp (v:=.fi _ _) rfl)) ?_
      refine O.pu (U.fieldA rfl rfl rfl (.tmp rfl)) ?_
      refine O.pu (U.load (.tmp rfl) rfl rfl (U.cell rfl rfl rfl)) ?_
      obtain ⟨q7,Hq7,h⟩:=Option.bind_eq_some_iff.1 h
      refine O.pu (U.call (ss:=[]) (.cons (.tmp (v:=.fi _ _) rfl) (.cons (.tmp (v:=.bool _) rfl) .nil)) (.cons (.cl .fi) (.cons (.cl .bool) .nil)) (chattelref04_Of.cs Hq7) (.inl rfl) (.aggL (.cons .fi (.cons .bool .nil)))) ?_
      refine O.ef0 (U.storeE (.tmp rfl) rfl rfl (.tmp (v:=.agg _) rfl) rfl rfl (.whole (notBad_ne rfl) rfl) .one) ?_
      refine O.nil ?_
      refine X.ret ?_
      cases h
      exact E.fin [] (.cell rfl rfl (Mode.live_ne rfl) (U.whole rfl rfl) .nil) (.cons (.cl (.aggL (.cons .fi (.cons .bool .nil)))) .nil)
noncomputable def c50:Code:=Try.f50.body.getD .skip
theorem fn50:FnOk Try.prog 50 Try.f50 c50:=⟨Try.func50,rfl,by kernel_rfl,by kernel_rfl,mixed⟩
theorem chattelref05_Add.cs {k:Nat} {l0_0:List Int} {a0_1:Bool} {l0_2:List Int} {l1_0:List Int} {a1_1:Bool} {l1_2:List Int} {r:List Int×Bool×List Int} (h:chattelref05_Add.f k l0_0 a0_1 l0_2 l1_0 a1_1 l1_2=some r):CS Try.prog 50 [.agg [.fi .i64 l0_0, .bool a0_1, .fi .i64 l0_2], .agg [.fi .i64 l1_0, .bool a1_1, .fi .i64 l1_2]] .no [.agg [.fi .i64 r.1, .bool r.2.1, .fi .i64 r.2.2]]:=by
  unfold chattelref05_Add.f at h
  refine E.pure fn50 rfl ?_
  refine X.seq ?_
  refine X.still ?_
  refine O.puE (v':=.op 2 (1) 0 0) (b':=⟨1, .own,_,_⟩) (Pu.box (.tmp (v:=.agg _) rfl) rfl rfl) rfl rfl ?_
  refine O.puE (v':=.op 3 (1) 0 0) (b':=⟨1, .own,_,_⟩) (Pu.box (.tmp (v:=.agg _) rfl) rfl rfl) rfl rfl ?_
  refine O.puE (v':=.op 4 (1) 0 0) (b':=⟨1, .own,(.vals [.agg [.fi .i64 [], .bool false, .fi .i64 []]]),_⟩) Pu.alloc rfl rfl ?_
  refine O.nil ?_
  refine X.seq ?_
  refine X.still ?_
  refine O.pu (U.load (.tmp rfl) rfl rfl (U.whole rfl rfl)) ?_
  refine O.pu (U.load (.tmp rfl) rfl rfl (U.whole rfl rfl)) ?_
  obtain ⟨q1,Hq1,h⟩:=Option.bind_eq_some_iff.1 h
  refine O.pu (U.call (ss:=[]) (.cons (.tmp (v:=.agg _) rfl) (.cons (.tmp (v:=.agg _) rfl) .nil)) (.cons (.cl (.aggL (.cons .fi (.cons .bool (.cons .fi .nil))))) (.cons (.cl (.aggL (.cons .fi (.cons .bool (.cons .fi .nil))))) .nil)) (chattelref05_cross.cs Hq1) (.inl rfl) (.aggL (.cons .fi (.cons .bool .nil)))) ?_
  refine O.puE (v':=.op 5 (1) 0 0) (b':=⟨1, .own,(.vals [.agg [.fi .i64 [], .bool false]]),_⟩) Pu.alloc rfl rfl ?_
  refine O.ef0 (U.storeE (.tmp rfl) rfl rfl (.tmp (v:=.agg _) rfl) rfl rfl (.whole (notBad_ne rfl) rfl) .one) ?_
  refine O.nil ?_
  refine X.seq ?_
  refine X.still ?_
  refine O.pu (U.load (.tmp rfl) rfl rfl (U.whole rfl rfl)) ?_
  refine O.pu (U.load (.tmp rfl) rfl rfl (U.whole rfl rfl)) ?_
  obtain ⟨q2,Hq2,h⟩:=Option.bind_eq_some_iff.1 h
  refine O.pu (U.call (ss:=[]) (.cons (.tmp (v:=.agg _) rfl) (.cons (.tmp (v:=.agg _) rfl) .nil)) (.cons (.cl (.aggL (.cons .fi (.cons .bool (.cons .fi .nil))))) (.cons (.cl (.aggL (.cons .fi (.cons .bool (.cons .fi .nil))))) .nil)) (chattelref05_cross.cs Hq2) (.inl rfl) (.aggL (.cons .fi (.cons .bool .nil)))) ?_
  refine O.puE (v':=.op 6 (1) 0 0) (b':=⟨1, .own,(.vals [.agg [.fi .i64 [], .bool false]]),_⟩) Pu.alloc rfl rfl ?_
  refine O.ef0 (U.storeE (.tmp rfl) rfl rfl (.tmp (v:=.agg _) rfl) rfl rfl (.whole (notBad_ne rfl) rfl) .one) ?_
  refine O.nil ?_
  refine X.seq ?_
  refine X.still ?_
  refine O.pu (U.load (.tmp rfl) rfl rfl (U.whole rfl rfl)) ?_
  refine O.pu (U.load (.tmp rfl) rfl rfl (U.whole rfl rfl)) ?_
  obtain ⟨q3,Hq3,h⟩:=Option.bind_eq_some_iff.1 h
  refine O.pu (U.call (ss:=[]) (.cons (.tmp (v:=.agg _) rfl) (.cons (.tmp (v:=.agg _) rfl) .nil)) (.cons (.cl (.aggL (.cons .fi (.cons .bool .nil)))) (.cons (.cl (.aggL (.cons .fi (.cons .bool .nil)))) .nil)) (chattelref04_Add.cs Hq3) (.inl rfl) (.aggL (.cons .fi (.cons .bool .nil)))) ?_
  refine O.puE (v':=.op 7 (1) 0 0) (b':=⟨1, .own,(.vals [.agg [.fi .i64 [], .bool false]]),_⟩) Pu.alloc rfl rfl ?_
  refine O.ef0 (U.storeE (.tmp rfl) rfl rfl (.tmp (v:=.agg _) rfl) rfl rfl (.whole (notBad_ne rfl) rfl) .one) ?_
  refine O.nil ?_
  refine X.seq ?_
  refine X.still ?_
  refine O.pu (U.fieldA rfl rfl rfl (.tmp rfl)) ?_
  refine O.pu (U.load (.tmp rfl) rfl rfl (U.cell rfl rfl rfl)) ?_
  refine O.pu (U.fieldA rfl rfl rfl (.tmp rfl)) ?_
  refine O.pu (U.load (.tmp rfl) rfl rfl (U.cell rfl rfl rfl)) ?_
  obtain ⟨q4,Hq4,h⟩:=Option.bind_eq_some_iff.1 h
  refine O.pu (U.call (ss:=[]) (.cons (.tmp (v:=.fi _ _) rfl) (.cons (.tmp (v:=.fi _ _) rfl) .nil)) (.cons (.cl .fi) (.cons (.cl .fi) .nil)) (chattelref01_Mul.cs Hq4) (.inl rfl) (.fi)) ?_
  refine O.pu (Pu.assign (.tmp (v:=.fi _ _) rfl)) ?_
  refine O.nil ?_
  refine X.seq ?_
  refine X.still ?_
  refine O.pu (U.load (.tmp rfl) rfl rfl (U.whole rfl rfl)) ?_
  refine O.pu (Pu.move (.tmp (v:=.fi _ _) rfl)) ?_
  obtain ⟨q5,Hq5,h⟩:=Option.bind_eq_some_iff.1 h
  refine O.pu (U.call (ss:=[]) (.cons (.tmp (v:=.agg _) rfl) (.cons (.tmp (v:=.fi _ _) rfl) .nil)) (.cons (.cl (.aggL (.cons .fi (.cons .bool .nil)))) (.cons (.cl .fi) .nil)) (chattelref05_Make.cs Hq5) (.inl rfl) (.aggL (.cons .fi (.cons .bool (.cons .fi .nil))))) ?_
  refine O.ef0 (U.storeE (.tmp rfl) rfl rfl (.tmp (v:=.agg _) rfl) rfl rfl (.whole (notBad_ne rfl) rfl) .one) ?_
  refine O.nil ?_
  refine X.ret ?_
  cases h
  exact E.fin [] (.cell rfl rfl (Mode.live_ne rfl) (U.whole rfl rfl) .nil) (.cons (.cl (.aggL (.cons .fi (.cons .bool (.cons .fi .nil))))) .nil)
noncomputable def c22:Code:=Try.f22.body.getD .skip
theorem fn22:FnOk Try.prog 22 Try.f22 c22:=⟨Try.func22,rfl,by kernel_rfl,by kernel_rfl,mixed⟩
theorem chattelref13_Poly.cs {k:Nat} {l0_0:List Int} {a0_1:Bool} {l0_2:List Int} {l1:List (S33)} {r:List Int×Bool×List Int} (h:chattelref13_Poly.f k l0_0 a0_1 l0_2 l1=some r):CS Try.prog 22 [.agg [.fi .i64 l0_0, .bool a0_1, .fi .i64 l0_2], .fv (List.map en33 l1)] .no [.agg [.fi .i64 r.1, .bool r.2.1, .fi .i64 r.2.2]]:=by
  unfold chattelref13_Poly.f at h
  refine E.pure fn22 rfl ?_
  refine X.seq ?_
  refine X.still ?_
  refine O.puE (v':=.op 2 (1) 0 0) (b':=⟨1, .own,_,_⟩) (Pu.box (.tmp (v:=.agg _) rfl) rfl rfl) rfl rfl ?_
  refine O.puE (v':=.op 4 (1) 0 0) (b':=⟨1, .own,(.vals [.agg [.fi .i64 [], .bool false, .fi .i64 []]]),_⟩) Pu.alloc rfl rfl ?_
  refine O.nil ?_
  refine X.seq ?_
  refine X.still ?_
  obtain ⟨q1,Hq1,h⟩:=Option.bind_eq_some_iff.1 h
  refine O.pu (U.call (ss:=[]) (.cons .int (.cons .int .nil)) (.cons (.cl .int) (.cons (.cl .int) .nil)) (chattelref05_Small.cs Hq1) (.inl rfl) (.aggL (.cons .fi (.cons .bool (.cons .fi .nil))))) ?_
  refine O.puE (v':=.op 5 (1) 0 0) (b':=⟨1, .own,(.vals [.agg [.fi .i64 [], .bool false, .fi .i64 []]]),_⟩) Pu.alloc rfl rfl ?_
  refine O.ef0 (U.storeE (.tmp rfl) rfl rfl (.tmp (v:=.agg _) rfl) rfl rfl (.whole (notBad_ne rfl) rfl) .one) ?_
  refine O.nil ?_
  refine X.seq ?_
  refine X.still ?_
  obtain ⟨q2,Hq2,h⟩:=Option.bind_eq_some_iff.1 h
  refine O.pu (U.call (ss:=[]) (.cons .int (.cons .int .nil)) (.cons (.cl .int) (.cons (.cl .int) .nil)) (chattelref05_Small.cs Hq2) (.inl rfl) (.aggL (.cons .fi (.cons .bool (.cons .fi .nil))))) ?_
  refine O.puE (v':=.op 6 (1) 0 0) (b':=⟨1, .own,(.vals [.agg [.fi .i64 [], .bool false, .fi .i64 []]]),_⟩) Pu.alloc rfl rfl ?_
  refine O.ef0 (U.storeE (.tmp rfl) rfl rfl (.tmp (v:=.agg _) rfl) rfl rfl (.whole (notBad_ne rfl) rfl) .one) ?_
  refine O.nil ?_
  refine X.seq ?_
  refine X.seq ?_
  refine X.still ?_
  refine O.pu (Pu.assign .int) ?_
  refine O.nil ?_
  refine X.block ?_
  refine X.inv (fun k s=>∃ x1 x7 x1639000 x1639001 x1639002 x1648000 x1648001 x1648002 x1656000 x1656001 x1656002 u2 u4 u5 u6,s.t 1 = .fv (List.map en33 x1)∧s.t 7 = .int .i64 x7∧s.t 2 = .op 2 u2 0 0∧s.b 2=⟨u2, .own, .vals [.agg [.fi .i64 x1639000, .bool x1639001, .fi .i64 x1639002]],33⟩∧s.t 4 = .op 4 u4 0 0∧s.b 4=⟨u4, .own, .vals [.agg [.fi .i64 [], .bool false, .fi .i64 []]],33⟩∧s.t 5 = .op 5 u5 0 0∧s.b 5=⟨u5, .own, .vals [.agg [.fi .i64 x1648000, .bool x1648001, .fi .i64 x1648002]],33⟩∧s.t 6 = .op 6 u6 0 0∧s.b 6=⟨u6, .own, .vals [.agg [.fi .i64 x1656000, .bool x1656001, .fi .i64 x1656002]],33⟩∧chattelref13_Poly.l0 k x1 x7 x1639000 x1639001 x1639002 x1648000 x1648001 x1648002 x1656000 x1656001 x1656002=some r) ?_ ?_ ⟨_,_,_,_,_,_,_,_,_,_,_,_,_,_,_,rfl,rfl,rfl,rfl,rfl,rfl,rfl,rfl,rfl,rfl,h⟩
  · rintro s ⟨_,_,_,_,_,_,_,_,_,_,_,_,_,_,_,_,_,_,_,_,_,_,_,_,_,h⟩;unfold chattelref13_Poly.l0 at h;cases h
  · rintro k1 s1 ⟨x1,x7,x1639000,x1639001,x1639002,x1648000,x1648001,x1648002,x1656000,x1656001,x1656002,u2,u4,u5,u6,e0,e1,e2,e3,e4,e5,e6,e7,e8,e9,h⟩
    unfold chattelref13_Poly.l0 at h
    rw [St.fixT e0,St.fixT e1,St.fixT e2,St.fixB e3,St.fixT e4,St.fixB e5,St.fixT e6,St.fixB e7,St.fixT e8,St.fixB e9]
    refine X.seq ?_
    refine X.seq ?_
    refine X.still ?_
    refine O.pu (Pu.move (.tmp (v:=.int _ _) rfl)) ?_
    refine O.pu (Pu.move (.tmp (v:=.fv _) rfl)) ?_
    refine O.pu (U.lenS rfl (.tmp rfl)) ?_
    refine O.pu (Pu.bin (.tmp rfl) (.tmp rfl) .lss) ?_
    refine O.nil ?_
    refine X.condP (.tmp rfl) (fun c=>?_) (fun c=>?_)
    · rw [if_pos c] at h
      refine X.skip ?_
      refine X.seq ?_
      refine X.block ?_
      refine X.seq ?_
      refine X.drawn ?_
      refine D.pu (Pu.move (.tmp (v:=.fv _) rfl)) ?_
      refine D.pu (Pu.move (.tmp (v:=.int _ _) rfl)) ?_
      repeat (rw [giff] at h;obtain ⟨_,h⟩:=h)
      refine D.pu (U.rdVS z33 rfl (fun _=>⟨rfl,rfl⟩) (.tmp rfl) (.tmp rfl) (by omega) (by omega)) ?_
      refine D.pu (Pu.loadR (.tmp rfl) (U.whole rfl rfl)) ?_
      refine D.pu (U.load (.tmp rfl) rfl rfl (U.whole rfl rfl)) ?_
      obtain ⟨q3,Hq3,h⟩:=Option.bind_eq_some_iff.1 h
      refine D.pu (U.call (ss:=[]) (.cons (.tmp (v:=.agg _) rfl) (.cons (.tmp (v:=.agg _) rfl) .nil)) (.cons (.cl (.aggL (.cons .fi (.cons .bool (.cons .fi .nil))))) (.cons (.cl (.aggL (.cons .fi (.cons .bool (.cons .fi .nil))))) .nil)) (chattelref05_Mul.cs Hq3) (.inl rfl) (.aggL (.cons .fi (.cons .bool (.cons .fi .nil))))) ?_
      refine D.puE (v':=.op 8 ((s1.b 8).ver + 1) 0 0) (b':=⟨(s1.b 8).ver + 1, .own,(.vals [.agg [.fi .i64 [], .bool false, .fi .i64 []]]),_⟩) Pu.alloc rfl rfl ?_
      refine D.ef0 (C.storeE (.tmp rfl) rfl rfl (.tmp (v:=.agg _) rfl) rfl rfl (.whole (notBad_ne rfl) rfl) .one) ?_
      refine D.nil (by kernel_rfl) ?_
      refine X.seq ?_
      refine X.still ?_
      refine O.pu (U.load (.tmp rfl) rfl rfl (U.whole rfl rfl)) ?_
      refine O.pu (U.load (.tmp rfl) rfl rfl (U.whole rfl rfl)) ?_
      obtain ⟨q4,Hq4,h⟩:=Option.bind_eq_some_iff.1 h
      refine O.pu (U.call (ss:=[]) (.cons (.tmp (v:=.agg _) rfl) (.cons (.tmp (v:=.agg _) rfl) .nil)) (.cons (.cl (.aggL (.cons .fi (.cons .bool (.cons .fi .nil))))) (.cons (.cl (.aggL (.cons .fi (.cons .bool (.cons .fi .nil))))) .nil)) (chattelref05_Add.cs Hq4) (.inl rfl) (.aggL (.cons .fi (.cons .bool (.cons .fi .nil))))) ?_
      refine O.ef0 (U.storeE (.tmp rfl) rfl rfl (.tmp (v:=.agg _) rfl) rfl rfl (.whole (notBad_ne rfl) rfl) .one) ?_
      refine O.nil ?_
      refine X.still ?_
      refine O.pu (U.load (.tmp rfl) rfl rfl (U.whole rfl rfl)) ?_
      refine O.pu (U.load (.tmp rfl) rfl rfl (U.whole rfl rfl)) ?_
      obtain ⟨q5,Hq5,h⟩:=Option.bind_eq_some_iff.1 h
      refine O.pu (U.call (ss:=[]) (.cons (.tmp (v:=.agg _) rfl) (.cons (.tmp (v:=.agg _) rfl) .nil)) (.cons (.cl (.aggL (.cons .fi (.cons .bool (.cons .fi .nil))))) (.cons (.cl (.aggL (.cons .fi (.cons .bool (.cons .fi .nil))))) .nil)) (chattelref05_Mul.cs Hq5) (.inl rfl) (.aggL (.cons .fi (.cons .bool (.cons .fi .nil))))) ?_
      refine O.ef0 (U.storeE (.tmp rfl) rfl rfl (.tmp (v:=.agg _) rfl) rfl rfl (.whole (notBad_ne rfl) rfl) .one) ?_
      refine O.nil ?_
      refine X.still ?_
      refine O.pu (Pu.move (.tmp (v:=.int _ _) rfl)) ?_
      refine O.pu (Pu.bin (.tmp rfl) .int U.add64) ?_
      refine O.pu (Pu.assign (.tmp (v:=.int _ _) rfl)) ?_
      refine O.nil ?_
      exact ⟨_,(by omega),_,_,_,_,_,_,_,_,_,_,_,_,_,_,_,rfl,rfl,rfl,rfl,rfl,rfl,rfl,rfl,rfl,rfl,h⟩
    · rw [if_neg c] at h
      refine X.exit (B.out ?_)
      refine X.seq ?_
      refine X.still ?_
      refine O.pu (U.load (.tmp rfl) rfl rfl (U.whole rfl rfl)) ?_
      refine O.ef0 (U.storeE (.tmp rfl) rfl rfl (.tmp (v:=.agg _) rfl) rfl rfl (.whole (notBad_ne rfl) rfl) .one) ?_
      refine O.nil ?_
      refine X.ret ?_
      cases h
      exact E.fin [] (.cell rfl rfl (Mode.live_ne rfl) (U.whole rfl rfl) .nil) (.cons (.cl (.aggL (.cons .fi (.cons .bool (.cons .fi .nil))))) .nil)
noncomputable def c79:Code:=Try.f79.body.getD .skip
theorem fn79:FnOk Try.prog 79 Try.f79 c79:=⟨Try.func79,rfl,by kernel_rfl,by kernel_rfl,mixed⟩
theorem whole_Int_Sub.cs {k:Nat} {l0_0:List Int} {a0_1:Bool} {l1_0:List Int} {a1_1:Bool} {r:List Int×Bool} (h:whole_Int_Sub.f k l0_0 a0_1 l1_0 a1_1=some r):CS Try.prog 79 [.agg [.fi .u64 l0_0, .bool a0_1], .agg [.fi .u64 l1_0, .bool a1_1]] .no [.agg [.fi .u64 r.1, .bool r.2]]:=by
  unfold whole_Int_Sub.f at h
  refine E.pure fn79 rfl ?_
  refine X.seq ?_
  refine X.still ?_
  refine O.puE (v':=.op 2 (1) 0 0) (b':=⟨1, .own,_,_⟩) (Pu.box (.tmp (v:=.agg _) rfl) rfl rfl) rfl rfl ?_
  refine O.puE (v':=.op 3 (1) 0 0) (b':=⟨1, .own,_,_⟩) (Pu.box (.tmp (v:=.agg _) rfl) rfl rfl) rfl rfl ?_
  refine O.puE (v':=.op 4 (1) 0 0) (b':=⟨1, .own,(.vals [.agg [.fi .u64 [], .bool false]]),_⟩) Pu.alloc rfl rfl ?_
  refine O.nil ?_
  refine X.seq ?_
  refine X.drawn ?_
  refine D.pu (U.load (.tmp rfl) rfl rfl (U.whole rfl rfl)) ?_
  refine D.pu (U.load (.tmp rfl) rfl rfl (U.whole rfl rfl)) ?_
  obtain ⟨q1,Hq1,h⟩:=Option.bind_eq_some_iff.1 h
  refine D.pu (U.call (ss:=[]) (.cons (.tmp (v:=.agg _) rfl) .nil) (.cons (.cl (.aggL (.cons .fi (.cons .bool .nil)))) .nil) (whole_Int_Neg.cs Hq1) (.inl rfl) (.aggL (.cons .fi (.cons .bool .nil)))) ?_
  obtain ⟨q2,Hq2,h⟩:=Option.bind_eq_some_iff.1 h
  refine D.pu (U.call (ss:=[]) (.cons (.tmp (v:=.agg _) rfl) (.cons (.tmp (v:=.agg _) rfl) .nil)) (.cons (.cl (.aggL (.cons .fi (.cons .bool .nil)))) (.cons (.cl (.aggL (.cons .fi (.cons .bool .nil)))) .nil)) (whole_Int_Add.cs Hq2) (.inl rfl) (.aggL (.cons .fi (.cons .bool .nil)))) ?_
  refine D.ef0 (C.storeE (.tmp rfl) rfl rfl (.tmp (v:=.agg _) rfl) rfl rfl (.whole (notBad_ne rfl) rfl) .one) ?_
  refine D.nil (by kernel_rfl) ?_
  refine X.ret ?_
  cases h
  exact E.fin [] (.cell rfl rfl (Mode.live_ne rfl) (U.whole rfl rfl) .nil) (.cons (.cl (.aggL (.cons .fi (.cons .bool .nil)))) .nil)
noncomputable def c53:Code:=Try.f53.body.getD .skip
theorem fn53:FnOk Try.prog 53 Try.f53 c53:=⟨Try.func53,rfl,by kernel_rfl,by kernel_rfl,mixed⟩
theorem whole_Int_Cmp.cs {k:Nat} {l0_0:List Int} {a0_1:Bool} {l1_0:List Int} {a1_1:Bool} {r:Int} (h:whole_Int_Cmp.f k l0_0 a0_1 l1_0 a1_1=some r):CS Try.prog 53 [.agg [.fi .u64 l0_0, .bool a0_1], .agg [.fi .u64 l1_0, .bool a1_1]] .no [.int .i64 r]:=by
  unfold whole_Int_Cmp.f at h
  refine E.pure fn53 rfl ?_
  refine X.seq ?_
  refine X.still ?_
  refine O.puE (v':=.op 2 (1) 0 0) (b':=⟨1, .own,_,_⟩) (Pu.box (.tmp (v:=.agg _) rfl) rfl rfl) rfl rfl ?_
  refine O.puE (v':=.op 3 (1) 0 0) (b':=⟨1, .own,_,_⟩) (Pu.box (.tmp (v:=.agg _) rfl) rfl rfl) rfl rfl ?_
  refine O.pu (Pu.assign .int) ?_
  refine O.nil ?_
  refine X.seq ?_
  refine X.still ?_
  refine O.pu (U.load (.tmp rfl) rfl rfl (U.whole rfl rfl)) ?_
  refine O.pu (U.load (.tmp rfl) rfl rfl (U.whole rfl rfl)) ?_
  obtain ⟨q1,Hq1,h⟩:=Option.bind_eq_some_iff.1 h
  refine O.pu (U.call (ss:=[]) (.cons (.tmp (v:=.agg _) rfl) (.cons (.tmp (v:=.agg _) rfl) .nil)) (.cons (.cl (.aggL (.cons .fi (.cons .bool .nil)))) (.cons (.cl (.aggL (.cons .fi (.cons .bool .nil)))) .nil)) (whole_Int_Sub.cs Hq1) (.inl rfl) (.aggL (.cons .fi (.cons .bool .nil)))) ?_
  obtain ⟨q2,Hq2,h⟩:=Option.bind_eq_some_iff.1 h
  refine O.pu (U.call (ss:=[]) (.cons (.tmp (v:=.agg _) rfl) .nil) (.cons (.cl (.aggL (.cons .fi (.cons .bool .nil)))) .nil) (whole_Int_Sign.cs Hq2) (.inl rfl) (.int)) ?_
  refine O.pu (Pu.assign (.tmp (v:=.int _ _) rfl)) ?_
  refine O.nil ?_
  refine X.ret ?_
  cases h
  exact E.fin [] (.tmp (v:=.int _ _) rfl .nil) (.cons (.cl .int) .nil)
noncomputable def c23:Code:=Try.f23.body.getD .skip
theorem fn23:FnOk Try.prog 23 Try.f23 c23:=⟨Try.func23,rfl,by kernel_rfl,by kernel_rfl,mixed⟩
theorem frac_Frac_Cmp.cs {k:Nat} {l0_0:List Int} {a0_1:Bool} {l0_2:List Int} {l1_0:List Int} {a1_1:Bool} {l1_2:List Int} {r:Int} (h:frac_Frac_Cmp.f k l0_0 a0_1 l0_2 l1_0 a1_1 l1_2=some r):CS Try.prog 23 [.agg [.fi .u64 l0_0, .bool a0_1, .fi .u64 l0_2], .agg [.fi .u64 l1_0, .bool a1_1, .fi .u64 l1_2]] .no [.int .i64 r]:=by
  unfold frac_Frac_Cmp.f at h
  refine E.pure fn23 rfl ?_
  refine X.seq ?_
  refine X.still ?_
  refine O.puE (v':=.op 2 (1) 0 0) (b':=⟨1, .own,_,_⟩) (Pu.box (.tmp (v:=.agg _) rfl) rfl rfl) rfl rfl ?_
  refine O.puE (v':=.op 3 (1) 0 0) (b':=⟨1, .own,_,_⟩) (Pu.box (.tmp (v:=.agg _) rfl) rfl rfl) rfl rfl ?_
  refine O.pu (Pu.assign .int) ?_
  refine O.nil ?_
  refine X.seq ?_
  refine X.drawn ?_
  refine D.pu (U.fieldA rfl rfl rfl (.tmp rfl)) ?_
  refine D.pu (U.load (.tmp rfl) rfl rfl (U.sub rfl (.take (.take .done)))) ?_
  refine D.pu (U.load (.tmp rfl) rfl rfl (U.whole rfl rfl)) ?_
  obtain ⟨q1,Hq1,h⟩:=Option.bind_eq_some_iff.1 h
  refine D.pu (U.call (ss:=[]) (.cons (.tmp (v:=.agg _) rfl) .nil) (.cons (.cl (.aggL (.cons .fi (.cons .bool (.cons .fi .nil))))) .nil) (frac_Frac_den.cs Hq1) (.inl rfl) (.aggL (.cons .fi (.cons .bool .nil)))) ?_
  obtain ⟨q2,Hq2,h⟩:=Option.bind_eq_some_iff.1 h
  refine D.pu (U.call (ss:=[]) (.cons (.tmp (v:=.agg _) rfl) (.cons (.tmp (v:=.agg _) rfl) .nil)) (.cons (.cl (.aggL (.cons .fi (.cons .bool .nil)))) (.cons (.cl (.aggL (.cons .fi (.cons .bool .nil)))) .nil)) (whole_Int_Mul.cs Hq2) (.inl rfl) (.aggL (.cons .fi (.cons .bool .nil)))) ?_
  refine D.pu (U.fieldA rfl rfl rfl (.tmp rfl)) ?_
  refine D.pu (U.load (.tmp rfl) rfl rfl (U.sub rfl (.take (.take .done)))) ?_
  refine D.pu (U.load (.tmp rfl) rfl rfl (U.whole rfl rfl)) ?_
  obtain ⟨q3,Hq3,h⟩:=Option.bind_eq_some_iff.1 h
  refine D.pu (U.call (ss:=[]) (.cons (.tmp (v:=.agg _) rfl) .nil) (.cons (.cl (.aggL (.cons .fi (.cons .bool (.cons .fi .nil))))) .nil) (frac_Frac_den.cs Hq3) (.inl rfl) (.aggL (.cons .fi (.cons .bool .nil)))) ?_
  obtain ⟨q4,Hq4,h⟩:=Option.bind_eq_some_iff.1 h
  refine D.pu (U.call (ss:=[]) (.cons (.tmp (v:=.agg _) rfl) (.cons (.tmp (v:=.agg _) rfl) .nil)) (.cons (.cl (.aggL (.cons .fi (.cons .bool .nil)))) (.cons (.cl (.aggL (.cons .fi (.cons .bool .nil)))) .nil)) (whole_Int_Mul.cs Hq4) (.inl rfl) (.aggL (.cons .fi (.cons .bool .nil)))) ?_
  obtain ⟨q5,Hq5,h⟩:=Option.bind_eq_some_iff.1 h
  refine D.pu (U.call (ss:=[]) (.cons (.tmp (v:=.agg _) rfl) (.cons (.tmp (v:=.agg _) rfl) .nil)) (.cons (.cl (.aggL (.cons .fi (.cons .bool .nil)))) (.cons (.cl (.aggL (.cons .fi (.cons .bool .nil)))) .nil)) (whole_Int_Cmp.cs Hq5) (.inl rfl) (.int)) ?_
  refine D.pu (Pu.assign (.tmp (v:=.int _ _) rfl)) ?_
  refine D.nil (by kernel_rfl) ?_
  refine X.ret ?_
  cases h
  exact E.fin [] (.tmp (v:=.int _ _) rfl .nil) (.cons (.cl .int) .nil)
noncomputable def c5:Code:=Try.f5.body.getD .skip
theorem fn5:FnOk Try.prog 5 Try.f5 c5:=⟨Try.func5,rfl,by kernel_rfl,by kernel_rfl,mixed⟩
theorem chattellaw13_PowerPolys.cs {k:Nat} {a0_0:Int} {a0_1:Int} {l1:List Int} {r:Bool} (h:chattellaw13_PowerPolys.f k a0_0 a0_1 l1=some r):CS Try.prog 5 [.agg [.int .i16 a0_0, .int .i16 a0_1], .fi .i16 l1] .no [.bool r]:=by
  unfold chattellaw13_PowerPolys.f at h
  refine E.pure fn5 rfl ?_
  refine X.seq ?_
  refine X.still ?_
  refine O.puE (v':=.op 2 (1) 0 0) (b':=⟨1, .own,_,_⟩) (Pu.box (.tmp (v:=.agg _) rfl) rfl rfl) rfl rfl ?_
  refine O.pu (Pu.assign .bool) ?_
  refine O.nil ?_
  refine X.seq ?_
  refine X.still ?_
  refine O.pu (U.indexAr rfl rfl (.tmp rfl) rfl rfl rfl .int (by decide) (by decide)) ?_
  refine O.pu (U.load (.tmp rfl) rfl rfl (U.cell rfl rfl rfl)) ?_
  refine O.pu (U.conv64 rfl (.tmp rfl)) ?_
  refine O.pu (U.indexAr rfl rfl (.tmp rfl) rfl rfl rfl .int (by decide) (by decide)) ?_
  refine O.pu (U.load (.tmp rfl) rfl rfl (U.cell rfl rfl rfl)) ?_
  refine O.pu (U.conv64 rfl (.tmp rfl)) ?_
  refine O.pu (U.mx .int (.tmp rfl)) ?_
  refine O.pu (Pu.bin .int (.tmp rfl) U.add64) ?_
  obtain ⟨q1,Hq1,h⟩:=Option.bind_eq_some_iff.1 h
  refine O.pu (U.call (ss:=[]) (.cons (.tmp (v:=.int _ _) rfl) (.cons (.tmp (v:=.int _ _) rfl) .nil)) (.cons (.cl .int) (.cons (.cl .int) .nil)) (chattellaw13_of.cs Hq1) (.inl rfl) (.tupL (.cons (.aggL (.cons .fi (.cons .bool (.cons .fi .nil)))) (.cons (.aggL (.cons .fi (.cons .bool (.cons .fi .nil)))) .nil)))) ?_
  refine O.pu (Pu.move (.tmp (v:=.tup _) rfl)) ?_
  refine O.pu (Pu.extract (.tmp rfl) rfl) ?_
  refine O.pu (Pu.extract (.tmp rfl) rfl) ?_
  refine O.puE (v':=.op 5 (1) 0 0) (b':=⟨1, .own,(.vals [.agg [.fi .u64 [], .bool false, .fi .u64 []]]),_⟩) Pu.alloc rfl rfl ?_
  refine O.puE (v':=.op 6 (1) 0 0) (b':=⟨1, .own,(.vals [.agg [.fi .i64 [], .bool false, .fi .i64 []]]),_⟩) Pu.alloc rfl rfl ?_
  refine O.ef0 (U.storeE (.tmp rfl) rfl rfl (.tmp (v:=.agg _) rfl) rfl rfl (.whole (notBad_ne rfl) rfl) .one) ?_
  refine O.ef0 (U.storeE (.tmp rfl) rfl rfl (.tmp (v:=.agg _) rfl) rfl rfl (.whole (notBad_ne rfl) rfl) .one) ?_
  refine O.nil ?_
  refine X.seq ?_
  refine X.still ?_
  refine O.ef (U.nilOE (u:=1) (row:=.vals (List.map en28 [])) (e:=28) rfl rfl) ?_
  refine O.nil ?_
  refine X.seq ?_
  refine X.still ?_
  refine O.ef (U.nilOE (u:=1) (row:=.vals (List.map en33 [])) (e:=33) rfl rfl) ?_
  refine O.nil ?_
  refine X.seq ?_
  refine X.still ?_
  refine O.pu (Pu.assign .int) ?_
  refine O.nil ?_
  refine X.seq ?_
  refine X.still ?_
  refine O.pu (Pu.assign .str) ?_
  refine O.nil ?_
  refine X.seq ?_
  refine X.seq ?_
  refine X.still ?_
  refine O.pu (Pu.move (.tmp (v:=.fi _ _) rfl)) ?_
  refine O.pu (Pu.move (.tmp (v:=.fi _ _) rfl)) ?_
  refine O.pu (Pu.lenI rfl (.tmp rfl)) ?_
  refine O.pu (U.mn (.tmp rfl) .int) ?_
  repeat (rw [giff] at h;obtain ⟨_,h⟩:=h)
  refine O.pu (U.sliceH rfl rfl (.tmp rfl) .no (.yes (.tmp rfl) (by omega)) .no (by omega) (by omega)) ?_
  refine O.pu (Pu.lenI rfl (.tmp rfl)) ?_
  refine O.pu (Pu.move .int) ?_
  refine O.nil ?_
  refine X.block ?_
  refine X.inv (fun k s=>∃ x7 x8 x9 x10 x35 x36 x37 x1695000 x1695001 x1695002 x1696000 x1696001 x1696002 n7 n8 u2 u5 u6 u7 u8 z2_0 z2_1,s.b 7=⟨u7, .own, .vals (List.map en28 x7),28⟩∧s.t 7 = .os 7 u7 0 n7 true∧x7.length=n7∧s.b 8=⟨u8, .own, .vals (List.map en33 x8),33⟩∧s.t 8 = .os 8 u8 0 n8 true∧x8.length=n8∧s.t 9 = .int .i64 x9∧s.t 10 = .str x10∧s.t 35 = .fi .i16 x35∧s.t 36 = .int .i64 x36∧s.t 37 = .int .i64 x37∧s.t 2 = .op 2 u2 0 0∧s.b 2=⟨u2, .own, .vals [.agg [.int .i16 z2_0, .int .i16 z2_1]],50⟩∧s.t 5 = .op 5 u5 0 0∧s.b 5=⟨u5, .own, .vals [.agg [.fi .u64 x1695000, .bool x1695001, .fi .u64 x1695002]],28⟩∧s.t 6 = .op 6 u6 0 0∧s.b 6=⟨u6, .own, .vals [.agg [.fi .i64 x1696000, .bool x1696001, .fi .i64 x1696002]],33⟩∧chattellaw13_PowerPolys.l0 k x7 x8 x9 x10 x35 x36 x37 x1695000 x1695001 x1695002 x1696000 x1696001 x1696002=some r) ?_ ?_ ⟨_,_,_,_,_,_,_,_,_,_,_,_,_,_,_,_,_,_,_,_,_,_,rfl,rfl,rfl,rfl,rfl,rfl,rfl,rfl,rfl,rfl,rfl,rfl,rfl,rfl,rfl,rfl,rfl,h⟩
  · rintro s ⟨_,_,_,_,_,_,_,_,_,_,_,_,_,_,_,_,_,_,_,_,_,_,_,_,_,_,_,_,_,_,_,_,_,_,_,_,_,_,_,h⟩;unfold chattellaw13_PowerPolys.l0 at h;cases h
  · rintro k1 s1 ⟨x7,x8,x9,x10,x35,x36,x37,x1695000,x1695001,x1695002,x1696000,x1696001,x1696002,n7,n8,u2,u5,u6,u7,u8,z2_0,z2_1,e0,e1,rfl,e3,e4,rfl,e6,e7,e8,e9,e10,e11,e12,e13,e14,e15,e16,h⟩
    unfold chattellaw13_PowerPolys.l0 at h
    rw [St.fixB e0,St.fixT e1,St.fixB e3,St.fixT e4,St.fixT e6,St.fixT e7,St.fixT e8,St.fixT e9,St.fixT e10,St.fixT e11,St.fixB e12,St.fixT e13,St.fixB e14,St.fixT e15,St.fixB e16]
    refine X.seq ?_
    refine X.still ?_
    refine O.pu (Pu.bin (.tmp rfl) (.tmp rfl) .lss) ?_
    refine O.nil ?_
    refine X.seq ?_
    refine X.condP (.tmp rfl) (fun c=>?_) (fun c=>?_)
    · rw [if_pos c] at h
      refine X.skip ?_
      refine X.seq ?_
      refine X.block ?_
      refine X.seq ?_
      refine X.still ?_
      refine O.pu (Pu.move (.tmp (v:=.int _ _) rfl)) ?_
      repeat (rw [giff] at h;obtain ⟨_,h⟩:=h)
      refine O.pu (U.rdI rfl rfl (.tmp rfl) (.tmp rfl) (by omega) (by omega)) ?_
      refine O.pu (Pu.loadR (.tmp rfl) (U.self rfl rfl rfl)) ?_
      refine O.pu (Pu.assign (.tmp (v:=.int _ _) rfl)) ?_
      refine O.pu (Pu.assign (.tmp (v:=.int _ _) rfl)) ?_
      refine O.nil ?_
      refine X.seq ?_
      refine X.still ?_
      refine O.pu (Pu.move (.tmp (v:=.int _ _) rfl)) ?_
      refine O.pu (U.conv64 rfl (.tmp rfl)) ?_
      obtain ⟨q2,Hq2,h⟩:=Option.bind_eq_some_iff.1 h
      refine O.pu (U.call (ss:=[]) (.cons (.tmp (v:=.int _ _) rfl) (.cons .int .nil)) (.cons (.cl .int) (.cons (.cl .int) .nil)) (chattellaw13_of.cs Hq2) (.inl rfl) (.tupL (.cons (.aggL (.cons .fi (.cons .bool (.cons .fi .nil)))) (.cons (.aggL (.cons .fi (.cons .bool (.cons .fi .nil)))) .nil)))) ?_
      refine O.pu (Pu.move (.tmp (v:=.tup _) rfl)) ?_
      refine O.pu (Pu.extract (.tmp rfl) rfl) ?_
      refine O.pu (Pu.extract (.tmp rfl) rfl) ?_
      refine O.puE (v':=.op 13 ((s1.b 13).ver + 1) 0 0) (b':=⟨(s1.b 13).ver + 1, .own,(.vals [.agg [.fi .u64 [], .bool false, .fi .u64 []]]),_⟩) Pu.alloc rfl rfl ?_
      refine O.puE (v':=.op 14 ((s1.b 14).ver + 1) 0 0) (b':=⟨(s1.b 14).ver + 1, .own,(.vals [.agg [.fi .i64 [], .bool false, .fi .i64 []]]),_⟩) Pu.alloc rfl rfl ?_
      refine O.ef0 (U.storeE (.tmp rfl) rfl rfl (.tmp (v:=.agg _) rfl) rfl rfl (.whole (notBad_ne rfl) rfl) .one) ?_
      refine O.ef0 (U.storeE (.tmp rfl) rfl rfl (.tmp (v:=.agg _) rfl) rfl rfl (.whole (notBad_ne rfl) rfl) .one) ?_
      refine O.nil ?_
      refine X.seq ?_
      refine X.drawn ?_
      refine D.pu (Pu.move (.tmp (v:=.os _ _ _ _ _) rfl)) ?_
      refine D.pu (U.load (.tmp rfl) rfl rfl (U.whole rfl rfl)) ?_
      refine D.puE (v':=.os 50 ((s1.b 50).ver + 1) 0 _ true) (b':=⟨(s1.b 50).ver + 1, .own,_,_⟩) (U.litS (en:=en28) (l:=[⟨⟨⟨_⟩,_⟩,⟨_⟩⟩]) rfl (.cons (.tmp (v:=.agg _) rfl) rfl .nil) rfl rfl rfl (fun _=>rfl)) rfl rfl ?_
      repeat first|(rw [giff] at h;obtain ⟨_,h⟩:=h)|rw [bdff] at h
      refine D.ef (C.appendSE (en:=en28) (u':=(s1.b 51).ver + 1) rfl (.tmp rfl) rfl (by first|rfl|(simp only [List.length_append,List.length_cons,List.length_nil] at *;omega)) (.tmp rfl) (.osVf (List.mem_singleton.2 rfl) rfl (Mode.live_ne rfl) rfl (ClL.map fun _=>.aggL (.cons .fi (.cons .bool (.cons .fi .nil)))) (by simp)) rfl (fun _=>⟨rfl,rfl⟩) (by simp only [maxLen,List.length_cons,List.length_nil];omega) (by simp only [List.length_cons,List.length_nil];omega) rfl) ?_
      refine D.pu (Pu.move (.tmp (v:=.os _ _ _ _ _) rfl)) ?_
      refine D.pu (U.load (.tmp rfl) rfl rfl (U.whole rfl rfl)) ?_
      refine D.puE (v':=.os 54 ((s1.b 54).ver + 1) 0 _ true) (b':=⟨(s1.b 54).ver + 1, .own,_,_⟩) (U.litS (en:=en33) (l:=[⟨⟨_,_⟩,_⟩]) rfl (.cons (.tmp (v:=.agg _) rfl) rfl .nil) rfl rfl rfl (fun _=>rfl)) rfl rfl ?_
      refine D.ef (C.appendSE (en:=en33) (u':=(s1.b 55).ver + 1) rfl (.tmp rfl) rfl (by first|rfl|(simp only [List.length_append,List.length_cons,List.length_nil] at *;omega)) (.tmp rfl) (.osVf (List.mem_singleton.2 rfl) rfl (Mode.live_ne rfl) rfl (ClL.map fun _=>.aggL (.cons .fi (.cons .bool (.cons .fi .nil)))) (by simp)) rfl (fun _=>⟨rfl,rfl⟩) (by simp only [maxLen,List.length_cons,List.length_nil];omega) (by simp only [List.length_cons,List.length_nil];omega) rfl) ?_
      refine D.pu (Pu.move (.tmp (v:=.int _ _) rfl)) ?_
      refine D.pu (Pu.move (.tmp (v:=.int _ _) rfl)) ?_
      refine D.pu (U.conv64 rfl (.tmp rfl)) ?_
      refine D.pu (Pu.bin (.tmp rfl) (.tmp rfl) U.add64) ?_
      refine D.ef (C.takeE (u':=u7 + 1) (.tmp rfl) rfl (ne_of_beq rfl) rfl) ?_
      refine D.ef (C.takeE (u':=u8 + 1) (.tmp rfl) rfl (ne_of_beq rfl) rfl) ?_
      refine D.pu (Pu.assign (.tmp (v:=.int _ _) rfl)) ?_
      refine D.nil (by kernel_rfl) ?_
      refine X.seq ?_
      refine X.still ?_
      refine O.pu (Pu.move (.tmp (v:=.int _ _) rfl)) ?_
      refine O.pu (Pu.bin (.tmp rfl) .int .eql) ?_
      refine O.nil ?_
      refine X.condE (.tmp rfl) (fun c=>?_) (fun c=>?_)
      · rw [if_pos c] at h
        refine X.still ?_
        refine O.pu (U.load (.tmp rfl) rfl rfl (U.whole rfl rfl)) ?_
        obtain ⟨q3,Hq3,h⟩:=Option.bind_eq_some_iff.1 h
        refine O.pu (U.call (ss:=[]) (.cons (.tmp (v:=.agg _) rfl) .nil) (.cons (.cl (.aggL (.cons .fi (.cons .bool (.cons .fi .nil))))) .nil) (frac_Frac_Print.cs Hq3) (.inl rfl) (.str)) ?_
        refine O.pu (Pu.assign (.tmp (v:=.str _) rfl)) ?_
        refine O.nil ?_
        refine X.still ?_
        refine O.pu (Pu.bin (.tmp rfl) .int U.add64) ?_
        refine O.pu (Pu.move (.tmp (v:=.int _ _) rfl)) ?_
        refine O.nil ?_
        exact ⟨_,(by omega),_,_,_,_,_,_,_,_,_,_,_,_,_,_,_,_,_,_,_,_,_,_,rfl,rfl,(by first|rfl|(simp only [List.length_set];done)|(simp only [List.length_drop,List.length_take,List.length_append,List.length_set] at *;omega)),rfl,rfl,(by first|rfl|(simp only [List.length_set];done)|(simp only [List.length_drop,List.length_take,List.length_append,List.length_set] at *;omega)),rfl,rfl,rfl,rfl,rfl,rfl,rfl,rfl,rfl,rfl,rfl,h⟩
      · rw [if_neg c] at h
        refine X.skip ?_
        refine X.still ?_
        refine O.pu (Pu.bin (.tmp rfl) .int U.add64) ?_
        refine O.pu (Pu.move (.tmp (v:=.int _ _) rfl)) ?_
        refine O.nil ?_
        exact ⟨_,(by omega),_,_,_,_,_,_,_,_,_,_,_,_,_,_,_,_,_,_,_,_,_,_,rfl,rfl,(by first|rfl|(simp only [List.length_set];done)|(simp only [List.length_drop,List.length_take,List.length_append,List.length_set] at *;omega)),rfl,rfl,(by first|rfl|(simp only [List.length_set];done)|(simp only [List.length_drop,List.length_take,List.length_append,List.length_set] at *;omega)),rfl,rfl,rfl,rfl,rfl,rfl,rfl,rfl,rfl,rfl,rfl,h⟩
    · rw [if_neg c] at h
      refine X.exit (B.out ?_)
      refine X.seq ?_
      refine X.still ?_
      refine O.pu (Pu.move (.tmp (v:=.int _ _) rfl)) ?_
      obtain ⟨q4,Hq4,h⟩:=Option.bind_eq_some_iff.1 h
      refine O.pu (U.call (ss:=[]) (.cons (.tmp (v:=.int _ _) rfl) (.cons .int .nil)) (.cons (.cl .int) (.cons (.cl .int) .nil)) (chattellaw13_of.cs Hq4) (.inl rfl) (.tupL (.cons (.aggL (.cons .fi (.cons .bool (.cons .fi .nil)))) (.cons (.aggL (.cons .fi (.cons .bool (.cons .fi .nil)))) .nil)))) ?_
      refine O.pu (Pu.move (.tmp (v:=.tup _) rfl)) ?_
      refine O.pu (Pu.extract (.tmp rfl) rfl) ?_
      refine O.pu (Pu.extract (.tmp rfl) rfl) ?_
      refine O.puE (v':=.op 15 ((s1.b 15).ver + 1) 0 0) (b':=⟨(s1.b 15).ver + 1, .own,(.vals [.agg [.fi .u64 [], .bool false, .fi .u64 []]]),_⟩) Pu.alloc rfl rfl ?_
      refine O.puE (v':=.op 16 ((s1.b 16).ver + 1) 0 0) (b':=⟨(s1.b 16).ver + 1, .own,(.vals [.agg [.fi .i64 [], .bool false, .fi .i64 []]]),_⟩) Pu.alloc rfl rfl ?_
      refine O.ef0 (U.storeE (.tmp rfl) rfl rfl (.tmp (v:=.agg _) rfl) rfl rfl (.whole (notBad_ne rfl) rfl) .one) ?_
      refine O.ef0 (U.storeE (.tmp rfl) rfl rfl (.tmp (v:=.agg _) rfl) rfl rfl (.whole (notBad_ne rfl) rfl) .one) ?_
      refine O.nil ?_
      refine X.seq ?_
      refine X.still ?_
      obtain ⟨q5,Hq5,h⟩:=Option.bind_eq_some_iff.1 h
      refine O.pu (U.call (ss:=[]) (.cons .int (.cons .int .nil)) (.cons (.cl .int) (.cons (.cl .int) .nil)) (chattellaw13_of.cs Hq5) (.inl rfl) (.tupL (.cons (.aggL (.cons .fi (.cons .bool (.cons .fi .nil)))) (.cons (.aggL (.cons .fi (.cons .bool (.cons .fi .nil)))) .nil)))) ?_
      refine O.pu (Pu.move (.tmp (v:=.tup _) rfl)) ?_
      refine O.pu (Pu.extract (.tmp rfl) rfl) ?_
      refine O.pu (Pu.extract (.tmp rfl) rfl) ?_
      refine O.puE (v':=.op 17 ((s1.b 17).ver + 1) 0 0) (b':=⟨(s1.b 17).ver + 1, .own,(.vals [.agg [.fi .u64 [], .bool false, .fi .u64 []]]),_⟩) Pu.alloc rfl rfl ?_
      refine O.puE (v':=.op 18 ((s1.b 18).ver + 1) 0 0) (b':=⟨(s1.b 18).ver + 1, .own,(.vals [.agg [.fi .i64 [], .bool false, .fi .i64 []]]),_⟩) Pu.alloc rfl rfl ?_
      refine O.ef0 (U.storeE (.tmp rfl) rfl rfl (.tmp (v:=.agg _) rfl) rfl rfl (.whole (notBad_ne rfl) rfl) .one) ?_
      refine O.ef0 (U.storeE (.tmp rfl) rfl rfl (.tmp (v:=.agg _) rfl) rfl rfl (.whole (notBad_ne rfl) rfl) .one) ?_
      refine O.nil ?_
      refine X.seq ?_
      refine X.drawn ?_
      obtain ⟨q6,Hq6,h⟩:=Option.bind_eq_some_iff.1 h
      refine D.pu (U.call (ss:=[]) .nil .nil (chattellaw13_wakes.cs Hq6) (.inl rfl) (.bool)) ?_
      refine D.pu (Pu.move (.tmp (v:=.bool _) rfl)) ?_
      refine D.split (fun c=>?_) (fun c=>?_)
      · rw [if_pos c] at h
        refine D.gpu (W.t rfl rfl) (U.load (.tmp rfl) rfl rfl (U.whole rfl rfl)) ?_
        refine D.gpu (W.t rfl rfl) (Pu.move (.tmp (v:=.os _ _ _ _ _) rfl)) ?_
        obtain ⟨q7,Hq7,h⟩:=Option.bind_eq_some_iff.1 h
        refine D.gef (W.t rfl rfl) (C.callZ (ss:=[7]) (.cons (.tmp (v:=.agg _) rfl) (.cons (.tmp (v:=.os _ _ _ _ _) rfl) .nil)) (.cons (.cl (.aggL (.cons .fi (.cons .bool (.cons .fi .nil))))) (.cons (.osVf (by simp) rfl (Mode.live_ne rfl) rfl (ClL.map fun _=>.aggL (.cons .fi (.cons .bool (.cons .fi .nil)))) (by first|rfl|(simp only [List.length_map,List.length_append,List.length_cons,List.length_nil] at *;done)|(simp only [List.length_map,List.length_append,List.length_cons,List.length_nil] at *;omega))) .nil)) (power_Poly.cs Hq7) (.aggL (.cons .fi (.cons .bool (.cons .fi .nil)))) (nowin rfl)) ?_
        obtain ⟨q8,Hq8,h⟩:=Option.bind_eq_some_iff.1 h
        refine D.gpu (W.t rfl rfl) (U.call (ss:=[]) (.cons (.tmp (v:=.agg _) rfl) .nil) (.cons (.cl (.aggL (.cons .fi (.cons .bool (.cons .fi .nil))))) .nil) (frac_Frac_Print.cs Hq8) (.inl rfl) (.str)) ?_
        refine D.gpu (W.t rfl rfl) (U.load (.tmp rfl) rfl rfl (U.whole rfl rfl)) ?_
        refine D.gpu (W.t rfl rfl) (Pu.move (.tmp (v:=.os _ _ _ _ _) rfl)) ?_
        obtain ⟨q9,Hq9,h⟩:=Option.bind_eq_some_iff.1 h
        refine D.gef (W.t rfl rfl) (C.callZ (ss:=[8]) (.cons (.tmp (v:=.agg _) rfl) (.cons (.tmp (v:=.os _ _ _ _ _) rfl) .nil)) (.cons (.cl (.aggL (.cons .fi (.cons .bool (.cons .fi .nil))))) (.cons (.osVf (by simp) rfl (Mode.live_ne rfl) rfl (ClL.map fun _=>.aggL (.cons .fi (.cons .bool (.cons .fi .nil)))) (by first|rfl|(simp only [List.length_map,List.length_append,List.length_cons,List.length_nil] at *;done)|(simp only [List.length_map,List.length_append,List.length_cons,List.length_nil] at *;omega))) .nil)) (chattelref13_Poly.cs Hq9) (.aggL (.cons .fi (.cons .bool (.cons .fi .nil)))) (nowin rfl)) ?_
        obtain ⟨q10,Hq10,h⟩:=Option.bind_eq_some_iff.1 h
        refine D.gpu (W.t rfl rfl) (U.call (ss:=[]) (.cons (.tmp (v:=.agg _) rfl) .nil) (.cons (.cl (.aggL (.cons .fi (.cons .bool (.cons .fi .nil))))) .nil) (chattelref05_Print.cs Hq10) (.inl rfl) (.str)) ?_
        refine D.gpu (W.t rfl rfl) (Pu.bin (.tmp rfl) (.tmp rfl) .seql) ?_
        refine D.pu (Pu.pickT (.tmp rfl) (.tmp (v:=.bool _) rfl)) ?_
        refine D.pu (Pu.move (.tmp (v:=.bool _) rfl)) ?_
        refine D.splitS rfl (fun c=>?_) (fun c=>?_)
        · rw [if_pos c] at h
          refine D.gpu (W.t rfl rfl) (Pu.build rfl .nil) ?_
          refine D.gpu (W.t rfl rfl) (Pu.move (.tmp (v:=.os _ _ _ _ _) rfl)) ?_
          obtain ⟨q11,Hq11,h⟩:=Option.bind_eq_some_iff.1 h
          refine D.gef (W.t rfl rfl) (C.callZ (ss:=[7]) (.cons (.tmp (v:=.agg _) rfl) (.cons (.tmp (v:=.os _ _ _ _ _) rfl) .nil)) (.cons (.cl (.aggL (.cons .fi (.cons .bool (.cons .fi .nil))))) (.cons (.osVf (by simp) rfl (Mode.live_ne rfl) rfl (ClL.map fun _=>.aggL (.cons .fi (.cons .bool (.cons .fi .nil)))) (by first|rfl|(simp only [List.length_map,List.length_append,List.length_cons,List.length_nil] at *;done)|(simp only [List.length_map,List.length_append,List.length_cons,List.length_nil] at *;omega))) .nil)) (power_Poly.cs Hq11) (.aggL (.cons .fi (.cons .bool (.cons .fi .nil)))) (nowin rfl)) ?_
          obtain ⟨q12,Hq12,h⟩:=Option.bind_eq_some_iff.1 h
          refine D.gpu (W.t rfl rfl) (U.call (ss:=[]) (.cons (.tmp (v:=.agg _) rfl) .nil) (.cons (.cl (.aggL (.cons .fi (.cons .bool (.cons .fi .nil))))) .nil) (frac_Frac_Print.cs Hq12) (.inl rfl) (.str)) ?_
          refine D.gpu (W.t rfl rfl) (Pu.move (.tmp (v:=.str _) rfl)) ?_
          refine D.gpu (W.t rfl rfl) (Pu.bin (.tmp rfl) (.tmp rfl) .seql) ?_
          refine D.pu (Pu.pickT (.tmp rfl) (.tmp (v:=.bool _) rfl)) ?_
          refine D.pu (Pu.move (.tmp (v:=.bool _) rfl)) ?_
          refine D.splitS rfl (fun c=>?_) (fun c=>?_)
          · rw [if_pos c] at h
            refine D.gpu (W.t rfl rfl) (U.load (.tmp rfl) rfl rfl (U.whole rfl rfl)) ?_
            refine D.gpu (W.t rfl rfl) (Pu.move (.tmp (v:=.os _ _ _ _ _) rfl)) ?_
            obtain ⟨q13,Hq13,h⟩:=Option.bind_eq_some_iff.1 h
            refine D.gef (W.t rfl rfl) (C.callZ (ss:=[7]) (.cons (.tmp (v:=.agg _) rfl) (.cons (.tmp (v:=.os _ _ _ _ _) rfl) .nil)) (.cons (.cl (.aggL (.cons .fi (.cons .bool (.cons .fi .nil))))) (.cons (.osVf (by simp) rfl (Mode.live_ne rfl) rfl (ClL.map fun _=>.aggL (.cons .fi (.cons .bool (.cons .fi .nil)))) (by first|rfl|(simp only [List.length_map,List.length_append,List.length_cons,List.length_nil] at *;done)|(simp only [List.length_map,List.length_append,List.length_cons,List.length_nil] at *;omega))) .nil)) (power_Poly.cs Hq13) (.aggL (.cons .fi (.cons .bool (.cons .fi .nil)))) (nowin rfl)) ?_
            refine D.gpu (W.t rfl rfl) (U.load (.tmp rfl) rfl rfl (U.whole rfl rfl)) ?_
            obtain ⟨q14,Hq14,h⟩:=Option.bind_eq_some_iff.1 h
            refine D.gpu (W.t rfl rfl) (U.call (ss:=[]) (.cons (.tmp (v:=.agg _) rfl) (.cons (.tmp (v:=.agg _) rfl) .nil)) (.cons (.cl (.aggL (.cons .fi (.cons .bool (.cons .fi .nil))))) (.cons (.cl (.aggL (.cons .fi (.cons .bool (.cons .fi .nil))))) .nil)) (frac_Frac_Cmp.cs Hq14) (.inl rfl) (.int)) ?_
            refine D.gpu (W.t rfl rfl) (Pu.bin (.tmp rfl) .int .eql) ?_
            refine D.pu (Pu.pickT (.tmp rfl) (.tmp (v:=.bool _) rfl)) ?_
            refine D.pu (Pu.assign (.tmp (v:=.bool _) rfl)) ?_
            refine D.nil (by kernel_rfl) ?_
            refine X.ret ?_
            cases h
            exact E.fin [] (.tmp (v:=.bool _) rfl .nil) (.cons (.cl .bool) .nil)
          · rw [if_neg c] at h
            refine D.gskip (W.f rfl rfl rfl) ?_
            refine D.gskip (W.f rfl rfl rfl) ?_
            refine D.gskip (W.f rfl rfl rfl) ?_
            refine D.gskip (W.f rfl rfl rfl) ?_
            refine D.gskip (W.f rfl rfl rfl) ?_
            refine D.gskip (W.f rfl rfl rfl) ?_
            refine D.pu (Pu.pickF (.tmp rfl) .bool) ?_
            refine D.pu (Pu.assign (.tmp (v:=.bool _) rfl)) ?_
            refine D.nil (by kernel_rfl) ?_
            refine X.ret ?_
            cases h
            exact E.fin [] (.tmp (v:=.bool _) rfl .nil) (.cons (.cl .bool) .nil)
        · rw [if_neg c] at h
          refine D.gskip (W.f rfl rfl rfl) ?_
          refine D.gskip (W.f rfl rfl rfl) ?_
          refine D.gskip (W.f rfl rfl rfl) ?_
          refine D.gskip (W.f rfl rfl rfl) ?_
          refine D.gskip (W.f rfl rfl rfl) ?_
          refine D.gskip (W.f rfl rfl rfl) ?_
          refine D.pu (Pu.pickF (.tmp rfl) .bool) ?_
          refine D.pu (Pu.move (.tmp (v:=.bool _) rfl)) ?_
          refine D.gskip (W.f rfl rfl rfl) ?_
          refine D.gskip (W.f rfl rfl rfl) ?_
          refine D.gskip (W.f rfl rfl rfl) ?_
          refine D.gskip (W.f rfl rfl rfl) ?_
          refine D.gskip (W.f rfl rfl rfl) ?_
          refine D.gskip (W.f rfl rfl rfl) ?_
          refine D.pu (Pu.pickF (.tmp rfl) .bool) ?_
          refine D.pu (Pu.assign (.tmp (v:=.bool _) rfl)) ?_
          refine D.nil (by kernel_rfl) ?_
          refine X.ret ?_
          cases h
          exact E.fin [] (.tmp (v:=.bool _) rfl .nil) (.cons (.cl .bool) .nil)
      · rw [if_neg (bf c)] at h
        refine D.gskip (W.f rfl rfl rfl) ?_
        refine D.gskip (W.f rfl rfl rfl) ?_
        refine D.gskip (W.f rfl rfl rfl) ?_
        refine D.gskip (W.f rfl rfl rfl) ?_
        refine D.gskip (W.f rfl rfl rfl) ?_
        refine D.gskip (W.f rfl rfl rfl) ?_
        refine D.gskip (W.f rfl rfl rfl) ?_
        refine D.gskip (W.f rfl rfl rfl) ?_
        refine D.gskip (W.f rfl rfl rfl) ?_
        refine D.pu (Pu.pickF (.tmp rfl) .bool) ?_
        refine D.pu (Pu.move (.tmp (v:=.bool _) rfl)) ?_
        refine D.gskip (W.f rfl rfl rfl) ?_
        refine D.gskip (W.f rfl rfl rfl) ?_
        refine D.gskip (W.f rfl rfl rfl) ?_
        refine D.gskip (W.f rfl rfl rfl) ?_
        refine D.gskip (W.f rfl rfl rfl) ?_
        refine D.gskip (W.f rfl rfl rfl) ?_
        refine D.pu (Pu.pickF (.tmp rfl) .bool) ?_
        refine D.pu (Pu.move (.tmp (v:=.bool _) rfl)) ?_
        refine D.gskip (W.f rfl rfl rfl) ?_
        refine D.gskip (W.f rfl rfl rfl) ?_
        refine D.gskip (W.f rfl rfl rfl) ?_
        refine D.gskip (W.f rfl rfl rfl) ?_
        refine D.gskip (W.f rfl rfl rfl) ?_
        refine D.gskip (W.f rfl rfl rfl) ?_
        refine D.pu (Pu.pickF (.tmp rfl) .bool) ?_
        refine D.pu (Pu.assign (.tmp (v:=.bool _) rfl)) ?_
        refine D.nil (by kernel_rfl) ?_
        refine X.ret ?_
        cases h
        exact E.fin [] (.tmp (v:=.bool _) rfl .nil) (.cons (.cl .bool) .nil)
end Go.Proofs.Ytiikhhemgplocaa
end

section
namespace Go.AVL
open Go.RowKit Go.Proofs.YtiikhhemgplocaaW.PrintWords
set_option linter.unusedVariables false
section
variable {P : Program} {w : World} {m : Nat → Reg}
def allOf (w:World):Nat→Prop:=fun k=>k < w.heap.size
theorem vr_reads {k:IntKind} {a:Option Addr} {cap:Nat} {l:List Int} (h:ReadsInt w k a l.length l) (hc:l.length≤cap):VR (allOf w) w noB m (.fi k l) (.slice a l.length cap):=by
  refine .fi k l a cap hc fun i hi=>?_
  obtain ⟨ad,e,hr⟩:=h.2.2 (by omega)
  have h0:=hr 0 (by omega)
  have hi':=hr i hi
  have hs:ad.spot=none:=by
    unfold World.cell? Addr.add at h0
    rw [if_pos rfl] at h0
    cases hsp:ad.spot with
    | none=>rfl
    | some s =>
      rw [hsp] at h0
      split at h0 <;> simp at h0
  have ha:ad.add i=⟨ad.block,ad.off + i,none⟩:=by
    unfold Addr.add
    by_cases hz:i=0
    · subst hz
      rw [if_pos rfl]
      cases ad with
      | mk b o s=>simp only at hs;rw [hs];rfl
    · rw [if_neg hz]
  rw [ha] at hi'
  refine ⟨ad,e,hs,?_,hi'⟩
  unfold World.cell? at hi'
  split at hi'
  · next c _ _ hb=>exact lt_of_some hb
  · cases hi'
inductive VRs (w:World) (m:Nat→Reg):List AV→List Value→Prop
  | nil:VRs w m [] []
  | cons {v V vs Vs}:VR (allOf w) w noB m v V→V.oneCell'=true→VRs w m vs Vs→VRs w m (v :: vs) (V :: Vs)
theorem VRs.spec {vs:List AV} {Vs:List Value} (h:VRs w m vs Vs):vs.length=Vs.length∧(∀ u ∈ Vs,u.oneCell'=true)∧∀ i,i < vs.length→VR (allOf w) w noB m (vs.getD i .bad) (Vs.getD i undef):=by
  induction h with
  | nil=>exact ⟨rfl,fun u hu=>by simp at hu,fun i hi=>absurd hi (Nat.not_lt_zero i)⟩
  | cons hv h1 _ ih =>
    obtain ⟨i1,i2,i3⟩:=ih
    refine ⟨by simp [i1],fun u hu=>?_,fun i hi=>?_⟩
    · rcases List.mem_cons.1 hu with rfl|hu
      · exact h1
      · exact i2 u hu
    · cases i with
      | zero=>exact hv
      | succ i=>exact i3 i (by simpa using hi)
theorem VRs.agg {vs:List AV} {Vs:List Value} (h:VRs w m vs Vs):VR (allOf w) w noB m (.agg vs) (.agg Vs.toArray):=by
  obtain ⟨h1,h2,h3⟩:=h.spec
  refine .agg vs _ (by simpa using h1) (by simpa using h2) fun i hi=>?_
  have:=h3 i hi
  simpa [Array.getD_eq_getD_getElem?,List.getD_eq_getElem?_getD] using this
inductive VRa (w:World) (m:Nat→Reg):List AV→List Value→Prop
  | nil:VRa w m [] []
  | cons {v V vs Vs}:VR (allOf w) w noB m v V→VRa w m vs Vs→VRa w m (v :: vs) (V :: Vs)
theorem VRa.spec {vs:List AV} {Vs:List Value} (h:VRa w m vs Vs):vs.length=Vs.length∧∀ i,i < vs.length→VR (allOf w) w noB m (vs.getD i .bad) (Vs.getD i undef):=by
  induction h with
  | nil=>exact ⟨rfl,fun i hi=>absurd hi (Nat.not_lt_zero i)⟩
  | cons hv _ ih =>
    refine ⟨by simp [ih.1],fun i hi=>?_⟩
    cases i with
    | zero=>exact hv
    | succ i=>exact ih.2 i (by simpa using hi)
theorem calls_of_cs {f:FuncId} {fn:Func} {code:Code} (hf:FnOk P f fn code) {args:List AV} {Vs:List Value} {res:List AV} (h:CS P f args .no res) (hv:VRa w (fun _=>default) args Vs) :
    Calls P f Vs.toArray w fun e w'=>∃ v,e = .returned v∧Below w.heap.size w w'∧∃ I' m',VR I' w' noB m' (AV.mk res) v:=by
  obtain ⟨h1,h2⟩:=hv.spec
  have hc:=h (allOf w) none w (fun _=>default) Vs.toArray (fun _=>rfl) (WR.fresh _ w _ fun k hk=>hk) (by simpa using h1.symm) fun i hi=>by
    have:=h2 i hi
    show VR (allOf w) w noB (fun _=>default) _ _
    simpa [Array.getD_eq_getD_getElem?,List.getD_eq_getElem?_getD] using this
  have he:(callFunc f Vs.toArray).run P w = .ok (.enter f Vs.toArray) w:=by
    have hn:=hf.name
    simp only [beq_eq_false_iff_ne,ne_eq] at hn
    simp [callFunc,program,Sem.run,hf.eq,hn,hf.body]
  unfold CallW at hc
  rw [he] at hc
  refine Calls.mono hc fun e w' hr=>?_
  cases e with
  | returned v =>
    obtain ⟨I',m',hw,_,hvr⟩:=hr
    exact ⟨v,rfl,⟨hw.os,hw.tape,hw.output,hw.size,fun k hk=>hw.frame k hk (by simp)⟩,I',m',hvr⟩
  | _=>exact hr.elim
theorem calls_true {f:FuncId} {fn:Func} {code:Code} (hf:FnOk P f fn code) {args:List AV} {Vs:List Value} (h:CS P f args .no [.bool true]) (hv:VRa w (fun _=>default) args Vs) :
    Calls P f Vs.toArray w fun e w'=>e = .returned (.bool true)∧Below w.heap.size w w':=by
  refine (calls_of_cs hf h hv).mono ?_
  rintro e w' ⟨v,rfl,hb,I',m',hr⟩
  have hr:VR I' w' noB m' (.bool true) v:=hr
  rw [hr.bool_inv]
  exact ⟨rfl,hb⟩
end
end Go.AVL
end
