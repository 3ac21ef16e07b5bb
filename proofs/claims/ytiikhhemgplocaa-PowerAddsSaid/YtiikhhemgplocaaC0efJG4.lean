-- Joined of: G6 X6
import Derived.Test.YtiikhhemgplocaaC0efJG3
import Derived.Test.YtiikhhemgplocaaC0efJG2
import Derived.Test.YtiikhhemgplocaaC0efWWords
section
namespace Go.Proofs.Ytiikhhemgplocaa
open Go.AVL Go.RowKit Go.Proofs.Ytiikhhemgplocaa.F Go.Proofs.YtiikhhemgplocaaX Go.Proofs.YtiikhhemgplocaaW.PrintWords Go.Proofs.YtiikhhemgplocaaW.PrintLast Go.Proofs.YtiikhhemgplocaaW.PrintMore
set_option linter.unusedVariables false
set_option linter.unusedSimpArgs false
set_option maxRecDepth 100000
set_option maxHeartbeats 16000000
theorem chattellaw13_PowerAdds.j0_e {k y0 y1 y2 y3 y4 y5 y6 y7 y8 y9 y10 y11 y12 y13 y14 y15 y16 y17 y18 y19 y20 y21 y22 y23 y24 y25 y26 y27 y28 y29 r}:(chattellaw13_PowerAdds.j0 k y0 y1 y2 y3 y4 y5 y6 y7 y8 y9 y10 y11 y12 y13 y14 y15 y16 y17 y18 y19 y20 y21 y22 y23 y24 y25 y26 y27 y28 y29=some r) = ∃ j,k=j + 1∧chattellaw13_PowerAdds.j0 (j + 1) y0 y1 y2 y3 y4 y5 y6 y7 y8 y9 y10 y11 y12 y13 y14 y15 y16 y17 y18 y19 y20 y21 y22 y23 y24 y25 y26 y27 y28 y29=some r:=propext ⟨fun h=>by cases k with|zero=>(unfold chattellaw13_PowerAdds.j0 at h;cases h)|succ k=>exact ⟨k,rfl,h⟩,fun ⟨j,hj,h⟩=>by subst hj;exact h⟩
noncomputable def c6:Code:=Try.f6.body.getD .skip
theorem fn6:FnOk Try.prog 6 Try.f6 c6:=⟨Try.func6,rfl,by kernel_rfl,by kernel_rfl,mixed⟩
theorem chattellaw13_PowerAdds.cs {k:Nat} {a0_0:Int} {a0_1:Int} {a0_2:Int} {a0_3:Int} {a0_4:Int} {a0_5:Int} {r:Bool} (h:chattellaw13_PowerAdds.f k a0_0 a0_1 a0_2 a0_3 a0_4 a0_5=some r):CS Try.prog 6 [.agg [.int .i16 a0_0, .int .i16 a0_1, .int .i16 a0_2, .int .i16 a0_3, .int .u8 a0_4, .int .u8 a0_5]] .no [.bool r]:=by
  unfold chattellaw13_PowerAdds.f at h
  refine E.pure fn6 rfl ?_
  refine X.seq ?_
  refine X.still ?_
  refine O.puE (v':=.op 1 (1) 0 0) (b':=⟨1, .own,_,_⟩) (Pu.box (.tmp (v:=.agg _) rfl) rfl rfl) rfl rfl ?_
  refine O.pu (Pu.assign .bool) ?_
  refine O.nil ?_
  refine X.seq ?_
  refine X.drawn ?_
  refine D.pu (U.fieldA rfl rfl rfl (.tmp rfl)) ?_
  refine D.pu (U.load (.tmp rfl) rfl rfl (U.sub rfl (.take (.take .done)))) ?_
  refine D.pu (U.fieldA rfl rfl rfl (.tmp rfl)) ?_
  refine D.pu (U.load (.tmp rfl) rfl rfl (U.sub rfl (.skip (.skip (.take (.take .done)))))) ?_
  refine D.pu (U.fieldA rfl rfl rfl (.tmp rfl)) ?_
  refine D.pu (U.load (.tmp rfl) rfl rfl (U.cell rfl rfl rfl)) ?_
  refine D.pu (U.fieldA rfl rfl rfl (.tmp rfl)) ?_
  refine D.pu (U.load (.tmp rfl) rfl rfl (U.cell rfl rfl rfl)) ?_
  refine D.puE (v':=.op 3 (1) 0 0) (b':=⟨1, .own,(.vals [.agg [.int .i16 0, .int .i16 0]]),_⟩) Pu.alloc rfl rfl ?_
  refine D.puE (v':=.op 4 (1) 0 0) (b':=⟨1, .own,(.vals [.agg [.int .i16 0, .int .i16 0]]),_⟩) Pu.alloc rfl rfl ?_
  refine D.ef0 (C.storeE (.tmp rfl) rfl rfl (.tmp (v:=.agg _) rfl) rfl rfl (.whole (notBad_ne rfl) rfl) .one) ?_
  refine D.ef0 (C.storeE (.tmp rfl) rfl rfl (.tmp (v:=.agg _) rfl) rfl rfl (.whole (notBad_ne rfl) rfl) .one) ?_
  refine D.pu (Pu.assign (.tmp (v:=.int _ _) rfl)) ?_
  refine D.pu (Pu.assign (.tmp (v:=.int _ _) rfl)) ?_
  refine D.nil (by kernel_rfl) ?_
  refine X.seq ?_
  refine X.still ?_
  refine O.pu (U.indexAr rfl rfl (.tmp rfl) rfl rfl rfl .int (by decide) (by decide)) ?_
  refine O.pu (U.load (.tmp rfl) rfl rfl (U.cell rfl rfl rfl)) ?_
  refine O.pu (U.conv64 rfl (.tmp rfl)) ?_
  refine O.pu (U.indexAr rfl rfl (.tmp rfl) rfl rfl rfl .int (by decide) (by decide)) ?_
  refine O.pu (U.load (.tmp rfl) rfl rfl (U.cell rfl rfl rfl)) ?_
  refine O.pu (U.conv64 rfl (.tmp rfl)) ?_
  refine O.pu (U.mx .int (.tmp rfl)) ?_
  refine O.pu (Pu.bin .int (.tmp rfl) U.add64) ?_
  obtain ⟨q1,Hq1,h⟩:=Option.bind_eq_some_iff.1 h
  refine O.pu (U.call (ss:=[]) (.cons (.tmp (v:=.int _ _) rfl) (.cons (.tmp (v:=.int _ _) rfl) .nil)) (.cons (.cl .int) (.cons (.cl .int) .nil)) (chattellaw13_of.cs Hq1) (.inl rfl) (.tupL (.cons (.aggL (.cons .fi (.cons .bool (.cons .fi .nil)))) (.cons (.aggL (.cons .fi (.cons .bool (.cons .fi .nil)))) .nil)))) ?_
  refine O.pu (Pu.move (.tmp (v:=.tup _) rfl)) ?_
  refine O.pu (Pu.extract (.tmp rfl) rfl) ?_
  refine O.pu (Pu.extract (.tmp rfl) rfl) ?_
  refine O.puE (v':=.op 7 (1) 0 0) (b':=⟨1, .own,(.vals [.agg [.fi .u64 [], .bool false, .fi .u64 []]]),_⟩) Pu.alloc rfl rfl ?_
  refine O.puE (v':=.op 8 (1) 0 0) (b':=⟨1, .own,(.vals [.agg [.fi .i64 [], .bool false, .fi .i64 []]]),_⟩) Pu.alloc rfl rfl ?_
  refine O.ef0 (U.storeE (.tmp rfl) rfl rfl (.tmp (v:=.agg _) rfl) rfl rfl (.whole (notBad_ne rfl) rfl) .one) ?_
  refine O.ef0 (U.storeE (.tmp rfl) rfl rfl (.tmp (v:=.agg _) rfl) rfl rfl (.whole (notBad_ne rfl) rfl) .one) ?_
  refine O.nil ?_
  refine X.seq ?_
  refine X.still ?_
  refine O.pu (U.indexAr rfl rfl (.tmp rfl) rfl rfl rfl .int (by decide) (by decide)) ?_
  refine O.pu (U.load (.tmp rfl) rfl rfl (U.cell rfl rfl rfl)) ?_
  refine O.pu (U.conv64 rfl (.tmp rfl)) ?_
  refine O.pu (U.indexAr rfl rfl (.tmp rfl) rfl rfl rfl .int (by decide) (by decide)) ?_
  refine O.pu (U.load (.tmp rfl) rfl rfl (U.cell rfl rfl rfl)) ?_
  refine O.pu (U.conv64 rfl (.tmp rfl)) ?_
  refine O.pu (U.mx .int (.tmp rfl)) ?_
  refine O.pu (Pu.bin .int (.tmp rfl) U.add64) ?_
  obtain ⟨q2,Hq2,h⟩:=Option.bind_eq_some_iff.1 h
  refine O.pu (U.call (ss:=[]) (.cons (.tmp (v:=.int _ _) rfl) (.cons (.tmp (v:=.int _ _) rfl) .nil)) (.cons (.cl .int) (.cons (.cl .int) .nil)) (chattellaw13_of.cs Hq2) (.inl rfl) (.tupL (.cons (.aggL (.cons .fi (.cons .bool (.cons .fi .nil)))) (.cons (.aggL (.cons .fi (.cons .bool (.cons .fi .nil)))) .nil)))) ?_
  refine O.pu (Pu.move (.tmp (v:=.tup _) rfl)) ?_
  refine O.pu (Pu.extract (.tmp rfl) rfl) ?_
  refine O.pu (Pu.extract (.tmp rfl) rfl) ?_
  refine O.puE (v':=.op 9 (1) 0 0) (b':=⟨1, .own,(.vals [.agg [.fi .u64 [], .bool false, .fi .u64 []]]),_⟩) Pu.alloc rfl rfl ?_
  refine O.puE (v':=.op 10 (1) 0 0) (b':=⟨1, .own,(.vals [.agg [.fi .i64 [], .bool false, .fi .i64 []]]),_⟩) Pu.alloc rfl rfl ?_
  refine O.ef0 (U.storeE (.tmp rfl) rfl rfl (.tmp (v:=.agg _) rfl) rfl rfl (.whole (notBad_ne rfl) rfl) .one) ?_
  refine O.ef0 (U.storeE (.tmp rfl) rfl rfl (.tmp (v:=.agg _) rfl) rfl rfl (.whole (notBad_ne rfl) rfl) .one) ?_
  refine O.nil ?_
  refine X.seq ?_
  refine X.still ?_
  refine O.pu (Pu.move (.tmp (v:=.int _ _) rfl)) ?_
  refine O.pu (Pu.bin (.tmp rfl) .int (.rem (by omega))) ?_
  refine O.pu (U.conv64 rfl (.tmp rfl)) ?_
  refine O.pu (Pu.move (.tmp (v:=.int _ _) rfl)) ?_
  refine O.pu (Pu.bin (.tmp rfl) .int (.rem (by omega))) ?_
  refine O.pu (U.conv64 rfl (.tmp rfl)) ?_
  refine O.pu (Pu.assign (.tmp (v:=.int _ _) rfl)) ?_
  refine O.pu (Pu.assign (.tmp (v:=.int _ _) rfl)) ?_
  refine O.nil ?_
  refine X.seq ?_
  refine X.still ?_
  refine O.pu (U.load (.tmp rfl) rfl rfl (U.whole rfl rfl)) ?_
  refine O.pu (Pu.move (.tmp (v:=.int _ _) rfl)) ?_
  obtain ⟨q3,Hq3,h⟩:=Option.bind_eq_some_iff.1 h
  refine O.pu (U.call (ss:=[]) (.cons (.tmp (v:=.agg _) rfl) (.cons (.tmp (v:=.int _ _) rfl) .nil)) (.cons (.cl (.aggL (.cons .fi (.cons .bool (.cons .fi .nil))))) (.cons (.cl .int) .nil)) (power_Pow.cs Hq3) (.inl rfl) (.tupL (.cons (.aggL (.cons .fi (.cons .bool (.cons .fi .nil)))) (.cons .int .nil)))) ?_
  refine O.pu (Pu.move (.tmp (v:=.tup _) rfl)) ?_
  refine O.pu (Pu.extract (.tmp rfl) rfl) ?_
  refine O.pu (Pu.extract (.tmp rfl) rfl) ?_
  refine O.puE (v':=.op 13 (1) 0 0) (b':=⟨1, .own,(.vals [.agg [.fi .u64 [], .bool false, .fi .u64 []]]),_⟩) Pu.alloc rfl rfl ?_
  refine O.ef0 (U.storeE (.tmp rfl) rfl rfl (.tmp (v:=.agg _) rfl) rfl rfl (.whole (notBad_ne rfl) rfl) .one) ?_
  refine O.pu (Pu.assign (.tmp (v:=.int _ _) rfl)) ?_
  refine O.nil ?_
  refine X.seq ?_
  refine X.still ?_
  refine O.pu (U.load (.tmp rfl) rfl rfl (U.whole rfl rfl)) ?_
  refine O.pu (Pu.move (.tmp (v:=.int _ _) rfl)) ?_
  obtain ⟨q4,Hq4,h⟩:=Option.bind_eq_some_iff.1 h
  refine O.pu (U.call (ss:=[]) (.cons (.tmp (v:=.agg _) rfl) (.cons (.tmp (v:=.int _ _) rfl) .nil)) (.cons (.cl (.aggL (.cons .fi (.cons .bool (.cons .fi .nil))))) (.cons (.cl .int) .nil)) (power_Pow.cs Hq4) (.inl rfl) (.tupL (.cons (.aggL (.cons .fi (.cons .bool (.cons .fi .nil)))) (.cons .int .nil)))) ?_
  refine O.pu (Pu.move (.tmp (v:=.tup _) rfl)) ?_
  refine O.pu (Pu.extract (.tmp rfl) rfl) ?_
  refine O.pu (Pu.extract (.tmp rfl) rfl) ?_
  refine O.puE (v':=.op 15 (1) 0 0) (b':=⟨1, .own,(.vals [.agg [.fi .u64 [], .bool false, .fi .u64 []]]),_⟩) Pu.alloc rfl rfl ?_
  refine O.ef0 (U.storeE (.tmp rfl) rfl rfl (.tmp (v:=.agg _) rfl) rfl rfl (.whole (notBad_ne rfl) rfl) .one) ?_
  refine O.pu (Pu.assign (.tmp (v:=.int _ _) rfl)) ?_
  refine O.nil ?_
  refine X.seq ?_
  refine X.still ?_
  refine O.pu (U.load (.tmp rfl) rfl rfl (U.whole rfl rfl)) ?_
  refine O.pu (Pu.move (.tmp (v:=.int _ _) rfl)) ?_
  refine O.pu (Pu.move (.tmp (v:=.int _ _) rfl)) ?_
  refine O.pu (Pu.bin (.tmp rfl) (.tmp rfl) U.add64) ?_
  obtain ⟨q5,Hq5,h⟩:=Option.bind_eq_some_iff.1 h
  refine O.pu (U.call (ss:=[]) (.cons (.tmp (v:=.agg _) rfl) (.cons (.tmp (v:=.int _ _) rfl) .nil)) (.cons (.cl (.aggL (.cons .fi (.cons .bool (.cons .fi .nil))))) (.cons (.cl .int) .nil)) (power_Pow.cs Hq5) (.inl rfl) (.tupL (.cons (.aggL (.cons .fi (.cons .bool (.cons .fi .nil)))) (.cons .int .nil)))) ?_
  refine O.pu (Pu.move (.tmp (v:=.tup _) rfl)) ?_
  refine O.pu (Pu.extract (.tmp rfl) rfl) ?_
  refine O.pu (Pu.extract (.tmp rfl) rfl) ?_
  refine O.puE (v':=.op 17 (1) 0 0) (b':=⟨1, .own,(.vals [.agg [.fi .u64 [], .bool false, .fi .u64 []]]),_⟩) Pu.alloc rfl rfl ?_
  refine O.ef0 (U.storeE (.tmp rfl) rfl rfl (.tmp (v:=.agg _) rfl) rfl rfl (.whole (notBad_ne rfl) rfl) .one) ?_
  refine O.pu (Pu.assign (.tmp (v:=.int _ _) rfl)) ?_
  refine O.nil ?_
  refine X.seq ?_
  refine X.still ?_
  refine O.pu (U.load (.tmp rfl) rfl rfl (U.whole rfl rfl)) ?_
  refine O.pu (Pu.move (.tmp (v:=.int _ _) rfl)) ?_
  obtain ⟨q6,Hq6,h⟩:=Option.bind_eq_some_iff.1 h
  refine O.pu (U.call (ss:=[]) (.cons (.tmp (v:=.agg _) rfl) (.cons (.tmp (v:=.int _ _) rfl) .nil)) (.cons (.cl (.aggL (.cons .fi (.cons .bool (.cons .fi .nil))))) (.cons (.cl .int) .nil)) (power_Pow.cs Hq6) (.inl rfl) (.tupL (.cons (.aggL (.cons .fi (.cons .bool (.cons .fi .nil)))) (.cons .int .nil)))) ?_
  refine O.pu (Pu.move (.tmp (v:=.tup _) rfl)) ?_
  refine O.pu (Pu.extract (.tmp rfl) rfl) ?_
  refine O.pu (Pu.extract (.tmp rfl) rfl) ?_
  refine O.puE (v':=.op 19 (1) 0 0) (b':=⟨1, .own,(.vals [.agg [.fi .u64 [], .bool false, .fi .u64 []]]),_⟩) Pu.alloc rfl rfl ?_
  refine O.ef0 (U.storeE (.tmp rfl) rfl rfl (.tmp (v:=.agg _) rfl) rfl rfl (.whole (notBad_ne rfl) rfl) .one) ?_
  refine O.pu (Pu.assign (.tmp (v:=.int _ _) rfl)) ?_
  refine O.nil ?_
  refine X.seq ?_
  refine X.still ?_
  refine O.pu (U.load (.tmp rfl) rfl rfl (U.whole rfl rfl)) ?_
  refine O.pu (U.load (.tmp rfl) rfl rfl (U.whole rfl rfl)) ?_
  obtain ⟨q7,Hq7,h⟩:=Option.bind_eq_some_iff.1 h
  refine O.pu (U.call (ss:=[]) (.cons (.tmp (v:=.agg _) rfl) (.cons (.tmp (v:=.agg _) rfl) .nil)) (.cons (.cl (.aggL (.cons .fi (.cons .bool (.cons .fi .nil))))) (.cons (.cl (.aggL (.cons .fi (.cons .bool (.cons .fi .nil))))) .nil)) (frac_Frac_Mul.cs Hq7) (.inl rfl) (.aggL (.cons .fi (.cons .bool (.cons .fi .nil))))) ?_
  refine O.pu (Pu.move (.tmp (v:=.int _ _) rfl)) ?_
  obtain ⟨q8,Hq8,h⟩:=Option.bind_eq_some_iff.1 h
  refine O.pu (U.call (ss:=[]) (.cons (.tmp (v:=.agg _) rfl) (.cons (.tmp (v:=.int _ _) rfl) .nil)) (.cons (.cl (.aggL (.cons .fi (.cons .bool (.cons .fi .nil))))) (.cons (.cl .int) .nil)) (power_Pow.cs Hq8) (.inl rfl) (.tupL (.cons (.aggL (.cons .fi (.cons .bool (.cons .fi .nil)))) (.cons .int .nil)))) ?_
  refine O.pu (Pu.move (.tmp (v:=.tup _) rfl)) ?_
  refine O.pu (Pu.extract (.tmp rfl) rfl) ?_
  refine O.pu (Pu.extract (.tmp rfl) rfl) ?_
  refine O.puE (v':=.op 21 (1) 0 0) (b':=⟨1, .own,(.vals [.agg [.fi .u64 [], .bool false, .fi .u64 []]]),_⟩) Pu.alloc rfl rfl ?_
  refine O.ef0 (U.storeE (.tmp rfl) rfl rfl (.tmp (v:=.agg _) rfl) rfl rfl (.whole (notBad_ne rfl) rfl) .one) ?_
  refine O.pu (Pu.assign (.tmp (v:=.int _ _) rfl)) ?_
  refine O.nil ?_
  refine X.seq ?_
  refine X.still ?_
  obtain ⟨q9,Hq9,h⟩:=Option.bind_eq_some_iff.1 h
  refine O.pu (U.call (ss:=[]) (.cons .int (.cons .int .nil)) (.cons (.cl .int) (.cons (.cl .int) .nil)) (chattellaw13_of.cs Hq9) (.inl rfl) (.tupL (.cons (.aggL (.cons .fi (.cons .bool (.cons .fi .nil)))) (.cons (.aggL (.cons .fi (.cons .bool (.cons .fi .nil)))) .nil)))) ?_
  refine O.pu (Pu.move (.tmp (v:=.tup _) rfl)) ?_
  refine O.pu (Pu.extract (.tmp rfl) rfl) ?_
  refine O.pu (Pu.extract (.tmp rfl) rfl) ?_
  refine O.puE (v':=.op 23 (1) 0 0) (b':=⟨1, .own,(.vals [.agg [.fi .u64 [], .bool false, .fi .u64 []]]),_⟩) Pu.alloc rfl rfl ?_
  refine O.puE (v':=.op 24 (1) 0 0) (b':=⟨1, .own,(.vals [.agg [.fi .i64 [], .bool false, .fi .i64 []]]),_⟩) Pu.alloc rfl rfl ?_
  refine O.ef0 (U.storeE (.tmp rfl) rfl rfl (.tmp (v:=.agg _) rfl) rfl rfl (.whole (notBad_ne rfl) rfl) .one) ?_
  refine O.ef0 (U.storeE (.tmp rfl) rfl rfl (.tmp (v:=.agg _) rfl) rfl rfl (.whole (notBad_ne rfl) rfl) .one) ?_
  refine O.nil ?_
  refine X.seq ?_
  refine X.still ?_
  refine O.pu (U.load (.tmp rfl) rfl rfl (U.whole rfl rfl)) ?_
  refine O.puE (v':=.op 25 (1) 0 0) (b':=⟨1, .own,(.vals [.agg [.fi .u64 [], .bool false, .fi .u64 []]]),_⟩) Pu.alloc rfl rfl ?_
  refine O.ef0 (U.storeE (.tmp rfl) rfl rfl (.tmp (v:=.agg _) rfl) rfl rfl (.whole (notBad_ne rfl) rfl) .one) ?_
  refine O.nil ?_
  refine X.seq ?_
  refine X.seq ?_
  refine X.still ?_
  refine O.pu (U.load (.tmp rfl) rfl rfl (U.whole rfl rfl)) ?_
  obtain ⟨q10,Hq10,h⟩:=Option.bind_eq_some_iff.1 h
  refine O.pu (U.call (ss:=[]) (.cons (.tmp (v:=.agg _) rfl) .nil) (.cons (.cl (.aggL (.cons .fi (.cons .bool (.cons .fi .nil))))) .nil) (frac_Frac_Sign.cs Hq10) (.inl rfl) (.int)) ?_
  refine O.pu (Pu.bin (.tmp rfl) .int .lss) ?_
  refine O.nil ?_
  refine X.condP (.tmp rfl) (fun c=>?_) (fun c=>?_)
  · rw [if_pos c] at h
    refine X.still ?_
    refine O.pu (U.load (.tmp rfl) rfl rfl (U.whole rfl rfl)) ?_
    obtain ⟨q11,Hq11,h⟩:=Option.bind_eq_some_iff.1 h
    refine O.pu (U.call (ss:=[]) (.cons (.tmp (v:=.agg _) rfl) .nil) (.cons (.cl (.aggL (.cons .fi (.cons .bool (.cons .fi .nil))))) .nil) (frac_Frac_Neg.cs Hq11) (.inl rfl) (.aggL (.cons .fi (.cons .bool (.cons .fi .nil))))) ?_
    refine O.ef0 (U.storeE (.tmp rfl) rfl rfl (.tmp (v:=.agg _) rfl) rfl rfl (.whole (notBad_ne rfl) rfl) .one) ?_
    refine O.nil ?_
    refine X.seq ?_
    refine X.still ?_
    refine O.pu (U.load (.tmp rfl) rfl rfl (U.whole rfl rfl)) ?_
    refine O.pu (U.load (.tmp rfl) rfl rfl (U.whole rfl rfl)) ?_
    refine O.pu (Pu.move (.tmp (v:=.int _ _) rfl)) ?_
    refine O.pu (Pu.bin .int (.tmp rfl) U.add64) ?_
    repeat (rw [chattellaw13_PowerAdds.j0_e] at h;obtain ⟨k,_,h⟩:=h;unfold chattellaw13_PowerAdds.j0 at h;try dsimp only at h)
    obtain ⟨q12,Hq12,h⟩:=Option.bind_eq_some_iff.1 h
    refine O.pu (U.call (ss:=[]) (.cons (.tmp (v:=.agg _) rfl) (.cons (.tmp (v:=.agg _) rfl) (.cons (.tmp (v:=.int _ _) rfl) .nil))) (.cons (.cl (.aggL (.cons .fi (.cons .bool (.cons .fi .nil))))) (.cons (.cl (.aggL (.cons .fi (.cons .bool (.cons .fi .nil))))) (.cons (.cl .int) .nil))) (power_Level.cs Hq12) (.inl rfl) (.tupL (.cons (.aggL (.cons .fi (.cons .bool (.cons .fi .nil)))) (.cons .int .nil)))) ?_
    refine O.pu (Pu.move (.tmp (v:=.tup _) rfl)) ?_
    refine O.pu (Pu.extract (.tmp rfl) rfl) ?_
    refine O.pu (Pu.extract (.tmp rfl) rfl) ?_
    refine O.puE (v':=.op 26 (1) 0 0) (b':=⟨1, .own,(.vals [.agg [.fi .u64 [], .bool false, .fi .u64 []]]),_⟩) Pu.alloc rfl rfl ?_
    refine O.ef0 (U.storeE (.tmp rfl) rfl rfl (.tmp (v:=.agg _) rfl) rfl rfl (.whole (notBad_ne rfl) rfl) .one) ?_
    refine O.pu (Pu.assign (.tmp (v:=.int _ _) rfl)) ?_
    refine O.nil ?_
    refine X.seq ?_
    refine X.drawn ?_
    refine D.pu (U.load (.tmp rfl) rfl rfl (U.whole rfl rfl)) ?_
    refine D.pu (U.load (.tmp rfl) rfl rfl (U.whole rfl rfl)) ?_
    obtain ⟨q13,Hq13,h⟩:=Option.bind_eq_some_iff.1 h
    refine D.pu (U.call (ss:=[]) (.cons (.tmp (v:=.agg _) rfl) (.cons (.tmp (v:=.agg _) rfl) .nil)) (.cons (.cl (.aggL (.cons .fi (.cons .bool (.cons .fi .nil))))) (.cons (.cl (.aggL (.cons .fi (.cons .bool (.cons .fi .nil))))) .nil)) (frac_Frac_Mul.cs Hq13) (.inl rfl) (.aggL (.cons .fi (.cons .bool (.cons .fi .nil))))) ?_
    refine D.pu (U.load (.tmp rfl) rfl rfl (U.whole rfl rfl)) ?_
    refine D.pu (Pu.move (.tmp (v:=.int _ _) rfl)) ?_
    refine D.pu (Pu.bin .int (.tmp rfl) U.add64) ?_
    obtain ⟨q14,Hq14,h⟩:=Option.bind_eq_some_iff.1 h
    refine D.pu (U.call (ss:=[]) (.cons (.tmp (v:=.agg _) rfl) (.cons (.tmp (v:=.agg _) rfl) (.cons (.tmp (v:=.int _ _) rfl) .nil))) (.cons (.cl (.aggL (.cons .fi (.cons .bool (.cons .fi .nil))))) (.cons (.cl (.aggL (.cons .fi (.cons .bool (.cons .fi .nil))))) (.cons (.cl .int) .nil))) (power_Level.cs Hq14) (.inl rfl) (.tupL (.cons (.aggL (.cons .fi (.cons .bool (.cons .fi .nil)))) (.cons .int .nil)))) ?_
    refine D.pu (Pu.move (.tmp (v:=.tup _) rfl)) ?_
    refine D.pu (Pu.extract (.tmp rfl) rfl) ?_
    refine D.pu (Pu.extract (.tmp rfl) rfl) ?_
    refine D.puE (v':=.op 28 (1) 0 0) (b':=⟨1, .own,(.vals [.agg [.fi .u64 [], .bool false, .fi .u64 []]]),_⟩) Pu.alloc rfl rfl ?_
    refine D.ef0 (C.storeE (.tmp rfl) rfl rfl (.tmp (v:=.agg _) rfl) rfl rfl (.whole (notBad_ne rfl) rfl) .one) ?_
    refine D.pu (Pu.assign (.tmp (v:=.int _ _) rfl)) ?_
    refine D.nil (by kernel_rfl) ?_
    refine X.seq ?_
    refine X.drawn ?_
    obtain ⟨q15,Hq15,h⟩:=Option.bind_eq_some_iff.1 h
    refine D.pu (U.call (ss:=[]) .nil .nil (chattellaw13_wakes.cs Hq15) (.inl rfl) (.bool)) ?_
    refine D.pu (Pu.move (.tmp (v:=.bool _) rfl)) ?_
    refine D.split (fun c=>?_) (fun c=>?_)
    · rw [if_pos c] at h
      refine D.gpu (W.t rfl rfl) (Pu.move (.tmp (v:=.int _ _) rfl)) ?_
      refine D.gpu (W.t rfl rfl) (Pu.bin (.tmp rfl) .int .eql) ?_
      refine D.pu (Pu.pickT (.tmp rfl) (.tmp (v:=.bool _) rfl)) ?_
      refine D.pu (Pu.move (.tmp (v:=.bool _) rfl)) ?_
      refine D.splitE (fun c=>?_) (fun c=>?_)
      · rw [if_pos c] at h
        refine D.gpu (W.t rfl rfl) (Pu.move (.tmp (v:=.int _ _) rfl)) ?_
        refine D.gpu (W.t rfl rfl) (Pu.bin (.tmp rfl) .int .eql) ?_
        refine D.pu (Pu.pickT (.tmp rfl) (.tmp (v:=.bool _) rfl)) ?_
        refine D.pu (Pu.move (.tmp (v:=.bool _) rfl)) ?_
        refine D.splitE (fun c=>?_) (fun c=>?_)
        · rw [if_pos c] at h
          refine D.gpu (W.t rfl rfl) (Pu.move (.tmp (v:=.int _ _) rfl)) ?_
          refine D.gpu (W.t rfl rfl) (Pu.bin (.tmp rfl) .int .eql) ?_
          refine D.pu (Pu.pickT (.tmp rfl) (.tmp (v:=.bool _) rfl)) ?_
          refine D.pu (Pu.move (.tmp (v:=.bool _) rfl)) ?_
          refine D.splitE (fun c=>?_) (fun c=>?_)
          · rw [if_pos c] at h
            refine D.gpu (W.t rfl rfl) (Pu.move (.tmp (v:=.int _ _) rfl)) ?_
            refine D.gpu (W.t rfl rfl) (Pu.bin (.tmp rfl) .int .eql) ?_
            refine D.pu (Pu.pickT (.tmp rfl) (.tmp (v:=.bool _) rfl)) ?_
            refine D.pu (Pu.move (.tmp (v:=.bool _) rfl)) ?_
            refine D.splitE (fun c=>?_) (fun c=>?_)
            · rw [if_pos c] at h
              refine D.gpu (W.t rfl rfl) (Pu.move (.tmp (v:=.int _ _) rfl)) ?_
              refine D.gpu (W.t rfl rfl) (Pu.bin (.tmp rfl) .int .eql) ?_
              refine D.pu (Pu.pickT (.tmp rfl) (.tmp (v:=.bool _) rfl)) ?_
              refine D.pu (Pu.move (.tmp (v:=.bool _) rfl)) ?_
              refine D.splitE (fun c=>?_) (fun c=>?_)
              · rw [if_pos c] at h
                refine D.gpu (W.t rfl rfl) (Pu.move (.tmp (v:=.int _ _) rfl)) ?_
                refine D.gpu (W.t rfl rfl) (Pu.bin (.tmp rfl) .int .eql) ?_
                refine D.pu (Pu.pickT (.tmp rfl) (.tmp (v:=.bool _) rfl)) ?_
                refine D.pu (Pu.move (.tmp (v:=.bool _) rfl)) ?_
                refine D.splitE (fun c=>?_) (fun c=>?_)
                · rw [if_pos c] at h
                  refine D.gpu (W.t rfl rfl) (Pu.move (.tmp (v:=.int _ _) rfl)) ?_
                  refine D.gpu (W.t rfl rfl) (Pu.bin (.tmp rfl) .int .eql) ?_
                  refine D.pu (Pu.pickT (.tmp rfl) (.tmp (v:=.bool _) rfl)) ?_
                  refine D.pu (Pu.move (.tmp (v:=.bool _) rfl)) ?_
                  refine D.splitE (fun c=>?_) (fun c=>?_)
                  · rw [if_pos c] at h
                    refine D.gpu (W.t rfl rfl) (U.load (.tmp rfl) rfl rfl (U.whole rfl rfl)) ?_
                    refine D.gpu (W.t rfl rfl) (U.load (.tmp rfl) rfl rfl (U.whole rfl rfl)) ?_
                    obtain ⟨q16,Hq16,h⟩:=Option.bind_eq_some_iff.1 h
                    refine D.gpu (W.t rfl rfl) (U.call (ss:=[]) (.cons (.tmp (v:=.agg _) rfl) (.cons (.tmp (v:=.agg _) rfl) .nil)) (.cons (.cl (.aggL (.cons .fi (.cons .bool (.cons .fi .nil))))) (.cons (.cl (.aggL (.cons .fi (.cons .bool (.cons .fi .nil))))) .nil)) (frac_Frac_Mul.cs Hq16) (.inl rfl) (.aggL (.cons .fi (.cons .bool (.cons .fi .nil))))) ?_
                    refine D.gpu (W.t rfl rfl) (U.load (.tmp rfl) rfl rfl (U.whole rfl rfl)) ?_
                    obtain ⟨q17,Hq17,h⟩:=Option.bind_eq_some_iff.1 h
                    refine D.gpu (W.t rfl rfl) (U.call (ss:=[]) (.cons (.tmp (v:=.agg _) rfl) (.cons (.tmp (v:=.agg _) rfl) .nil)) (.cons (.cl (.aggL (.cons .fi (.cons .bool (.cons .fi .nil))))) (.cons (.cl (.aggL (.cons .fi (.cons .bool (.cons .fi .nil))))) .nil)) (frac_Frac_Cmp.cs Hq17) (.inl rfl) (.int)) ?_
                    refine D.gpu (W.t rfl rfl) (Pu.bin (.tmp rfl) .int .eql) ?_
                    refine D.pu (Pu.pickT (.tmp rfl) (.tmp (v:=.bool _) rfl)) ?_
                    refine D.pu (Pu.move (.tmp (v:=.bool _) rfl)) ?_
                    refine D.splitE (fun c=>?_) (fun c=>?_)
                    · rw [if_pos c] at h
                      refine D.gpu (W.t rfl rfl) (U.load (.tmp rfl) rfl rfl (U.whole rfl rfl)) ?_
                      refine D.gpu (W.t rfl rfl) (U.load (.tmp rfl) rfl rfl (U.whole rfl rfl)) ?_
                      obtain ⟨q18,Hq18,h⟩:=Option.bind_eq_some_iff.1 h
                      refine D.gpu (W.t rfl rfl) (U.call (ss:=[]) (.cons (.tmp (v:=.agg _) rfl) (.cons (.tmp (v:=.agg _) rfl) .nil)) (.cons (.cl (.aggL (.cons .fi (.cons .bool (.cons .fi .nil))))) (.cons (.cl (.aggL (.cons .fi (.cons .bool (.cons .fi .nil))))) .nil)) (frac_Frac_Mul.cs Hq18) (.inl rfl) (.aggL (.cons .fi (.cons .bool (.cons .fi .nil))))) ?_
                      refine D.gpu (W.t rfl rfl) (U.load (.tmp rfl) rfl rfl (U.whole rfl rfl)) ?_
                      obtain ⟨q19,Hq19,h⟩:=Option.bind_eq_some_iff.1 h
                      refine D.gpu (W.t rfl rfl) (U.call (ss:=[]) (.cons (.tmp (v:=.agg _) rfl) (.cons (.tmp (v:=.agg _) rfl) .nil)) (.cons (.cl (.aggL (.cons .fi (.cons .bool (.cons .fi .nil))))) (.cons (.cl (.aggL (.cons .fi (.cons .bool (.cons .fi .nil))))) .nil)) (frac_Frac_Cmp.cs Hq19) (.inl rfl) (.int)) ?_
                      refine D.gpu (W.t rfl rfl) (Pu.bin (.tmp rfl) .int .eql) ?_
                      refine D.pu (Pu.pickT (.tmp rfl) (.tmp (v:=.bool _) rfl)) ?_
                      refine D.pu (Pu.move (.tmp (v:=.bool _) rfl)) ?_
                      refine D.splitE (fun c=>?_) (fun c=>?_)
                      · rw [if_pos c] at h
                        refine D.gpu (W.t rfl rfl) (U.load (.tmp rfl) rfl rfl (U.whole rfl rfl)) ?_
                        refine D.gpu (W.t rfl rfl) (U.load (.tmp rfl) rfl rfl (U.whole rfl rfl)) ?_
                        obtain ⟨q20,Hq20,h⟩:=Option.bind_eq_some_iff.1 h
                        refine D.gpu (W.t rfl rfl) (U.call (ss:=[]) (.cons (.tmp (v:=.agg _) rfl) (.cons (.tmp (v:=.agg _) rfl) .nil)) (.cons (.cl (.aggL (.cons .fi (.cons .bool (.cons .fi .nil))))) (.cons (.cl (.aggL (.cons .fi (.cons .bool (.cons .fi .nil))))) .nil)) (frac_Frac_Mul.cs Hq20) (.inl rfl) (.aggL (.cons .fi (.cons .bool (.cons .fi .nil))))) ?_
                        refine D.gpu (W.t rfl rfl) (U.load (.tmp rfl) rfl rfl (U.whole rfl rfl)) ?_
                        obtain ⟨q21,Hq21,h⟩:=Option.bind_eq_some_iff.1 h
                        refine D.gpu (W.t rfl rfl) (U.call (ss:=[]) (.cons (.tmp (v:=.agg _) rfl) (.cons (.tmp (v:=.agg _) rfl) .nil)) (.cons (.cl (.aggL (.cons .fi (.cons .bool (.cons .fi .nil))))) (.cons (.cl (.aggL (.cons .fi (.cons .bool (.cons .fi .nil))))) .nil)) (frac_Frac_Cmp.cs Hq21) (.inl rfl) (.int)) ?_
                        refine D.gpu (W.t rfl rfl) (Pu.bin (.tmp rfl) .int .eql) ?_
                        refine D.pu (Pu.pickT (.tmp rfl) (.tmp (v:=.bool _) rfl)) ?_
                        refine D.pu (Pu.assign (.tmp (v:=.bool _) rfl)) ?_
                        refine D.nil (by kernel_rfl) ?_
                        refine X.ret ?_
                        cases h
                        exact E.fin [] (.tmp (v:=.bool _) rfl .nil) (.cons (.cl .bool) .nil)
                      · rw [if_neg c] at h
                        refine D.gskip (W.f rfl rfl rfl) ?_
                        refine D.gskip (W.f rfl rfl rfl) ?_
                        refine D.gskip (W.f rfl rfl rfl) ?_
                        refine D.gskip (W.f rfl rfl rfl) ?_
                        refine D.gskip (W.f rfl rfl rfl) ?_
                        refine D.gskip (W.f rfl rfl rfl) ?_
                        refine D.pu (Pu.pickF (.tmp rfl) .bool) ?_
                        refine D.pu (Pu.assign (.tmp (v:=.bool _) rfl)) ?_
                        refine D.nil (by kernel_rfl) ?_
                        refine X.ret ?_
                        cases h
                        exact E.fin [] (.tmp (v:=.bool _) rfl .nil) (.cons (.cl .bool) .nil)
                    · rw [if_neg c] at h
                      refine D.gskip (W.f rfl rfl rfl) ?_
                      refine D.gskip (W.f rfl rfl rfl) ?_
                      refine D.gskip (W.f rfl rfl rfl) ?_
                      refine D.gskip (W.f rfl rfl rfl) ?_
                      refine D.gskip (W.f rfl rfl rfl) ?_
                      refine D.gskip (W.f rfl rfl rfl) ?_
                      refine D.pu (Pu.pickF (.tmp rfl) .bool) ?_
                      refine D.pu (Pu.move (.tmp (v:=.bool _) rfl)) ?_
                      refine D.gskip (W.f rfl rfl rfl) ?_
                      refine D.gskip (W.f rfl rfl rfl) ?_
                      refine D.gskip (W.f rfl rfl rfl) ?_
                      refine D.gskip (W.f rfl rfl rfl) ?_
                      refine D.gskip (W.f rfl rfl rfl) ?_
                      refine D.gskip (W.f rfl rfl rfl) ?_
                      refine D.pu (Pu.pickF (.tmp rfl) .bool) ?_
                      refine D.pu (Pu.assign (.tmp (v:=.bool _) rfl)) ?_
                      refine D.nil (by kernel_rfl) ?_
                      refine X.ret ?_
                      cases h
                      exact E.fin [] (.tmp (v:=.bool _) rfl .nil) (.cons (.cl .bool) .nil)
                  · rw [if_neg c] at h
                    refine D.gskip (W.f rfl rfl rfl) ?_
                    refine D.gskip (W.f rfl rfl rfl) ?_
                    refine D.gskip (W.f rfl rfl rfl) ?_
                    refine D.gskip (W.f rfl rfl rfl) ?_
                    refine D.gskip (W.f rfl rfl rfl) ?_
                    refine D.gskip (W.f rfl rfl rfl) ?_
                    refine D.pu (Pu.pickF (.tmp rfl) .bool) ?_
                    refine D.pu (Pu.move (.tmp (v:=.bool _) rfl)) ?_
                    refine D.gskip (W.f rfl rfl rfl) ?_
                    refine D.gskip (W.f rfl rfl rfl) ?_
                    refine D.gskip (W.f rfl rfl rfl) ?_
                    refine D.gskip (W.f rfl rfl rfl) ?_
                    refine D.gskip (W.f rfl rfl rfl) ?_
                    refine D.gskip (W.f rfl rfl rfl) ?_
                    refine D.pu (Pu.pickF (.tmp rfl) .bool) ?_
                    refine D.pu (Pu.move (.tmp (v:=.bool _) rfl)) ?_
                    refine D.gskip (W.f rfl rfl rfl) ?_
                    refine D.gskip (W.f rfl rfl rfl) ?_
                    refine D.gskip (W.f rfl rfl rfl) ?_
                    refine D.gskip (W.f rfl rfl rfl) ?_
                    refine D.gskip (W.f rfl rfl rfl) ?_
                    refine D.gskip (W.f rfl rfl rfl) ?_
                    refine D.pu (Pu.pickF (.tmp rfl) .bool) ?_
                    refine D.pu (Pu.assign (.tmp (v:=.bool _) rfl)) ?_
                    refine D.nil (by kernel_rfl) ?_
                    refine X.ret ?_
                    cases h
                    exact E.fin [] (.tmp (v:=.bool _) rfl .nil) (.cons (.cl .bool) .nil)
                · rw [if_neg c] at h
                  refine D.gskip (W.f rfl rfl rfl) ?_
                  refine D.gskip (W.f rfl rfl rfl) ?_
                  refine D.pu (Pu.pickF (.tmp rfl) .bool) ?_
                  refine D.pu (Pu.move (.tmp (v:=.bool _) rfl)) ?_
                  refine D.gskip (W.f rfl rfl rfl) ?_
                  refine D.gskip (W.f rfl rfl rfl) ?_
                  refine D.gskip (W.f rfl rfl rfl) ?_
                  refine D.gskip (W.f rfl rfl rfl) ?_
                  refine D.gskip (W.f rfl rfl rfl) ?_
                  refine D.gskip (W.f rfl rfl rfl) ?_
                  refine D.pu (Pu.pickF (.tmp rfl) .bool) ?_
                  refine D.pu (Pu.move (.tmp (v:=.bool _) rfl)) ?_
                  refine D.gskip (W.f rfl rfl rfl) ?_
                  refine D.gskip (W.f rfl rfl rfl) ?_
                  refine D.gskip (W.f rfl rfl rfl) ?_
                  refine D.gskip (W.f rfl rfl rfl) ?_
                  refine D.gskip (W.f rfl rfl rfl) ?_
                  refine D.gskip (W.f rfl rfl rfl) ?_
                  refine D.pu (Pu.pickF (.tmp rfl) .bool) ?_
                  refine D.pu (Pu.move (.tmp (v:=.bool _) rfl)) ?_
                  refine D.gskip (W.f rfl rfl rfl) ?_
                  refine D.gskip (W.f rfl rfl rfl) ?_
                  refine D.gskip (W.f rfl rfl rfl) ?_
                  refine D.gskip (W.f rfl rfl rfl) ?_
                  refine D.gskip (W.f rfl rfl rfl) ?_
                  refine D.gskip (W.f rfl rfl rfl) ?_
                  refine D.pu (Pu.pickF (.tmp rfl) .bool) ?_
                  refine D.pu (Pu.assign (.tmp (v:=.bool _) rfl)) ?_
                  refine D.nil (by kernel_rfl) ?_
                  refine X.ret ?_
                  cases h
                  exact E.fin [] (.tmp (v:=.bool _) rfl .nil) (.cons (.cl .bool) .nil)
              · rw [if_neg c] at h
                refine D.gskip (W.f rfl rfl rfl) ?_
                refine D.gskip (W.f rfl rfl rfl) ?_
                refine D.pu (Pu.pickF (.tmp rfl) .bool) ?_
                refine D.pu (Pu.move (.tmp (v:=.bool _) rfl)) ?_
                refine D.gskip (W.f rfl rfl rfl) ?_
                refine D.gskip (W.f rfl rfl rfl) ?_
                refine D.pu (Pu.pickF (.tmp rfl) .bool) ?_
                refine D.pu (Pu.move (.tmp (v:=.bool _) rfl)) ?_
                refine D.gskip (W.f rfl rfl rfl) ?_
                refine D.gskip (W.f rfl rfl rfl) ?_
                refine D.gskip (W.f rfl rfl rfl) ?_
                refine D.gskip (W.f rfl rfl rfl) ?_
                refine D.gskip (W.f rfl rfl rfl) ?_
                refine D.gskip (W.f rfl rfl rfl) ?_
                refine D.pu (Pu.pickF (.tmp rfl) .bool) ?_
                refine D.pu (Pu.move (.tmp (v:=.bool _) rfl)) ?_
                refine D.gskip (W.f rfl rfl rfl) ?_
                refine D.gskip (W.f rfl rfl rfl) ?_
                refine D.gskip (W.f rfl rfl rfl) ?_
                refine D.gskip (W.f rfl rfl rfl) ?_
                refine D.gskip (W.f rfl rfl rfl) ?_
                refine D.gskip (W.f rfl rfl rfl) ?_
                refine D.pu (Pu.pickF (.tmp rfl) .bool) ?_
                refine D.pu (Pu.move (.tmp (v:=.bool _) rfl)) ?_
                refine D.gskip (W.f rfl rfl rfl) ?_
                refine D.gskip (W.f rfl rfl rfl) ?_
                refine D.gskip (W.f rfl rfl rfl) ?_
                refine D.gskip (W.f rfl rfl rfl) ?_
                refine D.gskip (W.f rfl rfl rfl) ?_
                refine D.gskip (W.f rfl rfl rfl) ?_
                refine D.pu (Pu.pickF (.tmp rfl) .bool) ?_
                refine D.pu (Pu.assign (.tmp (v:=.bool _) rfl)) ?_
                refine D.nil (by kernel_rfl) ?_
                refine X.ret ?_
                cases h
                exact E.fin [] (.tmp (v:=.bool _) rfl .nil) (.cons (.cl .bool) .nil)
            · rw [if_neg c] at h
              refine D.gskip (W.f rfl rfl rfl) ?_
              refine D.gskip (W.f rfl rfl rfl) ?_
              refine D.pu (Pu.pickF (.tmp rfl) .bool) ?_
              refine D.pu (Pu.move (.tmp (v:=.bool _) rfl)) ?_
              refine D.gskip (W.f rfl rfl rfl) ?_
              refine D.gskip (W.f rfl rfl rfl) ?_
              refine D.pu (Pu.pickF (.tmp rfl) .bool) ?_
              refine D.pu (Pu.move (.tmp (v:=.bool _) rfl)) ?_
              refine D.gskip (W.f rfl rfl rfl) ?_
              refine D.gskip (W.f rfl rfl rfl) ?_
              refine D.pu (Pu.pickF (.tmp rfl) .bool) ?_
              refine D.pu (Pu.move (.tmp (v:=.bool _) rfl)) ?_
              refine D.gskip (W.f rfl rfl rfl) ?_
              refine D.gskip (W.f rfl rfl rfl) ?_
              refine D.gskip (W.f rfl rfl rfl) ?_
              refine D.gskip (W.f rfl rfl rfl) ?_
              refine D.gskip (W.f rfl rfl rfl) ?_
              refine D.gskip (W.f rfl rfl rfl) ?_
              refine D.pu (Pu.pickF (.tmp rfl) .bool) ?_
              refine D.pu (Pu.move (.tmp (v:=.bool _) rfl)) ?_
              refine D.gskip (W.f rfl rfl rfl) ?_
              refine D.gskip (W.f rfl rfl rfl) ?_
              refine D.gskip (W.f rfl rfl rfl) ?_
              refine D.gskip (W.f rfl rfl rfl) ?_
              refine D.gskip (W.f rfl rfl rfl) ?_
              refine D.gskip (W.f rfl rfl rfl) ?_
              refine D.pu (Pu.pickF (.tmp rfl) .bool) ?_
              refine D.pu (Pu.move (.tmp (v:=.bool _) rfl)) ?_
              refine D.gskip (W.f rfl rfl rfl) ?_
              refine D.gskip (W.f rfl rfl rfl) ?_
              refine D.gskip (W.f rfl rfl rfl) ?_
              refine D.gskip (W.f rfl rfl rfl) ?_
              refine D.gskip (W.f rfl rfl rfl) ?_
              refine D.gskip (W.f rfl rfl rfl) ?_
              refine D.pu (Pu.pickF (.tmp rfl) .bool) ?_
              refine D.pu (Pu.assign (.tmp (v:=.bool _) rfl)) ?_
              refine D.nil (by kernel_rfl) ?_
              refine X.ret ?_
              cases h
              exact E.fin [] (.tmp (v:=.bool _) rfl .nil) (.cons (.cl .bool) .nil)
          · rw [if_neg c] at h
            refine D.gskip (W.f rfl rfl rfl) ?_
            refine D.gskip (W.f rfl rfl rfl) ?_
            refine D.pu (Pu.pickF (.tmp rfl) .bool) ?_
            refine D.pu (Pu.move (.tmp (v:=.bool _) rfl)) ?_
            refine D.gskip (W.f rfl rfl rfl) ?_
            refine D.gskip (W.f rfl rfl rfl) ?_
            refine D.pu (Pu.pickF (.tmp rfl) .bool) ?_
            refine D.pu (Pu.move (.tmp (v:=.bool _) rfl)) ?_
            refine D.gskip (W.f rfl rfl rfl) ?_
            refine D.gskip (W.f rfl rfl rfl) ?_
            refine D.pu (Pu.pickF (.tmp rfl) .bool) ?_
            refine D.pu (Pu.move (.tmp (v:=.bool _) rfl)) ?_
            refine D.gskip (W.f rfl rfl rfl) ?_
            refine D.gskip (W.f rfl rfl rfl) ?_
            refine D.pu (Pu.pickF (.tmp rfl) .bool) ?_
            refine D.pu (Pu.move (.tmp (v:=.bool _) rfl)) ?_
            refine D.gskip (W.f rfl rfl rfl) ?_
            refine D.gskip (W.f rfl rfl rfl) ?_
            refine D.gskip (W.f rfl rfl rfl) ?_
            refine D.gskip (W.f rfl rfl rfl) ?_
            refine D.gskip (W.f rfl rfl rfl) ?_
            refine D.gskip (W.f rfl rfl rfl) ?_
            refine D.pu (Pu.pickF (.tmp rfl) .bool) ?_
            refine D.pu (Pu.move (.tmp (v:=.bool _) rfl)) ?_
            refine D.gskip (W.f rfl rfl rfl) ?_
            refine D.gskip (W.f rfl rfl rfl) ?_
            refine D.gskip (W.f rfl rfl rfl) ?_
            refine D.gskip (W.f rfl rfl rfl) ?_
            refine D.gskip (W.f rfl rfl rfl) ?_
            refine D.gskip (W.f rfl rfl rfl) ?_
            refine D.pu (Pu.pickF (.tmp rfl) .bool) ?_
            refine D.pu (Pu.move (.tmp (v:=.bool _) rfl)) ?_
            refine D.gskip (W.f rfl rfl rfl) ?_
            refine D.gskip (W.f rfl rfl rfl) ?_
            refine D.gskip (W.f rfl rfl rfl) ?_
            refine D.gskip (W.f rfl rfl rfl) ?_
            refine D.gskip (W.f rfl rfl rfl) ?_
            refine D.gskip (W.f rfl rfl rfl) ?_
            refine D.pu (Pu.pickF (.tmp rfl) .bool) ?_
            refine D.pu (Pu.assign (.tmp (v:=.bool _) rfl)) ?_
            refine D.nil (by kernel_rfl) ?_
            refine X.ret ?_
            cases h
            exact E.fin [] (.tmp (v:=.bool _) rfl .nil) (.cons (.cl .bool) .nil)
        · rw [if_neg c] at h
          refine D.gskip (W.f rfl rfl rfl) ?_
          refine D.gskip (W.f rfl rfl rfl) ?_
          refine D.pu (Pu.pickF (.tmp rfl) .bool) ?_
          refine D.pu (Pu.move (.tmp (v:=.bool _) rfl)) ?_
          refine D.gskip (W.f rfl rfl rfl) ?_
          refine D.gskip (W.f rfl rfl rfl) ?_
          refine D.pu (Pu.pickF (.tmp rfl) .bool) ?_
          refine D.pu (Pu.move (.tmp (v:=.bool _) rfl)) ?_
          refine D.gskip (W.f rfl rfl rfl) ?_
          refine D.gskip (W.f rfl rfl rfl) ?_
          refine D.pu (Pu.pickF (.tmp rfl) .bool) ?_
          refine D.pu (Pu.move (.tmp (v:=.bool _) rfl)) ?_
          refine D.gskip (W.f rfl rfl rfl) ?_
          refine D.gskip (W.f rfl rfl rfl) ?_
          refine D.pu (Pu.pickF (.tmp rfl) .bool) ?_
          refine D.pu (Pu.move (.tmp (v:=.bool _) rfl)) ?_
          refine D.gskip (W.f rfl rfl rfl) ?_
          refine D.gskip (W.f rfl rfl rfl) ?_
          refine D.pu (Pu.pickF (.tmp rfl) .bool) ?_
          refine D.pu (Pu.move (.tmp (v:=.bool _) rfl)) ?_
          refine D.gskip (W.f rfl rfl rfl) ?_
          refine D.gskip (W.f rfl rfl rfl) ?_
          refine D.gskip (W.f rfl rfl rfl) ?_
          refine D.gskip (W.f rfl rfl rfl) ?_
          refine D.gskip (W.f rfl rfl rfl) ?_
          refine D.gskip (W.f rfl rfl rfl) ?_
          refine D.pu (Pu.pickF (.tmp rfl) .bool) ?_
          refine D.pu (Pu.move (.tmp (v:=.bool _) rfl)) ?_
          refine D.gskip (W.f rfl rfl rfl) ?_
          refine D.gskip (W.f rfl rfl rfl) ?_
          refine D.gskip (W.f rfl rfl rfl) ?_
          refine D.gskip (W.f rfl rfl rfl) ?_
          refine D.gskip (W.f rfl rfl rfl) ?_
          refine D.gskip (W.f rfl rfl rfl) ?_
          refine D.pu (Pu.pickF (.tmp rfl) .bool) ?_
          refine D.pu (Pu.move (.tmp (v:=.bool _) rfl)) ?_
          refine D.gskip (W.f rfl rfl rfl) ?_
          refine D.gskip (W.f rfl rfl rfl) ?_
          refine D.gskip (W.f rfl rfl rfl) ?_
          refine D.gskip (W.f rfl rfl rfl) ?_
          refine D.gskip (W.f rfl rfl rfl) ?_
          refine D.gskip (W.f rfl rfl rfl) ?_
          refine D.pu (Pu.pickF (.tmp rfl) .bool) ?_
          refine D.pu (Pu.assign (.tmp (v:=.bool _) rfl)) ?_
          refine D.nil (by kernel_rfl) ?_
          refine X.ret ?_
          cases h
          exact E.fin [] (.tmp (v:=.bool _) rfl .nil) (.cons (.cl .bool) .nil)
      · rw [if_neg c] at h
        refine D.gskip (W.f rfl rfl rfl) ?_
        refine D.gskip (W.f rfl rfl rfl) ?_
        refine D.pu (Pu.pickF (.tmp rfl) .bool) ?_
        refine D.pu (Pu.move (.tmp (v:=.bool _) rfl)) ?_
        refine D.gskip (W.f rfl rfl rfl) ?_
        refine D.gskip (W.f rfl rfl rfl) ?_
        refine D.pu (Pu.pickF (.tmp rfl) .bool) ?_
        refine D.pu (Pu.move (.tmp (v:=.bool _) rfl)) ?_
        refine D.gskip (W.f rfl rfl rfl) ?_
        refine D.gskip (W.f rfl rfl rfl) ?_
        refine D.pu (Pu.pickF (.tmp rfl) .bool) ?_
        refine D.pu (Pu.move (.tmp (v:=.bool _) rfl)) ?_
        refine D.gskip (W.f rfl rfl rfl) ?_
        refine D.gskip (W.f rfl rfl rfl) ?_
        refine D.pu (Pu.pickF (.tmp rfl) .bool) ?_
        refine D.pu (Pu.move (.tmp (v:=.bool _) rfl)) ?_
        refine D.gskip (W.f rfl rfl rfl) ?_
        refine D.gskip (W.f rfl rfl rfl) ?_
        refine D.pu (Pu.pickF (.tmp rfl) .bool) ?_
        refine D.pu (Pu.move (.tmp (v:=.bool _) rfl)) ?_
        refine D.gskip (W.f rfl rfl rfl) ?_
        refine D.gskip (W.f rfl rfl rfl) ?_
        refine D.pu (Pu.pickF (.tmp rfl) .bool) ?_
        refine D.pu (Pu.move (.tmp (v:=.bool _) rfl)) ?_
        refine D.gskip (W.f rfl rfl rfl) ?_
        refine D.gskip (W.f rfl rfl rfl) ?_
        refine D.gskip (W.f rfl rfl rfl) ?_
        refine D.gskip (W.f rfl rfl rfl) ?_
        refine D.gskip (W.f rfl rfl rfl) ?_
        refine D.gskip (W.f rfl rfl rfl) ?_
        refine D.pu (Pu.pickF (.tmp rfl) .bool) ?_
        refine D.pu (Pu.move (.tmp (v:=.bool _) rfl)) ?_
        refine D.gskip (W.f rfl rfl rfl) ?_
        refine D.gskip (W.f rfl rfl rfl) ?_
        refine D.gskip (W.f rfl rfl rfl) ?_
        refine D.gskip (W.f rfl rfl rfl) ?_
        refine D.gskip (W.f rfl rfl rfl) ?_
        refine D.gskip (W.f rfl rfl rfl) ?_
        refine D.pu (Pu.pickF (.tmp rfl) .bool) ?_
        refine D.pu (Pu.move (.tmp (v:=.bool _) rfl)) ?_
        refine D.gskip (W.f rfl rfl rfl) ?_
        refine D.gskip (W.f rfl rfl rfl) ?_
        refine D.gskip (W.f rfl rfl rfl) ?_
        refine D.gskip (W.f rfl rfl rfl) ?_
        refine D.gskip (W.f rfl rfl rfl) ?_
        refine D.gskip (W.f rfl rfl rfl) ?_
        refine D.pu (Pu.pickF (.tmp rfl) .bool) ?_
        refine D.pu (Pu.assign (.tmp (v:=.bool _) rfl)) ?_
        refine D.nil (by kernel_rfl) ?_
        refine X.ret ?_
        cases h
        exact E.fin [] (.tmp (v:=.bool _) rfl .nil) (.cons (.cl .bool) .nil)
    · rw [if_neg (bf c)] at h
      refine D.gskip (W.f rfl rfl rfl) ?_
      refine D.gskip (W.f rfl rfl rfl) ?_
      refine D.pu (Pu.pickF (.tmp rfl) .bool) ?_
      refine D.pu (Pu.move (.tmp (v:=.bool _) rfl)) ?_
      refine D.gskip (W.f rfl rfl rfl) ?_
      refine D.gskip (W.f rfl rfl rfl) ?_
      refine D.pu (Pu.pickF (.tmp rfl) .bool) ?_
      refine D.pu (Pu.move (.tmp (v:=.bool _) rfl)) ?_
      refine D.gskip (W.f rfl rfl rfl) ?_
      refine D.gskip (W.f rfl rfl rfl) ?_
      refine D.pu (Pu.pickF (.tmp rfl) .bool) ?_
      refine D.pu (Pu.move (.tmp (v:=.bool _) rfl)) ?_
      refine D.gskip (W.f rfl rfl rfl) ?_
      refine D.gskip (W.f rfl rfl rfl) ?_
      refine D.pu (Pu.pickF (.tmp rfl) .bool) ?_
      refine D.pu (Pu.move (.tmp (v:=.bool _) rfl)) ?_
      refine D.gskip (W.f rfl rfl rfl) ?_
      refine D.gskip (W.f rfl rfl rfl) ?_
      refine D.pu (Pu.pickF (.tmp rfl) .bool) ?_
      refine D.pu (Pu.move (.tmp (v:=.bool _) rfl)) ?_
      refine D.gskip (W.f rfl rfl rfl) ?_
      refine D.gskip (W.f rfl rfl rfl) ?_
      refine D.pu (Pu.pickF (.tmp rfl) .bool) ?_
      refine D.pu (Pu.move (.tmp (v:=.bool _) rfl)) ?_
      refine D.gskip (W.f rfl rfl rfl) ?_
      refine D.gskip (W.f rfl rfl rfl) ?_
      refine D.pu (Pu.pickF (.tmp rfl) .bool) ?_
      refine D.pu (Pu.move (.tmp (v:=.bool _) rfl)) ?_
      refine D.gskip (W.f rfl rfl rfl) ?_
      refine D.gskip (W.f rfl rfl rfl) ?_
      refine D.gskip (W.f rfl rfl rfl) ?_
      refine D.gskip (W.f rfl rfl rfl) ?_
      refine D.gskip (W.f rfl rfl rfl) ?_
      refine D.gskip (W.f rfl rfl rfl) ?_
      refine D.pu (Pu.pickF (.tmp rfl) .bool) ?_
      refine D.pu (Pu.move (.tmp (v:=.bool _) rfl)) ?_
      refine D.gskip (W.f rfl rfl rfl) ?_
      refine D.gskip (W.f rfl rfl rfl) ?_
      refine D.gskip (W.f rfl rfl rfl) ?_
      refine D.gskip (W.f rfl rfl rfl) ?_
      refine D.gskip (W.f rfl rfl rfl) ?_
      refine D.gskip (W.f rfl rfl rfl) ?_
      refine D.pu (Pu.pickF (.tmp rfl) .bool) ?_
      refine D.pu (Pu.move (.tmp (v:=.bool _) rfl)) ?_
      refine D.gskip (W.f rfl rfl rfl) ?_
      refine D.gskip (W.f rfl rfl rfl) ?_
      refine D.gskip (W.f rfl rfl rfl) ?_
      refine D.gskip (W.f rfl rfl rfl) ?_
      refine D.gskip (W.f rfl rfl rfl) ?_
      refine D.gskip (W.f rfl rfl rfl) ?_
      refine D.pu (Pu.pickF (.tmp rfl) .bool) ?_
      refine D.pu (Pu.assign (.tmp (v:=.bool _) rfl)) ?_
      refine D.nil (by kernel_rfl) ?_
      refine X.ret ?_
      cases h
      exact E.fin [] (.tmp (v:=.bool _) rfl .nil) (.cons (.cl .bool) .nil)
  · rw [if_neg c] at h
    refine X.skip ?_
    refine X.seq ?_
    refine X.still ?_
    refine O.pu (U.load (.tmp rfl) rfl rfl (U.whole rfl rfl)) ?_
    refine O.pu (U.load (.tmp rfl) rfl rfl (U.whole rfl rfl)) ?_
    refine O.pu (Pu.move (.tmp (v:=.int _ _) rfl)) ?_
    refine O.pu (Pu.bin .int (.tmp rfl) U.add64) ?_
    repeat (rw [chattellaw13_PowerAdds.j0_e] at h;obtain ⟨k,_,h⟩:=h;unfold chattellaw13_PowerAdds.j0 at h;try dsimp only at h)
    obtain ⟨q22,Hq22,h⟩:=Option.bind_eq_some_iff.1 h
    refine O.pu (U.call (ss:=[]) (.cons (.tmp (v:=.agg _) rfl) (.cons (.tmp (v:=.agg _) rfl) (.cons (.tmp (v:=.int _ _) rfl) .nil))) (.cons (.cl (.aggL (.cons .fi (.cons .bool (.cons .fi .nil))))) (.cons (.cl (.aggL (.cons .fi (.cons .bool (.cons .fi .nil))))) (.cons (.cl .int) .nil))) (power_Level.cs Hq22) (.inl rfl) (.tupL (.cons (.aggL (.cons .fi (.cons .bool (.cons .fi .nil)))) (.cons .int .nil)))) ?_
    refine O.pu (Pu.move (.tmp (v:=.tup _) rfl)) ?_
    refine O.pu (Pu.extract (.tmp rfl) rfl) ?_
    refine O.pu (Pu.extract (.tmp rfl) rfl) ?_
    refine O.puE (v':=.op 26 (1) 0 0) (b':=⟨1, .own,(.vals [.agg [.fi .u64 [], .bool false, .fi .u64 []]]),_⟩) Pu.alloc rfl rfl ?_
    refine O.ef0 (U.storeE (.tmp rfl) rfl rfl (.tmp (v:=.agg _) rfl) rfl rfl (.whole (notBad_ne rfl) rfl) .one) ?_
    refine O.pu (Pu.assign (.tmp (v:=.int _ _) rfl)) ?_
    refine O.nil ?_
    refine X.seq ?_
    refine X.drawn ?_
    refine D.pu (U.load (.tmp rfl) rfl rfl (U.whole rfl rfl)) ?_
    refine D.pu (U.load (.tmp rfl) rfl rfl (U.whole rfl rfl)) ?_
    obtain ⟨q23,Hq23,h⟩:=Option.bind_eq_some_iff.1 h
    refine D.pu (U.call (ss:=[]) (.cons (.tmp (v:=.agg _) rfl) (.cons (.tmp (v:=.agg _) rfl) .nil)) (.cons (.cl (.aggL (.cons .fi (.cons .bool (.cons .fi .nil))))) (.cons (.cl (.aggL (.cons .fi (.cons .bool (.cons .fi .nil))))) .nil)) (frac_Frac_Mul.cs Hq23) (.inl rfl) (.aggL (.cons .fi (.cons .bool (.cons .fi .nil))))) ?_
    refine D.pu (U.load (.tmp rfl) rfl rfl (U.whole rfl rfl)) ?_
    refine D.pu (Pu.move (.tmp (v:=.int _ _) rfl)) ?_
    refine D.pu (Pu.bin .int (.tmp rfl) U.add64) ?_
    obtain ⟨q24,Hq24,h⟩:=Option.bind_eq_some_iff.1 h
    refine D.pu (U.call (ss:=[]) (.cons (.tmp (v:=.agg _) rfl) (.cons (.tmp (v:=.agg _) rfl) (.cons (.tmp (v:=.int _ _) rfl) .nil))) (.cons (.cl (.aggL (.cons .fi (.cons .bool (.cons .fi .nil))))) (.cons (.cl (.aggL (.cons .fi (.cons .bool (.cons .fi .nil))))) (.cons (.cl .int) .nil))) (power_Level.cs Hq24) (.inl rfl) (.tupL (.cons (.aggL (.cons .fi (.cons .bool (.cons .fi .nil)))) (.cons .int .nil)))) ?_
    refine D.pu (Pu.move (.tmp (v:=.tup _) rfl)) ?_
    refine D.pu (Pu.extract (.tmp rfl) rfl) ?_
    refine D.pu (Pu.extract (.tmp rfl) rfl) ?_
    refine D.puE (v':=.op 28 (1) 0 0) (b':=⟨1, .own,(.vals [.agg [.fi .u64 [], .bool false, .fi .u64 []]]),_⟩) Pu.alloc rfl rfl ?_
    refine D.ef0 (C.storeE (.tmp rfl) rfl rfl (.tmp (v:=.agg _) rfl) rfl rfl (.whole (notBad_ne rfl) rfl) .one) ?_
    refine D.pu (Pu.assign (.tmp (v:=.int _ _) rfl)) ?_
    refine D.nil (by kernel_rfl) ?_
    refine X.seq ?_
    refine X.drawn ?_
    obtain ⟨q25,Hq25,h⟩:=Option.bind_eq_some_iff.1 h
    refine D.pu (U.call (ss:=[]) .nil .nil (chattellaw13_wakes.cs Hq25) (.inl rfl) (.bool)) ?_
    refine D.pu (Pu.move (.tmp (v:=.bool _) rfl)) ?_
    refine D.split (fun c=>?_) (fun c=>?_)
    · rw [if_pos c] at h
      refine D.gpu (W.t rfl rfl) (Pu.move (.tmp (v:=.int _ _) rfl)) ?_
      refine D.gpu (W.t rfl rfl) (Pu.bin (.tmp rfl) .int .eql) ?_
      refine D.pu (Pu.pickT (.tmp rfl) (.tmp (v:=.bool _) rfl)) ?_
      refine D.pu (Pu.move (.tmp (v:=.bool _) rfl)) ?_
      refine D.splitE (fun c=>?_) (fun c=>?_)
      · rw [if_pos c] at h
        refine D.gpu (W.t rfl rfl) (Pu.move (.tmp (v:=.int _ _) rfl)) ?_
        refine D.gpu (W.t rfl rfl) (Pu.bin (.tmp rfl) .int .eql) ?_
        refine D.pu (Pu.pickT (.tmp rfl) (.tmp (v:=.bool _) rfl)) ?_
        refine D.pu (Pu.move (.tmp (v:=.bool _) rfl)) ?_
        refine D.splitE (fun c=>?_) (fun c=>?_)
        · rw [if_pos c] at h
          refine D.gpu (W.t rfl rfl) (Pu.move (.tmp (v:=.int _ _) rfl)) ?_
          refine D.gpu (W.t rfl rfl) (Pu.bin (.tmp rfl) .int .eql) ?_
          refine D.pu (Pu.pickT (.tmp rfl) (.tmp (v:=.bool _) rfl)) ?_
          refine D.pu (Pu.move (.tmp (v:=.bool _) rfl)) ?_
          refine D.splitE (fun c=>?_) (fun c=>?_)
          · rw [if_pos c] at h
            refine D.gpu (W.t rfl rfl) (Pu.move (.tmp (v:=.int _ _) rfl)) ?_
            refine D.gpu (W.t rfl rfl) (Pu.bin (.tmp rfl) .int .eql) ?_
            refine D.pu (Pu.pickT (.tmp rfl) (.tmp (v:=.bool _) rfl)) ?_
            refine D.pu (Pu.move (.tmp (v:=.bool _) rfl)) ?_
            refine D.splitE (fun c=>?_) (fun c=>?_)
            · rw [if_pos c] at h
              refine D.gpu (W.t rfl rfl) (Pu.move (.tmp (v:=.int _ _) rfl)) ?_
              refine D.gpu (W.t rfl rfl) (Pu.bin (.tmp rfl) .int .eql) ?_
              refine D.pu (Pu.pickT (.tmp rfl) (.tmp (v:=.bool _) rfl)) ?_
              refine D.pu (Pu.move (.tmp (v:=.bool _) rfl)) ?_
              refine D.splitE (fun c=>?_) (fun c=>?_)
              · rw [if_pos c] at h
                refine D.gpu (W.t rfl rfl) (Pu.move (.tmp (v:=.int _ _) rfl)) ?_
                refine D.gpu (W.t rfl rfl) (Pu.bin (.tmp rfl) .int .eql) ?_
                refine D.pu (Pu.pickT (.tmp rfl) (.tmp (v:=.bool _) rfl)) ?_
                refine D.pu (Pu.move (.tmp (v:=.bool _) rfl)) ?_
                refine D.splitE (fun c=>?_) (fun c=>?_)
                · rw [if_pos c] at h
                  refine D.gpu (W.t rfl rfl) (Pu.move (.tmp (v:=.int _ _) rfl)) ?_
                  refine D.gpu (W.t rfl rfl) (Pu.bin (.tmp rfl) .int .eql) ?_
                  refine D.pu (Pu.pickT (.tmp rfl) (.tmp (v:=.bool _) rfl)) ?_
                  refine D.pu (Pu.move (.tmp (v:=.bool _) rfl)) ?_
                  refine D.splitE (fun c=>?_) (fun c=>?_)
                  · rw [if_pos c] at h
                    refine D.gpu (W.t rfl rfl) (U.load (.tmp rfl) rfl rfl (U.whole rfl rfl)) ?_
                    refine D.gpu (W.t rfl rfl) (U.load (.tmp rfl) rfl rfl (U.whole rfl rfl)) ?_
                    obtain ⟨q26,Hq26,h⟩:=Option.bind_eq_some_iff.1 h
                    refine D.gpu (W.t rfl rfl) (U.call (ss:=[]) (.cons (.tmp (v:=.agg _) rfl) (.cons (.tmp (v:=.agg _) rfl) .nil)) (.cons (.cl (.aggL (.cons .fi (.cons .bool (.cons .fi .nil))))) (.cons (.cl (.aggL (.cons .fi (.cons .bool (.cons .fi .nil))))) .nil)) (frac_Frac_Mul.cs Hq26) (.inl rfl) (.aggL (.cons .fi (.cons .bool (.cons .fi .nil))))) ?_
                    refine D.gpu (W.t rfl rfl) (U.load (.tmp rfl) rfl rfl (U.whole rfl rfl)) ?_
                    obtain ⟨q27,Hq27,h⟩:=Option.bind_eq_some_iff.1 h
                    refine D.gpu (W.t rfl rfl) (U.call (ss:=[]) (.cons (.tmp (v:=.agg _) rfl) (.cons (.tmp (v:=.agg _) rfl) .nil)) (.cons (.cl (.aggL (.cons .fi (.cons .bool (.cons .fi .nil))))) (.cons (.cl (.aggL (.cons .fi (.cons .bool (.cons .fi .nil))))) .nil)) (frac_Frac_Cmp.cs Hq27) (.inl rfl) (.int)) ?_
                    refine D.gpu (W.t rfl rfl) (Pu.bin (.tmp rfl) .int .eql) ?_
                    refine D.pu (Pu.pickT (.tmp rfl) (.tmp (v:=.bool _) rfl)) ?_
                    refine D.pu (Pu.move (.tmp (v:=.bool _) rfl)) ?_
                    refine D.splitE (fun c=>?_) (fun c=>?_)
                    · rw [if_pos c] at h
                      refine D.gpu (W.t rfl rfl) (U.load (.tmp rfl) rfl rfl (U.whole rfl rfl)) ?_
                      refine D.gpu (W.t rfl rfl) (U.load (.tmp rfl) rfl rfl (U.whole rfl rfl)) ?_
                      obtain ⟨q28,Hq28,h⟩:=Option.bind_eq_some_iff.1 h
                      refine D.gpu (W.t rfl rfl) (U.call (ss:=[]) (.cons (.tmp (v:=.agg _) rfl) (.cons (.tmp (v:=.agg _) rfl) .nil)) (.cons (.cl (.aggL (.cons .fi (.cons .bool (.cons .fi .nil))))) (.cons (.cl (.aggL (.cons .fi (.cons .bool (.cons .fi .nil))))) .nil)) (frac_Frac_Mul.cs Hq28) (.inl rfl) (.aggL (.cons .fi (.cons .bool (.cons .fi .nil))))) ?_
                      refine D.gpu (W.t rfl rfl) (U.load (.tmp rfl) rfl rfl (U.whole rfl rfl)) ?_
                      obtain ⟨q29,Hq29,h⟩:=Option.bind_eq_some_iff.1 h
                      refine D.gpu (W.t rfl rfl) (U.call (ss:=[]) (.cons (.tmp (v:=.agg _) rfl) (.cons (.tmp (v:=.agg _) rfl) .nil)) (.cons (.cl (.aggL (.cons .fi (.cons .bool (.cons .fi .nil))))) (.cons (.cl (.aggL (.cons .fi (.cons .bool (.cons .fi .nil))))) .nil)) (frac_Frac_Cmp.cs Hq29) (.inl rfl) (.int)) ?_
                      refine D.gpu (W.t rfl rfl) (Pu.bin (.tmp rfl) .int .eql) ?_
                      refine D.pu (Pu.pickT (.tmp rfl) (.tmp (v:=.bool _) rfl)) ?_
                      refine D.pu (Pu.move (.tmp (v:=.bool _) rfl)) ?_
                      refine D.splitE (fun c=>?_) (fun c=>?_)
                      · rw [if_pos c] at h
                        refine D.gpu (W.t rfl rfl) (U.load (.tmp rfl) rfl rfl (U.whole rfl rfl)) ?_
                        refine D.gpu (W.t rfl rfl) (U.load (.tmp rfl) rfl rfl (U.whole rfl rfl)) ?_
                        obtain ⟨q30,Hq30,h⟩:=Option.bind_eq_some_iff.1 h
                        refine D.gpu (W.t rfl rfl) (U.call (ss:=[]) (.cons (.tmp (v:=.agg _) rfl) (.cons (.tmp (v:=.agg _) rfl) .nil)) (.cons (.cl (.aggL (.cons .fi (.cons .bool (.cons .fi .nil))))) (.cons (.cl (.aggL (.cons .fi (.cons .bool (.cons .fi .nil))))) .nil)) (frac_Frac_Mul.cs Hq30) (.inl rfl) (.aggL (.cons .fi (.cons .bool (.cons .fi .nil))))) ?_
                        refine D.gpu (W.t rfl rfl) (U.load (.tmp rfl) rfl rfl (U.whole rfl rfl)) ?_
                        obtain ⟨q31,Hq31,h⟩:=Option.bind_eq_some_iff.1 h
                        refine D.gpu (W.t rfl rfl) (U.call (ss:=[]) (.cons (.tmp (v:=.agg _) rfl) (.cons (.tmp (v:=.agg _) rfl) .nil)) (.cons (.cl (.aggL (.cons .fi (.cons .bool (.cons .fi .nil))))) (.cons (.cl (.aggL (.cons .fi (.cons .bool (.cons .fi .nil))))) .nil)) (frac_Frac_Cmp.cs Hq31) (.inl rfl) (.int)) ?_
                        refine D.gpu (W.t rfl rfl) (Pu.bin (.tmp rfl) .int .eql) ?_
                        refine D.pu (Pu.pickT (.tmp rfl) (.tmp (v:=.bool _) rfl)) ?_
                        refine D.pu (Pu.assign (.tmp (v:=.bool _) rfl)) ?_
                        refine D.nil (by kernel_rfl) ?_
                        refine X.ret ?_
                        cases h
                        exact E.fin [] (.tmp (v:=.bool _) rfl .nil) (.cons (.cl .bool) .nil)
                      · rw [if_neg c] at h
                        refine D.gskip (W.f rfl rfl rfl) ?_
                        refine D.gskip (W.f rfl rfl rfl) ?_
                        refine D.gskip (W.f rfl rfl rfl) ?_
                        refine D.gskip (W.f rfl rfl rfl) ?_
                        refine D.gskip (W.f rfl rfl rfl) ?_
                        refine D.gskip (W.f rfl rfl rfl) ?_
                        refine D.pu (Pu.pickF (.tmp rfl) .bool) ?_
                        refine D.pu (Pu.assign (.tmp (v:=.bool _) rfl)) ?_
                        refine D.nil (by kernel_rfl) ?_
                        refine X.ret ?_
                        cases h
                        exact E.fin [] (.tmp (v:=.bool _) rfl .nil) (.cons (.cl .bool) .nil)
                    · rw [if_neg c] at h
                      refine D.gskip (W.f rfl rfl rfl) ?_
                      refine D.gskip (W.f rfl rfl rfl) ?_
                      refine D.gskip (W.f rfl rfl rfl) ?_
                      refine D.gskip (W.f rfl rfl rfl) ?_
                      refine D.gskip (W.f rfl rfl rfl) ?_
                      refine D.gskip (W.f rfl rfl rfl) ?_
                      refine D.pu (Pu.pickF (.tmp rfl) .bool) ?_
                      refine D.pu (Pu.move (.tmp (v:=.bool _) rfl)) ?_
                      refine D.gskip (W.f rfl rfl rfl) ?_
                      refine D.gskip (W.f rfl rfl rfl) ?_
                      refine D.gskip (W.f rfl rfl rfl) ?_
                      refine D.gskip (W.f rfl rfl rfl) ?_
                      refine D.gskip (W.f rfl rfl rfl) ?_
                      refine D.gskip (W.f rfl rfl rfl) ?_
                      refine D.pu (Pu.pickF (.tmp rfl) .bool) ?_
                      refine D.pu (Pu.assign (.tmp (v:=.bool _) rfl)) ?_
                      refine D.nil (by kernel_rfl) ?_
                      refine X.ret ?_
                      cases h
                      exact E.fin [] (.tmp (v:=.bool _) rfl .nil) (.cons (.cl .bool) .nil)
                  · rw [if_neg c] at h
                    refine D.gskip (W.f rfl rfl rfl) ?_
                    refine D.gskip (W.f rfl rfl rfl) ?_
                    refine D.gskip (W.f rfl rfl rfl) ?_
                    refine D.gskip (W.f rfl rfl rfl) ?_
                    refine D.gskip (W.f rfl rfl rfl) ?_
                    refine D.gskip (W.f rfl rfl rfl) ?_
                    refine D.pu (Pu.pickF (.tmp rfl) .bool) ?_
                    refine D.pu (Pu.move (.tmp (v:=.bool _) rfl)) ?_
                    refine D.gskip (W.f rfl rfl rfl) ?_
                    refine D.gskip (W.f rfl rfl rfl) ?_
                    refine D.gskip (W.f rfl rfl rfl) ?_
                    refine D.gskip (W.f rfl rfl rfl) ?_
                    refine D.gskip (W.f rfl rfl rfl) ?_
                    refine D.gskip (W.f rfl rfl rfl) ?_
                    refine D.pu (Pu.pickF (.tmp rfl) .bool) ?_
                    refine D.pu (Pu.move (.tmp (v:=.bool _) rfl)) ?_
                    refine D.gskip (W.f rfl rfl rfl) ?_
                    refine D.gskip (W.f rfl rfl rfl) ?_
                    refine D.gskip (W.f rfl rfl rfl) ?_
                    refine D.gskip (W.f rfl rfl rfl) ?_
                    refine D.gskip (W.f rfl rfl rfl) ?_
                    refine D.gskip (W.f rfl rfl rfl) ?_
                    refine D.pu (Pu.pickF (.tmp rfl) .bool) ?_
                    refine D.pu (Pu.assign (.tmp (v:=.bool _) rfl)) ?_
                    refine D.nil (by kernel_rfl) ?_
                    refine X.ret ?_
                    cases h
                    exact E.fin [] (.tmp (v:=.bool _) rfl .nil) (.cons (.cl .bool) .nil)
                · rw [if_neg c] at h
                  refine D.gskip (W.f rfl rfl rfl) ?_
                  refine D.gskip (W.f rfl rfl rfl) ?_
                  refine D.pu (Pu.pickF (.tmp rfl) .bool) ?_
                  refine D.pu (Pu.move (.tmp (v:=.bool _) rfl)) ?_
                  refine D.gskip (W.f rfl rfl rfl) ?_
                  refine D.gskip (W.f rfl rfl rfl) ?_
                  refine D.gskip (W.f rfl rfl rfl) ?_
                  refine D.gskip (W.f rfl rfl rfl) ?_
                  refine D.gskip (W.f rfl rfl rfl) ?_
                  refine D.gskip (W.f rfl rfl rfl) ?_
                  refine D.pu (Pu.pickF (.tmp rfl) .bool) ?_
                  refine D.pu (Pu.move (.tmp (v:=.bool _) rfl)) ?_
                  refine D.gskip (W.f rfl rfl rfl) ?_
                  refine D.gskip (W.f rfl rfl rfl) ?_
                  refine D.gskip (W.f rfl rfl rfl) ?_
                  refine D.gskip (W.f rfl rfl rfl) ?_
                  refine D.gskip (W.f rfl rfl rfl) ?_
                  refine D.gskip (W.f rfl rfl rfl) ?_
                  refine D.pu (Pu.pickF (.tmp rfl) .bool) ?_
                  refine D.pu (Pu.move (.tmp (v:=.bool _) rfl)) ?_
                  refine D.gskip (W.f rfl rfl rfl) ?_
                  refine D.gskip (W.f rfl rfl rfl) ?_
                  refine D.gskip (W.f rfl rfl rfl) ?_
                  refine D.gskip (W.f rfl rfl rfl) ?_
                  refine D.gskip (W.f rfl rfl rfl) ?_
                  refine D.gskip (W.f rfl rfl rfl) ?_
                  refine D.pu (Pu.pickF (.tmp rfl) .bool) ?_
                  refine D.pu (Pu.assign (.tmp (v:=.bool _) rfl)) ?_
                  refine D.nil (by kernel_rfl) ?_
                  refine X.ret ?_
                  cases h
                  exact E.fin [] (.tmp (v:=.bool _) rfl .nil) (.cons (.cl .bool) .nil)
              · rw [if_neg c] at h
                refine D.gskip (W.f rfl rfl rfl) ?_
                refine D.gskip (W.f rfl rfl rfl) ?_
                refine D.pu (Pu.pickF (.tmp rfl) .bool) ?_
                refine D.pu (Pu.move (.tmp (v:=.bool _) rfl)) ?_
                refine D.gskip (W.f rfl rfl rfl) ?_
                refine D.gskip (W.f rfl rfl rfl) ?_
                refine D.pu (Pu.pickF (.tmp rfl) .bool) ?_
                refine D.pu (Pu.move (.tmp (v:=.bool _) rfl)) ?_
                refine D.gskip (W.f rfl rfl rfl) ?_
                refine D.gskip (W.f rfl rfl rfl) ?_
                refine D.gskip (W.f rfl rfl rfl) ?_
                refine D.gskip (W.f rfl rfl rfl) ?_
                refine D.gskip (W.f rfl rfl rfl) ?_
                refine D.gskip (W.f rfl rfl rfl) ?_
                refine D.pu (Pu.pickF (.tmp rfl) .bool) ?_
                refine D.pu (Pu.move (.tmp (v:=.bool _) rfl)) ?_
                refine D.gskip (W.f rfl rfl rfl) ?_
                refine D.gskip (W.f rfl rfl rfl) ?_
                refine D.gskip (W.f rfl rfl rfl) ?_
                refine D.gskip (W.f rfl rfl rfl) ?_
                refine D.gskip (W.f rfl rfl rfl) ?_
                refine D.gskip (W.f rfl rfl rfl) ?_
                refine D.pu (Pu.pickF (.tmp rfl) .bool) ?_
                refine D.pu (Pu.move (.tmp (v:=.bool _) rfl)) ?_
                refine D.gskip (W.f rfl rfl rfl) ?_
                refine D.gskip (W.f rfl rfl rfl) ?_
                refine D.gskip (W.f rfl rfl rfl) ?_
                refine D.gskip (W.f rfl rfl rfl) ?_
                refine D.gskip (W.f rfl rfl rfl) ?_
                refine D.gskip (W.f rfl rfl rfl) ?_
                refine D.pu (Pu.pickF (.tmp rfl) .bool) ?_
                refine D.pu (Pu.assign (.tmp (v:=.bool _) rfl)) ?_
                refine D.nil (by kernel_rfl) ?_
                refine X.ret ?_
                cases h
                exact E.fin [] (.tmp (v:=.bool _) rfl .nil) (.cons (.cl .bool) .nil)
            · rw [if_neg c] at h
              refine D.gskip (W.f rfl rfl rfl) ?_
              refine D.gskip (W.f rfl rfl rfl) ?_
              refine D.pu (Pu.pickF (.tmp rfl) .bool) ?_
              refine D.pu (Pu.move (.tmp (v:=.bool _) rfl)) ?_
              refine D.gskip (W.f rfl rfl rfl) ?_
              refine D.gskip (W.f rfl rfl rfl) ?_
              refine D.pu (Pu.pickF (.tmp rfl) .bool) ?_
              refine D.pu (Pu.move (.tmp (v:=.bool _) rfl)) ?_
              refine D.gskip (W.f rfl rfl rfl) ?_
              refine D.gskip (W.f rfl rfl rfl) ?_
              refine D.pu (Pu.pickF (.tmp rfl) .bool) ?_
              refine D.pu (Pu.move (.tmp (v:=.bool _) rfl)) ?_
              refine D.gskip (W.f rfl rfl rfl) ?_
              refine D.gskip (W.f rfl rfl rfl) ?_
              refine D.gskip (W.f rfl rfl rfl) ?_
              refine D.gskip (W.f rfl rfl rfl) ?_
              refine D.gskip (W.f rfl rfl rfl) ?_
              refine D.gskip (W.f rfl rfl rfl) ?_
              refine D.pu (Pu.pickF (.tmp rfl) .bool) ?_
              refine D.pu (Pu.move (.tmp (v:=.bool _) rfl)) ?_
              refine D.gskip (W.f rfl rfl rfl) ?_
              refine D.gskip (W.f rfl rfl rfl) ?_
              refine D.gskip (W.f rfl rfl rfl) ?_
              refine D.gskip (W.f rfl rfl rfl) ?_
              refine D.gskip (W.f rfl rfl rfl) ?_
              refine D.gskip (W.f rfl rfl rfl) ?_
              refine D.pu (Pu.pickF (.tmp rfl) .bool) ?_
              refine D.pu (Pu.move (.tmp (v:=.bool _) rfl)) ?_
              refine D.gskip (W.f rfl rfl rfl) ?_
              refine D.gskip (W.f rfl rfl rfl) ?_
              refine D.gskip (W.f rfl rfl rfl) ?_
              refine D.gskip (W.f rfl rfl rfl) ?_
              refine D.gskip (W.f rfl rfl rfl) ?_
              refine D.gskip (W.f rfl rfl rfl) ?_
              refine D.pu (Pu.pickF (.tmp rfl) .bool) ?_
              refine D.pu (Pu.assign (.tmp (v:=.bool _) rfl)) ?_
              refine D.nil (by kernel_rfl) ?_
              refine X.ret ?_
              cases h
              exact E.fin [] (.tmp (v:=.bool _) rfl .nil) (.cons (.cl .bool) .nil)
          · rw [if_neg c] at h
            refine D.gskip (W.f rfl rfl rfl) ?_
            refine D.gskip (W.f rfl rfl rfl) ?_
            refine D.pu (Pu.pickF (.tmp rfl) .bool) ?_
            refine D.pu (Pu.move (.tmp (v:=.bool _) rfl)) ?_
            refine D.gskip (W.f rfl rfl rfl) ?_
            refine D.gskip (W.f rfl rfl rfl) ?_
            refine D.pu (Pu.pickF (.tmp rfl) .bool) ?_
            refine D.pu (Pu.move (.tmp (v:=.bool _) rfl)) ?_
            refine D.gskip (W.f rfl rfl rfl) ?_
            refine D.gskip (W.f rfl rfl rfl) ?_
            refine D.pu (Pu.pickF (.tmp rfl) .bool) ?_
            refine D.pu (Pu.move (.tmp (v:=.bool _) rfl)) ?_
            refine D.gskip (W.f rfl rfl rfl) ?_
            refine D.gskip (W.f rfl rfl rfl) ?_
            refine D.pu (Pu.pickF (.tmp rfl) .bool) ?_
            refine D.pu (Pu.move (.tmp (v:=.bool _) rfl)) ?_
            refine D.gskip (W.f rfl rfl rfl) ?_
            refine D.gskip (W.f rfl rfl rfl) ?_
            refine D.gskip (W.f rfl rfl rfl) ?_
            refine D.gskip (W.f rfl rfl rfl) ?_
            refine D.gskip (W.f rfl rfl rfl) ?_
            refine D.gskip (W.f rfl rfl rfl) ?_
            refine D.pu (Pu.pickF (.tmp rfl) .bool) ?_
            refine D.pu (Pu.move (.tmp (v:=.bool _) rfl)) ?_
            refine D.gskip (W.f rfl rfl rfl) ?_
            refine D.gskip (W.f rfl rfl rfl) ?_
            refine D.gskip (W.f rfl rfl rfl) ?_
            refine D.gskip (W.f rfl rfl rfl) ?_
            refine D.gskip (W.f rfl rfl rfl) ?_
            refine D.gskip (W.f rfl rfl rfl) ?_
            refine D.pu (Pu.pickF (.tmp rfl) .bool) ?_
            refine D.pu (Pu.move (.tmp (v:=.bool _) rfl)) ?_
            refine D.gskip (W.f rfl rfl rfl) ?_
            refine D.gskip (W.f rfl rfl rfl) ?_
            refine D.gskip (W.f rfl rfl rfl) ?_
            refine D.gskip (W.f rfl rfl rfl) ?_
            refine D.gskip (W.f rfl rfl rfl) ?_
            refine D.gskip (W.f rfl rfl rfl) ?_
            refine D.pu (Pu.pickF (.tmp rfl) .bool) ?_
            refine D.pu (Pu.assign (.tmp (v:=.bool _) rfl)) ?_
            refine D.nil (by kernel_rfl) ?_
            refine X.ret ?_
            cases h
            exact E.fin [] (.tmp (v:=.bool _) rfl .nil) (.cons (.cl .bool) .nil)
        · rw [if_neg c] at h
          refine D.gskip (W.f rfl rfl rfl) ?_
          refine D.gskip (W.f rfl rfl rfl) ?_
          refine D.pu (Pu.pickF (.tmp rfl) .bool) ?_
          refine D.pu (Pu.move (.tmp (v:=.bool _) rfl)) ?_
          refine D.gskip (W.f rfl rfl rfl) ?_
          refine D.gskip (W.f rfl rfl rfl) ?_
          refine D.pu (Pu.pickF (.tmp rfl) .bool) ?_
          refine D.pu (Pu.move (.tmp (v:=.bool _) rfl)) ?_
          refine D.gskip (W.f rfl rfl rfl) ?_
          refine D.gskip (W.f rfl rfl rfl) ?_
          refine D.pu (Pu.pickF (.tmp rfl) .bool) ?_
          refine D.pu (Pu.move (.tmp (v:=.bool _) rfl)) ?_
          refine D.gskip (W.f rfl rfl rfl) ?_
          refine D.gskip (W.f rfl rfl rfl) ?_
          refine D.pu (Pu.pickF (.tmp rfl) .bool) ?_
          refine D.pu (Pu.move (.tmp (v:=.bool _) rfl)) ?_
          refine D.gskip (W.f rfl rfl rfl) ?_
          refine D.gskip (W.f rfl rfl rfl) ?_
          refine D.pu (Pu.pickF (.tmp rfl) .bool) ?_
          refine D.pu (Pu.move (.tmp (v:=.bool _) rfl)) ?_
          refine D.gskip (W.f rfl rfl rfl) ?_
          refine D.gskip (W.f rfl rfl rfl) ?_
          refine D.gskip (W.f rfl rfl rfl) ?_
          refine D.gskip (W.f rfl rfl rfl) ?_
          refine D.gskip (W.f rfl rfl rfl) ?_
          refine D.gskip (W.f rfl rfl rfl) ?_
          refine D.pu (Pu.pickF (.tmp rfl) .bool) ?_
          refine D.pu (Pu.move (.tmp (v:=.bool _) rfl)) ?_
          refine D.gskip (W.f rfl rfl rfl) ?_
          refine D.gskip (W.f rfl rfl rfl) ?_
          refine D.gskip (W.f rfl rfl rfl) ?_
          refine D.gskip (W.f rfl rfl rfl) ?_
          refine D.gskip (W.f rfl rfl rfl) ?_
          refine D.gskip (W.f rfl rfl rfl) ?_
          refine D.pu (Pu.pickF (.tmp rfl) .bool) ?_
          refine D.pu (Pu.move (.tmp (v:=.bool _) rfl)) ?_
          refine D.gskip (W.f rfl rfl rfl) ?_
          refine D.gskip (W.f rfl rfl rfl) ?_
          refine D.gskip (W.f rfl rfl rfl) ?_
          refine D.gskip (W.f rfl rfl rfl) ?_
          refine D.gskip (W.f rfl rfl rfl) ?_
          refine D.gskip (W.f rfl rfl rfl) ?_
          refine D.pu (Pu.pickF (.tmp rfl) .bool) ?_
          refine D.pu (Pu.assign (.tmp (v:=.bool _) rfl)) ?_
          refine D.nil (by kernel_rfl) ?_
          refine X.ret ?_
          cases h
          exact E.fin [] (.tmp (v:=.bool _) rfl .nil) (.cons (.cl .bool) .nil)
      · rw [if_neg c] at h
        refine D.gskip (W.f rfl rfl rfl) ?_
        refine D.gskip (W.f rfl rfl rfl) ?_
        refine D.pu (Pu.pickF (.tmp rfl) .bool) ?_
        refine D.pu (Pu.move (.tmp (v:=.bool _) rfl)) ?_
        refine D.gskip (W.f rfl rfl rfl) ?_
        refine D.gskip (W.f rfl rfl rfl) ?_
        refine D.pu (Pu.pickF (.tmp rfl) .bool) ?_
        refine D.pu (Pu.move (.tmp (v:=.bool _) rfl)) ?_
        refine D.gskip (W.f rfl rfl rfl) ?_
        refine D.gskip (W.f rfl rfl rfl) ?_
        refine D.pu (Pu.pickF (.tmp rfl) .bool) ?_
        refine D.pu (Pu.move (.tmp (v:=.bool _) rfl)) ?_
        refine D.gskip (W.f rfl rfl rfl) ?_
        refine D.gskip (W.f rfl rfl rfl) ?_
        refine D.pu (Pu.pickF (.tmp rfl) .bool) ?_
        refine D.pu (Pu.move (.tmp (v:=.bool _) rfl)) ?_
        refine D.gskip (W.f rfl rfl rfl) ?_
        refine D.gskip (W.f rfl rfl rfl) ?_
        refine D.pu (Pu.pickF (.tmp rfl) .bool) ?_
        refine D.pu (Pu.move (.tmp (v:=.bool _) rfl)) ?_
        refine D.gskip (W.f rfl rfl rfl) ?_
        refine D.gskip (W.f rfl rfl rfl) ?_
        refine D.pu (Pu.pickF (.tmp rfl) .bool) ?_
        refine D.pu (Pu.move (.tmp (v:=.bool _) rfl)) ?_
        refine D.gskip (W.f rfl rfl rfl) ?_
        refine D.gskip (W.f rfl rfl rfl) ?_
        refine D.gskip (W.f rfl rfl rfl) ?_
        refine D.gskip (W.f rfl rfl rfl) ?_
        refine D.gskip (W.f rfl rfl rfl) ?_
        refine D.gskip (W.f rfl rfl rfl) ?_
        refine D.pu (Pu.pickF (.tmp rfl) .bool) ?_
        refine D.pu (Pu.move (.tmp (v:=.bool _) rfl)) ?_
        refine D.gskip (W.f rfl rfl rfl) ?_
        refine D.gskip (W.f rfl rfl rfl) ?_
        refine D.gskip (W.f rfl rfl rfl) ?_
        refine D.gskip (W.f rfl rfl rfl) ?_
        refine D.gskip (W.f rfl rfl rfl) ?_
        refine D.gskip (W.f rfl rfl rfl) ?_
        refine D.pu (Pu.pickF (.tmp rfl) .bool) ?_
        refine D.pu (Pu.move (.tmp (v:=.bool _) rfl)) ?_
        refine D.gskip (W.f rfl rfl rfl) ?_
        refine D.gskip (W.f rfl rfl rfl) ?_
        refine D.gskip (W.f rfl rfl rfl) ?_
        refine D.gskip (W.f rfl rfl rfl) ?_
        refine D.gskip (W.f rfl rfl rfl) ?_
        refine D.gskip (W.f rfl rfl rfl) ?_
        refine D.pu (Pu.pickF (.tmp rfl) .bool) ?_
        refine D.pu (Pu.assign (.tmp (v:=.bool _) rfl)) ?_
        refine D.nil (by kernel_rfl) ?_
        refine X.ret ?_
        cases h
        exact E.fin [] (.tmp (v:=.bool _) rfl .nil) (.cons (.cl .bool) .nil)
    · rw [if_neg (bf c)] at h
      refine D.gskip (W.f rfl rfl rfl) ?_
      refine D.gskip (W.f rfl rfl rfl) ?_
      refine D.pu (Pu.pickF (.tmp rfl) .bool) ?_
      refine D.pu (Pu.move (.tmp (v:=.bool _) rfl)) ?_
      refine D.gskip (W.f rfl rfl rfl) ?_
      refine D.gskip (W.f rfl rfl rfl) ?_
      refine D.pu (Pu.pickF (.tmp rfl) .bool) ?_
      refine D.pu (Pu.move (.tmp (v:=.bool _) rfl)) ?_
      refine D.gskip (W.f rfl rfl rfl) ?_
      refine D.gskip (W.f rfl rfl rfl) ?_
      refine D.pu (Pu.pickF (.tmp rfl) .bool) ?_
      refine D.pu (Pu.move (.tmp (v:=.bool _) rfl)) ?_
      refine D.gskip (W.f rfl rfl rfl) ?_
      refine D.gskip (W.f rfl rfl rfl) ?_
      refine D.pu (Pu.pickF (.tmp rfl) .bool) ?_
      refine D.pu (Pu.move (.tmp (v:=.bool _) rfl)) ?_
      refine D.gskip (W.f rfl rfl rfl) ?_
      refine D.gskip (W.f rfl rfl rfl) ?_
      refine D.pu (Pu.pickF (.tmp rfl) .bool) ?_
      refine D.pu (Pu.move (.tmp (v:=.bool _) rfl)) ?_
      refine D.gskip (W.f rfl rfl rfl) ?_
      refine D.gskip (W.f rfl rfl rfl) ?_
      refine D.pu (Pu.pickF (.tmp rfl) .bool) ?_
      refine D.pu (Pu.move (.tmp (v:=.bool _) rfl)) ?_
      refine D.gskip (W.f rfl rfl rfl) ?_
      refine D.gskip (W.f rfl rfl rfl) ?_
      refine D.pu (Pu.pickF (.tmp rfl) .bool) ?_
      refine D.pu (Pu.move (.tmp (v:=.bool _) rfl)) ?_
      refine D.gskip (W.f rfl rfl rfl) ?_
      refine D.gskip (W.f rfl rfl rfl) ?_
      refine D.gskip (W.f rfl rfl rfl) ?_
      refine D.gskip (W.f rfl rfl rfl) ?_
      refine D.gskip (W.f rfl rfl rfl) ?_
      refine D.gskip (W.f rfl rfl rfl) ?_
      refine D.pu (Pu.pickF (.tmp rfl) .bool) ?_
      refine D.pu (Pu.move (.tmp (v:=.bool _) rfl)) ?_
      refine D.gskip (W.f rfl rfl rfl) ?_
      refine D.gskip (W.f rfl rfl rfl) ?_
      refine D.gskip (W.f rfl rfl rfl) ?_
      refine D.gskip (W.f rfl rfl rfl) ?_
      refine D.gskip (W.f rfl rfl rfl) ?_
      refine D.gskip (W.f rfl rfl rfl) ?_
      refine D.pu (Pu.pickF (.tmp rfl) .bool) ?_
      refine D.pu (Pu.move (.tmp (v:=.bool _) rfl)) ?_
      refine D.gskip (W.f rfl rfl rfl) ?_
      refine D.gskip (W.f rfl rfl rfl) ?_
      refine D.gskip (W.f rfl rfl rfl) ?_
      refine D.gskip (W.f rfl rfl rfl) ?_
      refine D.gskip (W.f rfl rfl rfl) ?_
      refine D.gskip (W.f rfl rfl rfl) ?_
      refine D.pu (Pu.pickF (.tmp rfl) .bool) ?_
      refine D.pu (Pu.assign (.tmp (v:=.bool _) rfl)) ?_
      refine D.nil (by kernel_rfl) ?_
      refine X.ret ?_
      cases h
      exact E.fin [] (.tmp (v:=.bool _) rfl .nil) (.cons (.cl .bool) .nil)
end Go.Proofs.Ytiikhhemgplocaa
end

section
namespace Go.AVL
open Go.RowKit Go.Proofs.YtiikhhemgplocaaW.PrintWords
set_option linter.unusedVariables false
section
variable {P : Program} {w : World} {m : Nat → Reg}
def allOf (w:World):Nat→Prop:=fun k=>k < w.heap.size
inductive VRs (w:World) (m:Nat→Reg):List AV→List Value→Prop
  | nil:VRs w m [] []
  | cons {v V vs Vs}:VR (allOf w) w noB m v V→V.oneCell'=true→VRs w m vs Vs→VRs w m (v :: vs) (V :: Vs)
theorem VRs.spec {vs:List AV} {Vs:List Value} (h:VRs w m vs Vs):vs.length=Vs.length∧(∀ u ∈ Vs,u.oneCell'=true)∧∀ i,i < vs.length→VR (allOf w) w noB m (vs.getD i .bad) (Vs.getD i undef):=by
  induction h with
  | nil=>exact ⟨rfl,fun u hu=>by simp at hu,fun i hi=>absurd hi (Nat.not_lt_zero i)⟩
  | cons hv h1 _ ih =>
    obtain ⟨i1,i2,i3⟩:=ih
    refine ⟨by simp [i1],fun u hu=>?_,fun i hi=>?_⟩
    · rcases List.mem_cons.1 hu with rfl|hu
      · exact h1
      · exact i2 u hu
    · cases i with
      | zero=>exact hv
      | succ i=>exact i3 i (by simpa using hi)
theorem VRs.agg {vs:List AV} {Vs:List Value} (h:VRs w m vs Vs):VR (allOf w) w noB m (.agg vs) (.agg Vs.toArray):=by
  obtain ⟨h1,h2,h3⟩:=h.spec
  refine .agg vs _ (by simpa using h1) (by simpa using h2) fun i hi=>?_
  have:=h3 i hi
  simpa [Array.getD_eq_getD_getElem?,List.getD_eq_getElem?_getD] using this
inductive VRa (w:World) (m:Nat→Reg):List AV→List Value→Prop
  | nil:VRa w m [] []
  | cons {v V vs Vs}:VR (allOf w) w noB m v V→VRa w m vs Vs→VRa w m (v :: vs) (V :: Vs)
theorem VRa.spec {vs:List AV} {Vs:List Value} (h:VRa w m vs Vs):vs.length=Vs.length∧∀ i,i < vs.length→VR (allOf w) w noB m (vs.getD i .bad) (Vs.getD i undef):=by
  induction h with
  | nil=>exact ⟨rfl,fun i hi=>absurd hi (Nat.not_lt_zero i)⟩
  | cons hv _ ih =>
    refine ⟨by simp [ih.1],fun i hi=>?_⟩
    cases i with
    | zero=>exact hv
    | succ i=>exact ih.2 i (by simpa using hi)
theorem calls_of_cs {f:FuncId} {fn:Func} {code:Code} (hf:FnOk P f fn code) {args:List AV} {Vs:List Value} {res:List AV} (h:CS P f args .no res) (hv:VRa w (fun _=>default) args Vs) :
    Calls P f Vs.toArray w fun e w'=>∃ v,e = .returned v∧Below w.heap.size w w'∧∃ I' m',VR I' w' noB m' (AV.mk res) v:=by
  obtain ⟨h1,h2⟩:=hv.spec
  have hc:=h (allOf w) none w (fun _=>default) Vs.toArray (fun _=>rfl) (WR.fresh _ w _ fun k hk=>hk) (by simpa using h1.symm) fun i hi=>by
    have:=h2 i hi
    show VR (allOf w) w noB (fun _=>default) _ _
    simpa [Array.getD_eq_getD_getElem?,List.getD_eq_getElem?_getD] using this
  have he:(callFunc f Vs.toArray).run P w = .ok (.enter f Vs.toArray) w:=by
    have hn:=hf.name
    simp only [beq_eq_false_iff_ne,ne_eq] at hn
    simp [callFunc,program,Sem.run,hf.eq,hn,hf.body]
  unfold CallW at hc
  rw [he] at hc
  refine Calls.mono hc fun e w' hr=>?_
  cases e with
  | returned v =>
    obtain ⟨I',m',hw,_,hvr⟩:=hr
    exact ⟨v,rfl,⟨hw.os,hw.tape,hw.output,hw.size,fun k hk=>hw.frame k hk (by simp)⟩,I',m',hvr⟩
  | _=>exact hr.elim
theorem calls_true {f:FuncId} {fn:Func} {code:Code} (hf:FnOk P f fn code) {args:List AV} {Vs:List Value} (h:CS P f args .no [.bool true]) (hv:VRa w (fun _=>default) args Vs) :
    Calls P f Vs.toArray w fun e w'=>e = .returned (.bool true)∧Below w.heap.size w w':=by
  refine (calls_of_cs hf h hv).mono ?_
  rintro e w' ⟨v,rfl,hb,I',m',hr⟩
  have hr:VR I' w' noB m' (.bool true) v:=hr
  rw [hr.bool_inv]
  exact ⟨rfl,hb⟩
end
end Go.AVL
end
