-- Joined of: G16 G25 G4
import Derived.Test.YtkoccekiojhidaaC415JG2
import Derived.Test.YtkoccekiojhidaaC415JG3
section
namespace Go.Proofs.Ytkoccekiojhidaa
open Go.AVL Go.RowKit Go.Proofs.Ytkoccekiojhidaa.F Go.Proofs.YtkoccekiojhidaaX Go.Proofs.YtkoccekiojhidaaW.PrintWords Go.Proofs.YtkoccekiojhidaaW.PrintLast Go.Proofs.YtkoccekiojhidaaW.PrintMore
set_option linter.unusedVariables false
set_option linter.unusedSimpArgs false
set_option maxRecDepth 100000
set_option maxHeartbeats 4000000
noncomputable def c16:Code:=Try.f16.body.getD .skip
theorem fn16:FnOk Try.prog 16 Try.f16 c16:=⟨Try.func16,rfl,by kernel_rfl,by kernel_rfl,mixed⟩
theorem frac_From.cs {l0_0:List Int} {a0_1:Bool} {r:List Int×Bool×List Int} (h:frac_From.f l0_0 a0_1=some r):CS Try.prog 16 [.agg [.fi .u64 l0_0, .bool a0_1]] .no [.agg [.fi .u64 r.1, .bool r.2.1, .fi .u64 r.2.2]]:=by
  unfold frac_From.f at h
  refine E.pure fn16 rfl ?_
  refine X.seq ?_
  refine X.still ?_
  refine O.puE (v':=.op 1 (1) 0 0) (b':=⟨1, .own,_,_⟩) (Pu.box (.tmp (v:=.agg _) rfl) rfl rfl) rfl rfl ?_
  refine O.puE (v':=.op 2 (1) 0 0) (b':=⟨1, .own,(.vals [.agg [.fi .u64 [], .bool false, .fi .u64 []]]),_⟩) Pu.alloc rfl rfl ?_
  refine O.nil ?_
  refine X.seq ?_
  refine X.still ?_
  refine O.pu (U.load (.tmp rfl) rfl rfl (U.whole rfl rfl)) ?_
  refine O.pu (Pu.build rfl (.cons (.tmp (v:=.agg _) rfl) rfl rfl rfl (.put (.put .done)) .nil)) ?_
  refine O.ef0 (U.storeE (.tmp rfl) rfl rfl (.tmp (v:=.agg _) rfl) rfl rfl (.whole (notBad_ne rfl) rfl) .one) ?_
  refine O.nil ?_
  refine X.ret ?_
  cases h
  exact E.fin [] (.cell rfl rfl (Mode.live_ne rfl) (U.whole rfl rfl) .nil) (.cons (.cl (.aggL (.cons .fi (.cons .bool (.cons .fi .nil))))) .nil)
noncomputable def c25:Code:=Try.f25.body.getD .skip
theorem fn25:FnOk Try.prog 25 Try.f25 c25:=⟨Try.func25,rfl,by kernel_rfl,by kernel_rfl,mixed⟩
theorem frac_Frac_Num.cs {l0_0:List Int} {a0_1:Bool} {l0_2:List Int} {r:List Int×Bool} (h:frac_Frac_Num.f l0_0 a0_1 l0_2=some r):CS Try.prog 25 [.agg [.fi .u64 l0_0, .bool a0_1, .fi .u64 l0_2]] .no [.agg [.fi .u64 r.1, .bool r.2]]:=by
  unfold frac_Frac_Num.f at h
  refine E.pure fn25 rfl ?_
  refine X.seq ?_
  refine X.still ?_
  refine O.puE (v':=.op 1 (1) 0 0) (b':=⟨1, .own,_,_⟩) (Pu.box (.tmp (v:=.agg _) rfl) rfl rfl) rfl rfl ?_
  refine O.puE (v':=.op 2 (1) 0 0) (b':=⟨1, .own,(.vals [.agg [.fi .u64 [], .bool false]]),_⟩) Pu.alloc rfl rfl ?_
  refine O.nil ?_
  refine X.seq ?_
  refine X.still ?_
  refine O.pu (U.fieldA rfl rfl rfl (.tmp rfl)) ?_
  refine O.pu (U.load (.tmp rfl) rfl rfl (U.sub rfl (.take (.take .done)))) ?_
  refine O.ef0 (U.storeE (.tmp rfl) rfl rfl (.tmp (v:=.agg _) rfl) rfl rfl (.whole (notBad_ne rfl) rfl) .one) ?_
  refine O.nil ?_
  refine X.ret ?_
  cases h
  exact E.fin [] (.cell rfl rfl (Mode.live_ne rfl) (U.whole rfl rfl) .nil) (.cons (.cl (.aggL (.cons .fi (.cons .bool .nil)))) .nil)
theorem chattellaw05_FracLowest.j0_e {k y0 y1 y2 y3 y4 y5 y6 y7 r}:(chattellaw05_FracLowest.j0 k y0 y1 y2 y3 y4 y5 y6 y7=some r) = ∃ j,k=j + 1∧chattellaw05_FracLowest.j0 (j + 1) y0 y1 y2 y3 y4 y5 y6 y7=some r:=propext ⟨fun h=>by cases k with|zero=>(unfold chattellaw05_FracLowest.j0 at h;cases h)|succ k=>exact ⟨k,rfl,h⟩,fun ⟨j,hj,h⟩=>by subst hj;exact h⟩
theorem chattellaw05_FracLowest.j1_e {k y0 y1 y2 y3 y4 y5 y6 y7 y8 y9 y10 y11 y12 y13 r}:(chattellaw05_FracLowest.j1 k y0 y1 y2 y3 y4 y5 y6 y7 y8 y9 y10 y11 y12 y13=some r) = ∃ j,k=j + 1∧chattellaw05_FracLowest.j1 (j + 1) y0 y1 y2 y3 y4 y5 y6 y7 y8 y9 y10 y11 y12 y13=some r:=propext ⟨fun h=>by cases k with|zero=>(unfold chattellaw05_FracLowest.j1 at h;cases h)|succ k=>exact ⟨k,rfl,h⟩,fun ⟨j,hj,h⟩=>by subst hj;exact h⟩
noncomputable def c4:Code:=Try.f4.body.getD .skip
theorem fn4:FnOk Try.prog 4 Try.f4 c4:=⟨Try.func4,rfl,by kernel_rfl,by kernel_rfl,mixed⟩
theorem chattellaw05_FracLowest.cs {k:Nat} {l0_0:List Int} {l0_1:List Int} {a0_2:Bool} {l1:List Int} {a2:Bool} {r:Bool} (h:chattellaw05_FracLowest.f k l0_0 l0_1 a0_2 l1 a2=some r):CS Try.prog 4 [.agg [.fi .u64 l0_0, .fi .u64 l0_1, .bool a0_2], .fi .u64 l1, .bool a2] .no [.bool r]:=by
  unfold chattellaw05_FracLowest.f at h
  refine E.pure fn4 rfl ?_
  refine X.seq ?_
  refine X.still ?_
  refine O.puE (v':=.op 3 (1) 0 0) (b':=⟨1, .own,_,_⟩) (Pu.box (.tmp (v:=.agg _) rfl) rfl rfl) rfl rfl ?_
  refine O.pu (Pu.assign .bool) ?_
  refine O.nil ?_
  refine X.seq ?_
  refine X.still ?_
  refine O.pu (U.load (.tmp rfl) rfl rfl (U.whole rfl rfl)) ?_
  obtain ⟨q1,Hq1,h⟩:=Option.bind_eq_some_iff.1 h
  refine O.pu (U.call (ss:=[]) (.cons (.tmp (v:=.agg _) rfl) .nil) (.cons (.cl (.aggL (.cons .fi (.cons .fi (.cons .bool .nil))))) .nil) (chattellaw05_num.cs Hq1) (.inl rfl) (.tupL (.cons (.aggL (.cons .fi (.cons .bool (.cons .fi .nil)))) (.cons (.aggL (.cons .fi (.cons .bool (.cons .fi .nil)))) .nil)))) ?_
  refine O.pu (Pu.move (.tmp (v:=.tup _) rfl)) ?_
  refine O.pu (Pu.extract (.tmp rfl) rfl) ?_
  refine O.pu (Pu.extract (.tmp rfl) rfl) ?_
  refine O.puE (v':=.op 7 (1) 0 0) (b':=⟨1, .own,(.vals [.agg [.fi .u64 [], .bool false, .fi .u64 []]]),_⟩) Pu.alloc rfl rfl ?_
  refine O.puE (v':=.op 8 (1) 0 0) (b':=⟨1, .own,(.vals [.agg [.fi .i64 [], .bool false, .fi .i64 []]]),_⟩) Pu.alloc rfl rfl ?_
  refine O.ef0 (U.storeE (.tmp rfl) rfl rfl (.tmp (v:=.agg _) rfl) rfl rfl (.whole (notBad_ne rfl) rfl) .one) ?_
  refine O.ef0 (U.storeE (.tmp rfl) rfl rfl (.tmp (v:=.agg _) rfl) rfl rfl (.whole (notBad_ne rfl) rfl) .one) ?_
  refine O.nil ?_
  refine X.seq ?_
  refine X.still ?_
  refine O.pu (Pu.move (.tmp (v:=.fi _ _) rfl)) ?_
  refine O.pu (Pu.move (.tmp (v:=.fi _ _) rfl)) ?_
  refine O.pu (Pu.lenI rfl (.tmp rfl)) ?_
  refine O.pu (U.mn (.tmp rfl) .int) ?_
  repeat (rw [giff] at h;obtain ⟨_,h⟩:=h)
  refine O.pu (U.sliceH rfl rfl (.tmp rfl) .no (.yes (.tmp rfl) (by omega)) .no (by omega) (by omega)) ?_
  obtain ⟨q2,Hq2,h⟩:=Option.bind_eq_some_iff.1 h
  refine O.pu (U.call (ss:=[]) (.cons (.tmp (v:=.fi _ _) rfl) .nil) (.cons (.cl .fi) .nil) (nat_Of.cs Hq2) (.inl rfl) (.aggL (.cons .fi .nil))) ?_
  refine O.pu (Pu.move (.tmp (v:=.bool _) rfl)) ?_
  obtain ⟨q3,Hq3,h⟩:=Option.bind_eq_some_iff.1 h
  refine O.pu (U.call (ss:=[]) (.cons (.tmp (v:=.agg _) rfl) (.cons (.tmp (v:=.bool _) rfl) .nil)) (.cons (.cl (.aggL (.cons .fi .nil))) (.cons (.cl .bool) .nil)) (whole_Of.cs Hq3) (.inl rfl) (.aggL (.cons .fi (.cons .bool .nil)))) ?_
  refine O.puE (v':=.op 9 (1) 0 0) (b':=⟨1, .own,(.vals [.agg [.fi .u64 [], .bool false]]),_⟩) Pu.alloc rfl rfl ?_
  refine O.ef0 (U.storeE (.tmp rfl) rfl rfl (.tmp (v:=.agg _) rfl) rfl rfl (.whole (notBad_ne rfl) rfl) .one) ?_
  refine O.nil ?_
  refine X.seq ?_
  refine X.seq ?_
  refine X.still ?_
  refine O.pu (U.load (.tmp rfl) rfl rfl (U.whole rfl rfl)) ?_
  obtain ⟨q4,Hq4,h⟩:=Option.bind_eq_some_iff.1 h
  refine O.pu (U.call (ss:=[]) (.cons (.tmp (v:=.agg _) rfl) .nil) (.cons (.cl (.aggL (.cons .fi (.cons .bool .nil)))) .nil) (whole_Int_Sign.cs Hq4) (.inl rfl) (.int)) ?_
  refine O.pu (Pu.bin (.tmp rfl) .int .eql) ?_
  refine O.nil ?_
  refine X.condE (.tmp rfl) (fun c=>?_) (fun c=>?_)
  · rw [if_pos c] at h
    refine X.still ?_
    obtain ⟨q5,Hq5,h⟩:=Option.bind_eq_some_iff.1 h
    refine O.pu (U.call (ss:=[]) (.cons .int .nil) (.cons (.cl .int) .nil) (whole_From.cs Hq5) (.inl rfl) (.aggL (.cons .fi (.cons .bool .nil)))) ?_
    refine O.ef0 (U.storeE (.tmp rfl) rfl rfl (.tmp (v:=.agg _) rfl) rfl rfl (.whole (notBad_ne rfl) rfl) .one) ?_
    refine O.nil ?_
    refine X.seq ?_
    refine X.drawn ?_
    refine D.pu (U.load (.tmp rfl) rfl rfl (U.whole rfl rfl)) ?_
    repeat (rw [chattellaw05_FracLowest.j0_e] at h;obtain ⟨k,_,h⟩:=h;unfold chattellaw05_FracLowest.j0 at h;try dsimp only at h)
    obtain ⟨q6,Hq6,h⟩:=Option.bind_eq_some_iff.1 h
    refine D.pu (U.call (ss:=[]) (.cons (.tmp (v:=.agg _) rfl) .nil) (.cons (.cl (.aggL (.cons .fi (.cons .bool (.cons .fi .nil))))) .nil) (frac_Frac_Num.cs Hq6) (.inl rfl) (.aggL (.cons .fi (.cons .bool .nil)))) ?_
    refine D.pu (U.load (.tmp rfl) rfl rfl (U.whole rfl rfl)) ?_
    obtain ⟨q7,Hq7,h⟩:=Option.bind_eq_some_iff.1 h
    refine D.pu (U.call (ss:=[]) (.cons (.tmp (v:=.agg _) rfl) (.cons (.tmp (v:=.agg _) rfl) .nil)) (.cons (.cl (.aggL (.cons .fi (.cons .bool .nil)))) (.cons (.cl (.aggL (.cons .fi (.cons .bool .nil)))) .nil)) (whole_Int_Mul.cs Hq7) (.inl rfl) (.aggL (.cons .fi (.cons .bool .nil)))) ?_
    refine D.pu (U.load (.tmp rfl) rfl rfl (U.whole rfl rfl)) ?_
    obtain ⟨q8,Hq8,h⟩:=Option.bind_eq_some_iff.1 h
    refine D.pu (U.call (ss:=[]) (.cons (.tmp (v:=.agg _) rfl) .nil) (.cons (.cl (.aggL (.cons .fi (.cons .bool (.cons .fi .nil))))) .nil) (frac_Frac_Den.cs Hq8) (.inl rfl) (.aggL (.cons .fi .nil))) ?_
    obtain ⟨q9,Hq9,h⟩:=Option.bind_eq_some_iff.1 h
    refine D.pu (U.call (ss:=[]) (.cons (.tmp (v:=.agg _) rfl) (.cons .bool .nil)) (.cons (.cl (.aggL (.cons .fi .nil))) (.cons (.cl .bool) .nil)) (whole_Of.cs Hq9) (.inl rfl) (.aggL (.cons .fi (.cons .bool .nil)))) ?_
    refine D.pu (U.load (.tmp rfl) rfl rfl (U.whole rfl rfl)) ?_
    obtain ⟨q10,Hq10,h⟩:=Option.bind_eq_some_iff.1 h
    refine D.pu (U.call (ss:=[]) (.cons (.tmp (v:=.agg _) rfl) (.cons (.tmp (v:=.agg _) rfl) .nil)) (.cons (.cl (.aggL (.cons .fi (.cons .bool .nil)))) (.cons (.cl (.aggL (.cons .fi (.cons .bool .nil)))) .nil)) (whole_Int_Mul.cs Hq10) (.inl rfl) (.aggL (.cons .fi (.cons .bool .nil)))) ?_
    obtain ⟨q11,Hq11,h⟩:=Option.bind_eq_some_iff.1 h
    refine D.pu (U.call (ss:=[]) (.cons (.tmp (v:=.agg _) rfl) (.cons (.tmp (v:=.agg _) rfl) .nil)) (.cons (.cl (.aggL (.cons .fi (.cons .bool .nil)))) (.cons (.cl (.aggL (.cons .fi (.cons .bool .nil)))) .nil)) (frac_Of.cs Hq11) (.inl rfl) (.tupL (.cons (.aggL (.cons .fi (.cons .bool (.cons .fi .nil)))) (.cons .int .nil)))) ?_
    refine D.pu (Pu.move (.tmp (v:=.tup _) rfl)) ?_
    refine D.pu (Pu.extract (.tmp rfl) rfl) ?_
    refine D.pu (Pu.extract (.tmp rfl) rfl) ?_
    refine D.puE (v':=.op 10 (1) 0 0) (b':=⟨1, .own,(.vals [.agg [.fi .u64 [], .bool false, .fi .u64 []]]),_⟩) Pu.alloc rfl rfl ?_
    refine D.ef0 (C.storeE (.tmp rfl) rfl rfl (.tmp (v:=.agg _) rfl) rfl rfl (.whole (notBad_ne rfl) rfl) .one) ?_
    refine D.pu (Pu.assign (.tmp (v:=.int _ _) rfl)) ?_
    refine D.nil (by kernel_rfl) ?_
    refine X.seq ?_
    refine X.drawn ?_
    refine D.pu (U.load (.tmp rfl) rfl rfl (U.whole rfl rfl)) ?_
    obtain ⟨q12,Hq12,h⟩:=Option.bind_eq_some_iff.1 h
    refine D.pu (U.call (ss:=[]) (.cons (.tmp (v:=.agg _) rfl) .nil) (.cons (.cl (.aggL (.cons .fi (.cons .bool (.cons .fi .nil))))) .nil) (frac_Frac_Num.cs Hq12) (.inl rfl) (.aggL (.cons .fi (.cons .bool .nil)))) ?_
    obtain ⟨q13,Hq13,h⟩:=Option.bind_eq_some_iff.1 h
    refine D.pu (U.call (ss:=[]) (.cons (.tmp (v:=.agg _) rfl) .nil) (.cons (.cl (.aggL (.cons .fi (.cons .bool .nil)))) .nil) (whole_Int_Abs.cs Hq13) (.inl rfl) (.aggL (.cons .fi .nil))) ?_
    refine D.pu (U.load (.tmp rfl) rfl rfl (U.whole rfl rfl)) ?_
    obtain ⟨q14,Hq14,h⟩:=Option.bind_eq_some_iff.1 h
    refine D.pu (U.call (ss:=[]) (.cons (.tmp (v:=.agg _) rfl) .nil) (.cons (.cl (.aggL (.cons .fi (.cons .bool (.cons .fi .nil))))) .nil) (frac_Frac_Den.cs Hq14) (.inl rfl) (.aggL (.cons .fi .nil))) ?_
    obtain ⟨q15,Hq15,h⟩:=Option.bind_eq_some_iff.1 h
    refine D.pu (U.call (ss:=[]) (.cons (.tmp (v:=.agg _) rfl) (.cons (.tmp (v:=.agg _) rfl) .nil)) (.cons (.cl (.aggL (.cons .fi .nil))) (.cons (.cl (.aggL (.cons .fi .nil))) .nil)) (quot_Gcd.cs Hq15) (.inl rfl) (.aggL (.cons .fi .nil))) ?_
    refine D.puE (v':=.op 12 (1) 0 0) (b':=⟨1, .own,(.vals [.agg [.fi .u64 []]]),_⟩) Pu.alloc rfl rfl ?_
    refine D.ef0 (C.storeE (.tmp rfl) rfl rfl (.tmp (v:=.agg _) rfl) rfl rfl (.whole (notBad_ne rfl) rfl) .one) ?_
    refine D.nil (by kernel_rfl) ?_
    refine X.seq ?_
    refine X.still ?_
    refine O.pu (U.load (.tmp rfl) rfl rfl (U.whole rfl rfl)) ?_
    obtain ⟨q16,Hq16,h⟩:=Option.bind_eq_some_iff.1 h
    refine O.pu (U.call (ss:=[]) (.cons (.tmp (v:=.agg _) rfl) .nil) (.cons (.cl (.aggL (.cons .fi (.cons .bool (.cons .fi .nil))))) .nil) (frac_Frac_Num.cs Hq16) (.inl rfl) (.aggL (.cons .fi (.cons .bool .nil)))) ?_
    obtain ⟨q17,Hq17,h⟩:=Option.bind_eq_some_iff.1 h
    refine O.pu (U.call (ss:=[]) (.cons (.tmp (v:=.agg _) rfl) .nil) (.cons (.cl (.aggL (.cons .fi (.cons .bool .nil)))) .nil) (whole_Int_Print.cs Hq17) (.inl rfl) (.str)) ?_
    refine O.pu (Pu.assign (.tmp (v:=.str _) rfl)) ?_
    refine O.nil ?_
    refine X.seq ?_
    refine X.seq ?_
    refine X.still ?_
    refine O.pu (U.load (.tmp rfl) rfl rfl (U.whole rfl rfl)) ?_
    obtain ⟨q18,Hq18,h⟩:=Option.bind_eq_some_iff.1 h
    refine O.pu (U.call (ss:=[]) (.cons (.tmp (v:=.agg _) rfl) .nil) (.cons (.cl (.aggL (.cons .fi (.cons .bool (.cons .fi .nil))))) .nil) (frac_Frac_Den.cs Hq18) (.inl rfl) (.aggL (.cons .fi .nil))) ?_
    refine O.puE (v':=.os 55 (1) 0 _ true) (b':=⟨1, .own,_,_⟩) (U.litI rfl rfl (.cons .int .nil) rfl rfl) rfl rfl ?_
    obtain ⟨q19,Hq19,h⟩:=Option.bind_eq_some_iff.1 h
    refine O.ef (U.callZ (ss:=[55]) (.cons (.tmp (v:=.os _ _ _ _ _) rfl) .nil) (.cons (.osIf (by simp) rfl (Mode.live_ne rfl) rfl (by first|rfl|(simp only [List.length_set];done)|(simp only [List.length_drop,List.length_take,List.length_append,List.length_set] at *;omega))) .nil) (nat_Of.cs Hq19) (.aggL (.cons .fi .nil)) (nowin rfl)) ?_
    obtain ⟨q20,Hq20,h⟩:=Option.bind_eq_some_iff.1 h
    refine O.pu (U.call (ss:=[]) (.cons (.tmp (v:=.agg _) rfl) (.cons (.tmp (v:=.agg _) rfl) .nil)) (.cons (.cl (.aggL (.cons .fi .nil))) (.cons (.cl (.aggL (.cons .fi .nil))) .nil)) (nat_Nat_Cmp.cs Hq20) (.inl rfl) (.int)) ?_
    refine O.pu (Pu.bin (.tmp rfl) .int .neq) ?_
    refine O.nil ?_
    refine X.condN (.tmp rfl) (fun c=>?_) (fun c=>?_)
    · rw [if_neg c] at h
      refine X.still ?_
      refine O.pu (Pu.move (.tmp (v:=.str _) rfl)) ?_
      refine O.pu (U.load (.tmp rfl) rfl rfl (U.whole rfl rfl)) ?_
      obtain ⟨q21,Hq21,h⟩:=Option.bind_eq_some_iff.1 h
      refine O.pu (U.call (ss:=[]) (.cons (.tmp (v:=.agg _) rfl) .nil) (.cons (.cl (.aggL (.cons .fi (.cons .bool (.cons .fi .nil))))) .nil) (frac_Frac_Den.cs Hq21) (.inl rfl) (.aggL (.cons .fi .nil))) ?_
      obtain ⟨q22,Hq22,h⟩:=Option.bind_eq_some_iff.1 h
      refine O.pu (U.call (ss:=[]) (.cons (.tmp (v:=.agg _) rfl) .nil) (.cons (.cl (.aggL (.cons .fi .nil))) .nil) (digits_Print.cs Hq22) (.inl rfl) (.str)) ?_
      repeat first|(rw [giff] at h;obtain ⟨_,h⟩:=h)|(rw [chattellaw05_FracLowest.j1_e] at h;obtain ⟨k,_,h⟩:=h;unfold chattellaw05_FracLowest.j1 at h;try dsimp only at h)
      refine O.pu (Pu.bin .str (.tmp rfl) (U.sadd (by first|assumption|omega))) ?_
      refine O.pu (Pu.bin (.tmp rfl) (.tmp rfl) (U.sadd (by first|assumption|omega))) ?_
      refine O.pu (Pu.assign (.tmp (v:=.str _) rfl)) ?_
      refine O.nil ?_
      refine X.seq ?_
      refine X.drawn ?_
      obtain ⟨q23,Hq23,h⟩:=Option.bind_eq_some_iff.1 h
      refine D.pu (U.call (ss:=[]) .nil .nil (chattellaw05_wakes.cs Hq23) (.inl rfl) (.bool)) ?_
      refine D.pu (Pu.move (.tmp (v:=.bool _) rfl)) ?_
      refine D.split (fun c=>?_) (fun c=>?_)
      · rw [if_pos c] at h
        refine D.gpu (W.t rfl rfl) (Pu.move (.tmp (v:=.int _ _) rfl)) ?_
        refine D.gpu (W.t rfl rfl) (Pu.bin (.tmp rfl) .int .eql) ?_
        refine D.pu (Pu.pickT (.tmp rfl) (.tmp (v:=.bool _) rfl)) ?_
        refine D.pu (Pu.move (.tmp (v:=.bool _) rfl)) ?_
        refine D.splitE (fun c=>?_) (fun c=>?_)
        · rw [if_pos c] at h
          refine D.gpu (W.t rfl rfl) (U.load (.tmp rfl) rfl rfl (U.whole rfl rfl)) ?_
          refine D.gpu (W.t rfl rfl) (U.load (.tmp rfl) rfl rfl (U.whole rfl rfl)) ?_
          obtain ⟨q24,Hq24,h⟩:=Option.bind_eq_some_iff.1 h
          refine D.gpu (W.t rfl rfl) (U.call (ss:=[]) (.cons (.tmp (v:=.agg _) rfl) (.cons (.tmp (v:=.agg _) rfl) .nil)) (.cons (.cl (.aggL (.cons .fi (.cons .bool (.cons .fi .nil))))) (.cons (.cl (.aggL (.cons .fi (.cons .bool (.cons .fi .nil))))) .nil)) (frac_Frac_Cmp.cs Hq24) (.inl rfl) (.int)) ?_
          refine D.gpu (W.t rfl rfl) (Pu.bin (.tmp rfl) .int .eql) ?_
          refine D.pu (Pu.pickT (.tmp rfl) (.tmp (v:=.bool _) rfl)) ?_
          refine D.pu (Pu.move (.tmp (v:=.bool _) rfl)) ?_
          refine D.splitE (fun c=>?_) (fun c=>?_)
          · rw [if_pos c] at h
            refine D.gpu (W.t rfl rfl) (U.load (.tmp rfl) rfl rfl (U.whole rfl rfl)) ?_
            obtain ⟨q25,Hq25,h⟩:=Option.bind_eq_some_iff.1 h
            refine D.gpu (W.t rfl rfl) (U.call (ss:=[]) (.cons (.tmp (v:=.agg _) rfl) .nil) (.cons (.cl (.aggL (.cons .fi (.cons .bool (.cons .fi .nil))))) .nil) (frac_Frac_Print.cs Hq25) (.inl rfl) (.str)) ?_
            refine D.gpu (W.t rfl rfl) (U.load (.tmp rfl) rfl rfl (U.whole rfl rfl)) ?_
            obtain ⟨q26,Hq26,h⟩:=Option.bind_eq_some_iff.1 h
            refine D.gpu (W.t rfl rfl) (U.call (ss:=[]) (.cons (.tmp (v:=.agg _) rfl) .nil) (.cons (.cl (.aggL (.cons .fi (.cons .bool (.cons .fi .nil))))) .nil) (frac_Frac_Print.cs Hq26) (.inl rfl) (.str)) ?_
            refine D.gpu (W.t rfl rfl) (Pu.bin (.tmp rfl) (.tmp rfl) .seql) ?_
            refine D.pu (Pu.pickT (.tmp rfl) (.tmp (v:=.bool _) rfl)) ?_
            refine D.pu (Pu.move (.tmp (v:=.bool _) rfl)) ?_
            refine D.splitS rfl (fun c=>?_) (fun c=>?_)
            · rw [if_pos c] at h
              refine D.gpu (W.t rfl rfl) (U.load (.tmp rfl) rfl rfl (U.whole rfl rfl)) ?_
              refine D.gpuE (v':=.os 85 (1) 0 _ true) (b':=⟨1, .own,_,_⟩) (W.t rfl rfl) (U.litI rfl rfl (.cons .int .nil) rfl rfl) rfl rfl ?_
              obtain ⟨q27,Hq27,h⟩:=Option.bind_eq_some_iff.1 h
              refine D.gef (W.t rfl rfl) (C.callZ (ss:=[85]) (.cons (.tmp (v:=.os _ _ _ _ _) rfl) .nil) (.cons (.osIf (by simp) rfl (Mode.live_ne rfl) rfl (by first|rfl|(simp only [List.length_set];done)|(simp only [List.length_drop,List.length_take,List.length_append,List.length_set] at *;omega))) .nil) (nat_Of.cs Hq27) (.aggL (.cons .fi .nil)) (nowin rfl)) ?_
              obtain ⟨q28,Hq28,h⟩:=Option.bind_eq_some_iff.1 h
              refine D.gpu (W.t rfl rfl) (U.call (ss:=[]) (.cons (.tmp (v:=.agg _) rfl) (.cons (.tmp (v:=.agg _) rfl) .nil)) (.cons (.cl (.aggL (.cons .fi .nil))) (.cons (.cl (.aggL (.cons .fi .nil))) .nil)) (nat_Nat_Cmp.cs Hq28) (.inl rfl) (.int)) ?_
              refine D.gpu (W.t rfl rfl) (Pu.bin (.tmp rfl) .int .eql) ?_
              refine D.pu (Pu.pickT (.tmp rfl) (.tmp (v:=.bool _) rfl)) ?_
              refine D.pu (Pu.move (.tmp (v:=.bool _) rfl)) ?_
              refine D.splitE (fun c=>?_) (fun c=>?_)
              · rw [if_pos c] at h
                refine D.gpu (W.t rfl rfl) (U.load (.tmp rfl) rfl rfl (U.whole rfl rfl)) ?_
                obtain ⟨q29,Hq29,h⟩:=Option.bind_eq_some_iff.1 h
                refine D.gpu (W.t rfl rfl) (U.call (ss:=[]) (.cons (.tmp (v:=.agg _) rfl) .nil) (.cons (.cl (.aggL (.cons .fi (.cons .bool (.cons .fi .nil))))) .nil) (frac_Frac_Print.cs Hq29) (.inl rfl) (.str)) ?_
                refine D.gpu (W.t rfl rfl) (Pu.move (.tmp (v:=.str _) rfl)) ?_
                refine D.gpu (W.t rfl rfl) (Pu.bin (.tmp rfl) (.tmp rfl) .seql) ?_
                refine D.pu (Pu.pickT (.tmp rfl) (.tmp (v:=.bool _) rfl)) ?_
                refine D.pu (Pu.move (.tmp (v:=.bool _) rfl)) ?_
                refine D.splitS rfl (fun c=>?_) (fun c=>?_)
                · rw [if_pos c] at h
                  refine D.gpu (W.t rfl rfl) (U.load (.tmp rfl) rfl rfl (U.whole rfl rfl)) ?_
                  obtain ⟨q30,Hq30,h⟩:=Option.bind_eq_some_iff.1 h
                  refine D.gpu (W.t rfl rfl) (U.call (ss:=[]) (.cons (.tmp (v:=.agg _) rfl) .nil) (.cons (.cl (.aggL (.cons .fi (.cons .bool (.cons .fi .nil))))) .nil) (frac_Frac_Print.cs Hq30) (.inl rfl) (.str)) ?_
                  refine D.gpu (W.t rfl rfl) (U.load (.tmp rfl) rfl rfl (U.whole rfl rfl)) ?_
                  obtain ⟨q31,Hq31,h⟩:=Option.bind_eq_some_iff.1 h
                  refine D.gpu (W.t rfl rfl) (U.call (ss:=[]) (.cons (.tmp (v:=.agg _) rfl) .nil) (.cons (.cl (.aggL (.cons .fi (.cons .bool (.cons .fi .nil))))) .nil) (chattelref05_Print.cs Hq31) (.inl rfl) (.str)) ?_
                  refine D.gpu (W.t rfl rfl) (Pu.bin (.tmp rfl) (.tmp rfl) .seql) ?_
                  refine D.pu (Pu.pickT (.tmp rfl) (.tmp (v:=.bool _) rfl)) ?_
                  refine D.pu (Pu.move (.tmp (v:=.bool _) rfl)) ?_
                  refine D.splitS rfl (fun c=>?_) (fun c=>?_)
                  · rw [if_pos c] at h
                    refine D.gpu (W.t rfl rfl) (U.load (.tmp rfl) rfl rfl (U.whole rfl rfl)) ?_
                    obtain ⟨q32,Hq32,h⟩:=Option.bind_eq_some_iff.1 h
                    refine D.gpu (W.t rfl rfl) (U.call (ss:=[]) (.cons (.tmp (v:=.agg _) rfl) .nil) (.cons (.cl (.aggL (.cons .fi (.cons .bool .nil)))) .nil) (frac_From.cs Hq32) (.inl rfl) (.aggL (.cons .fi (.cons .bool (.cons .fi .nil))))) ?_
                    obtain ⟨q33,Hq33,h⟩:=Option.bind_eq_some_iff.1 h
                    refine D.gpu (W.t rfl rfl) (U.call (ss:=[]) (.cons (.tmp (v:=.agg _) rfl) .nil) (.cons (.cl (.aggL (.cons .fi (.cons .bool (.cons .fi .nil))))) .nil) (frac_Frac_Print.cs Hq33) (.inl rfl) (.str)) ?_
                    refine D.gpu (W.t rfl rfl) (U.load (.tmp rfl) rfl rfl (U.whole rfl rfl)) ?_
                    obtain ⟨q34,Hq34,h⟩:=Option.bind_eq_some_iff.1 h
                    refine D.gpu (W.t rfl rfl) (U.call (ss:=[]) (.cons (.tmp (v:=.agg _) rfl) .nil) (.cons (.cl (.aggL (.cons .fi (.cons .bool .nil)))) .nil) (whole_Int_Print.cs Hq34) (.inl rfl) (.str)) ?_
                    refine D.gpu (W.t rfl rfl) (Pu.bin (.tmp rfl) (.tmp rfl) .seql) ?_
                    refine D.pu (Pu.pickT (.tmp rfl) (.tmp (v:=.bool _) rfl)) ?_
                    refine D.pu (Pu.move (.tmp (v:=.bool _) rfl)) ?_
                    refine D.splitS rfl (fun c=>?_) (fun c=>?_)
                    · rw [if_pos c] at h
                      refine D.gpu (W.t rfl rfl) (U.load (.tmp rfl) rfl rfl (U.whole rfl rfl)) ?_
                      obtain ⟨q35,Hq35,h⟩:=Option.bind_eq_some_iff.1 h
                      refine D.gpu (W.t rfl rfl) (U.call (ss:=[]) (.cons (.tmp (v:=.agg _) rfl) .nil) (.cons (.cl (.aggL (.cons .fi (.cons .bool (.cons .fi .nil))))) .nil) (frac_Frac_Sign.cs Hq35) (.inl rfl) (.int)) ?_
                      refine D.gpu (W.t rfl rfl) (U.load (.tmp rfl) rfl rfl (U.whole rfl rfl)) ?_
                      obtain ⟨q36,Hq36,h⟩:=Option.bind_eq_some_iff.1 h
                      refine D.gpu (W.t rfl rfl) (U.call (ss:=[]) (.cons (.tmp (v:=.agg _) rfl) .nil) (.cons (.cl (.aggL (.cons .fi (.cons .bool (.cons .fi .nil))))) .nil) (frac_Frac_Num.cs Hq36) (.inl rfl) (.aggL (.cons .fi (.cons .bool .nil)))) ?_
                      obtain ⟨q37,Hq37,h⟩:=Option.bind_eq_some_iff.1 h
                      refine D.gpu (W.t rfl rfl) (U.call (ss:=[]) (.cons (.tmp (v:=.agg _) rfl) .nil) (.cons (.cl (.aggL (.cons .fi (.cons .bool .nil)))) .nil) (whole_Int_Sign.cs Hq37) (.inl rfl) (.int)) ?_
                      refine D.gpu (W.t rfl rfl) (Pu.bin (.tmp rfl) (.tmp rfl) .eql) ?_
                      refine D.pu (Pu.pickT (.tmp rfl) (.tmp (v:=.bool _) rfl)) ?_
                      refine D.pu (Pu.assign (.tmp (v:=.bool _) rfl)) ?_
                      refine D.nil (by kernel_rfl) ?_
                      refine X.ret ?_
                      cases h
                      exact E.fin [] (.tmp (v:=.bool _) rfl .nil) (.cons (.cl .bool) .nil)
                    · rw [if_neg c] at h
                      refine D.gskip (W.f rfl rfl rfl) ?_
                      refine D.gskip (W.f rfl rfl rfl) ?_
                      refine D.gskip (W.f rfl rfl rfl) ?_
                      refine D.gskip (W.f rfl rfl rfl) ?_
                      refine D.gskip (W.f rfl rfl rfl) ?_
                      refine D.gskip (W.f rfl rfl rfl) ?_
                      refine D.pu (Pu.pickF (.tmp rfl) .bool) ?_
                      refine D.pu (Pu.assign (.tmp (v:=.bool _) rfl)) ?_
                      refine D.nil (by kernel_rfl) ?_
                      refine X.ret ?_
                      cases h
                      exact E.fin [] (.tmp (v:=.bool _) rfl .nil) (.cons (.cl .bool) .nil)
                  · rw [if_neg c] at h
                    refine D.gskip (W.f rfl rfl rfl) ?_
                    refine D.gskip (W.f rfl rfl rfl) ?_
                    refine D.gskip (W.f rfl rfl rfl) ?_
                    refine D.gskip (W.f rfl rfl rfl) ?_
                    refine D.gskip (W.f rfl rfl rfl) ?_
                    refine D.gskip (W.f rfl rfl rfl) ?_
                    refine D.pu (Pu.pickF (.tmp rfl) .bool) ?_
                    refine D.pu (Pu.move (.tmp (v:=.bool _) rfl)) ?_
                    refine D.gskip (W.f rfl rfl rfl) ?_
                    refine D.gskip (W.f rfl rfl rfl) ?_
                    refine D.gskip (W.f rfl rfl rfl) ?_
                    refine D.gskip (W.f rfl rfl rfl) ?_
                    refine D.gskip (W.f rfl rfl rfl) ?_
                    refine D.gskip (W.f rfl rfl rfl) ?_
                    refine D.pu (Pu.pickF (.tmp rfl) .bool) ?_
                    refine D.pu (Pu.assign (.tmp (v:=.bool _) rfl)) ?_
                    refine D.nil (by kernel_rfl) ?_
                    refine X.ret ?_
                    cases h
                    exact E.fin [] (.tmp (v:=.bool _) rfl .nil) (.cons (.cl .bool) .nil)
                · rw [if_neg c] at h
                  refine D.gskip (W.f rfl rfl rfl) ?_
                  refine D.gskip (W.f rfl rfl rfl) ?_
                  refine D.gskip (W.f rfl rfl rfl) ?_
                  refine D.gskip (W.f rfl rfl rfl) ?_
                  refine D.gskip (W.f rfl rfl rfl) ?_
                  refine D.pu (Pu.pickF (.tmp rfl) .bool) ?_
                  refine D.pu (Pu.move (.tmp (v:=.bool _) rfl)) ?_
                  refine D.gskip (W.f rfl rfl rfl) ?_
                  refine D.gskip (W.f rfl rfl rfl) ?_
                  refine D.gskip (W.f rfl rfl rfl) ?_
                  refine D.gskip (W.f rfl rfl rfl) ?_
                  refine D.gskip (W.f rfl rfl rfl) ?_
                  refine D.gskip (W.f rfl rfl rfl) ?_
                  refine D.pu (Pu.pickF (.tmp rfl) .bool) ?_
                  refine D.pu (Pu.move (.tmp (v:=.bool _) rfl)) ?_
                  refine D.gskip (W.f rfl rfl rfl) ?_
                  refine D.gskip (W.f rfl rfl rfl) ?_
                  refine D.gskip (W.f rfl rfl rfl) ?_
                  refine D.gskip (W.f rfl rfl rfl) ?_
                  refine D.gskip (W.f rfl rfl rfl) ?_
                  refine D.gskip (W.f rfl rfl rfl) ?_
                  refine D.pu (Pu.pickF (.tmp rfl) .bool) ?_
                  refine D.pu (Pu.assign (.tmp (v:=.bool _) rfl)) ?_
                  refine D.nil (by kernel_rfl) ?_
                  refine X.ret ?_
                  cases h
                  exact E.fin [] (.tmp (v:=.bool _) rfl .nil) (.cons (.cl .bool) .nil)
              · rw [if_neg c] at h
                refine D.gskip (W.f rfl rfl rfl) ?_
                refine D.gskip (W.f rfl rfl rfl) ?_
                refine D.gskip (W.f rfl rfl rfl) ?_
                refine D.gskip (W.f rfl rfl rfl) ?_
                refine D.pu (Pu.pickF (.tmp rfl) .bool) ?_
                refine D.pu (Pu.move (.tmp (v:=.bool _) rfl)) ?_
                refine D.gskip (W.f rfl rfl rfl) ?_
                refine D.gskip (W.f rfl rfl rfl) ?_
                refine D.gskip (W.f rfl rfl rfl) ?_
                refine D.gskip (W.f rfl rfl rfl) ?_
                refine D.gskip (W.f rfl rfl rfl) ?_
                refine D.pu (Pu.pickF (.tmp rfl) .bool) ?_
                refine D.pu (Pu.move (.tmp (v:=.bool _) rfl)) ?_
                refine D.gskip (W.f rfl rfl rfl) ?_
                refine D.gskip (W.f rfl rfl rfl) ?_
                refine D.gskip (W.f rfl rfl rfl) ?_
                refine D.gskip (W.f rfl rfl rfl) ?_
                refine D.gskip (W.f rfl rfl rfl) ?_
                refine D.gskip (W.f rfl rfl rfl) ?_
                refine D.pu (Pu.pickF (.tmp rfl) .bool) ?_
                refine D.pu (Pu.move (.tmp (v:=.bool _) rfl)) ?_
                refine D.gskip (W.f rfl rfl rfl) ?_
                refine D.gskip (W.f rfl rfl rfl) ?_
                refine D.gskip (W.f rfl rfl rfl) ?_
                refine D.gskip (W.f rfl rfl rfl) ?_
                refine D.gskip (W.f rfl rfl rfl) ?_
                refine D.gskip (W.f rfl rfl rfl) ?_
                refine D.pu (Pu.pickF (.tmp rfl) .bool) ?_
                refine D.pu (Pu.assign (.tmp (v:=.bool _) rfl)) ?_
                refine D.nil (by kernel_rfl) ?_
                refine X.ret ?_
                cases h
                exact E.fin [] (.tmp (v:=.bool _) rfl .nil) (.cons (.cl .bool) .nil)
            · rw [if_neg c] at h
              refine D.gskip (W.f rfl rfl rfl) ?_
              refine D.gskip (W.f rfl rfl rfl) ?_
              refine D.gskip (W.f rfl rfl rfl) ?_
              refine D.gskip (W.f rfl rfl rfl) ?_
              refine D.gskip (W.f rfl rfl rfl) ?_
              refine D.pu (Pu.pickF (.tmp rfl) .bool) ?_
              refine D.pu (Pu.move (.tmp (v:=.bool _) rfl)) ?_
              refine D.gskip (W.f rfl rfl rfl) ?_
              refine D.gskip (W.f rfl rfl rfl) ?_
              refine D.gskip (W.f rfl rfl rfl) ?_
              refine D.gskip (W.f rfl rfl rfl) ?_
              refine D.pu (Pu.pickF (.tmp rfl) .bool) ?_
              refine D.pu (Pu.move (.tmp (v:=.bool _) rfl)) ?_
              refine D.gskip (W.f rfl rfl rfl) ?_
              refine D.gskip (W.f rfl rfl rfl) ?_
              refine D.gskip (W.f rfl rfl rfl) ?_
              refine D.gskip (W.f rfl rfl rfl) ?_
              refine D.gskip (W.f rfl rfl rfl) ?_
              refine D.pu (Pu.pickF (.tmp rfl) .bool) ?_
              refine D.pu (Pu.move (.tmp (v:=.bool _) rfl)) ?_
              refine D.gskip (W.f rfl rfl rfl) ?_
              refine D.gskip (W.f rfl rfl rfl) ?_
              refine D.gskip (W.f rfl rfl rfl) ?_
              refine D.gskip (W.f rfl rfl rfl) ?_
              refine D.gskip (W.f rfl rfl rfl) ?_
              refine D.gskip (W.f rfl rfl rfl) ?_
              refine D.pu (Pu.pickF (.tmp rfl) .bool) ?_
              refine D.pu (Pu.move (.tmp (v:=.bool _) rfl)) ?_
              refine D.gskip (W.f rfl rfl rfl) ?_
              refine D.gskip (W.f rfl rfl rfl) ?_
              refine D.gskip (W.f rfl rfl rfl) ?_
              refine D.gskip (W.f rfl rfl rfl) ?_
              refine D.gskip (W.f rfl rfl rfl) ?_
              refine D.gskip (W.f rfl rfl rfl) ?_
              refine D.pu (Pu.pickF (.tmp rfl) .bool) ?_
              refine D.pu (Pu.assign (.tmp (v:=.bool _) rfl)) ?_
              refine D.nil (by kernel_rfl) ?_
              refine X.ret ?_
              cases h
              exact E.fin [] (.tmp (v:=.bool _) rfl .nil) (.cons (.cl .bool) .nil)
          · rw [if_neg c] at h
            refine D.gskip (W.f rfl rfl rfl) ?_
            refine D.gskip (W.f rfl rfl rfl) ?_
            refine D.gskip (W.f rfl rfl rfl) ?_
            refine D.gskip (W.f rfl rfl rfl) ?_
            refine D.gskip (W.f rfl rfl rfl) ?_
            refine D.pu (Pu.pickF (.tmp rfl) .bool) ?_
            refine D.pu (Pu.move (.tmp (v:=.bool _) rfl)) ?_
            refine D.gskip (W.f rfl rfl rfl) ?_
            refine D.gskip (W.f rfl rfl rfl) ?_
            refine D.gskip (W.f rfl rfl rfl) ?_
            refine D.gskip (W.f rfl rfl rfl) ?_
            refine D.gskip (W.f rfl rfl rfl) ?_
            refine D.pu (Pu.pickF (.tmp rfl) .bool) ?_
            refine D.pu (Pu.move (.tmp (v:=.bool _) rfl)) ?_
            refine D.gskip (W.f rfl rfl rfl) ?_
            refine D.gskip (W.f rfl rfl rfl) ?_
            refine D.gskip (W.f rfl rfl rfl) ?_
            refine D.gskip (W.f rfl rfl rfl) ?_
            refine D.pu (Pu.pickF (.tmp rfl) .bool) ?_
            refine D.pu (Pu.move (.tmp (v:=.bool _) rfl)) ?_
            refine D.gskip (W.f rfl rfl rfl) ?_
            refine D.gskip (W.f rfl rfl rfl) ?_
            refine D.gskip (W.f rfl rfl rfl) ?_
            refine D.gskip (W.f rfl rfl rfl) ?_
            refine D.gskip (W.f rfl rfl rfl) ?_
            refine D.pu (Pu.pickF (.tmp rfl) .bool) ?_
            refine D.pu (Pu.move (.tmp (v:=.bool _) rfl)) ?_
            refine D.gskip (W.f rfl rfl rfl) ?_
            refine D.gskip (W.f rfl rfl rfl) ?_
            refine D.gskip (W.f rfl rfl rfl) ?_
            refine D.gskip (W.f rfl rfl rfl) ?_
            refine D.gskip (W.f rfl rfl rfl) ?_
            refine D.gskip (W.f rfl rfl rfl) ?_
            refine D.pu (Pu.pickF (.tmp rfl) .bool) ?_
            refine D.pu (Pu.move (.tmp (v:=.bool _) rfl)) ?_
            refine D.gskip (W.f rfl rfl rfl) ?_
            refine D.gskip (W.f rfl rfl rfl) ?_
            refine D.gskip (W.f rfl rfl rfl) ?_
            refine D.gskip (W.f rfl rfl rfl) ?_
            refine D.gskip (W.f rfl rfl rfl) ?_
            refine D.gskip (W.f rfl rfl rfl) ?_
            refine D.pu (Pu.pickF (.tmp rfl) .bool) ?_
            refine D.pu (Pu.assign (.tmp (v:=.bool _) rfl)) ?_
            refine D.nil (by kernel_rfl) ?_
            refine X.ret ?_
            cases h
            exact E.fin [] (.tmp (v:=.bool _) rfl .nil) (.cons (.cl .bool) .nil)
        · rw [if_neg c] at h
          refine D.gskip (W.f rfl rfl rfl) ?_
          refine D.gskip (W.f rfl rfl rfl) ?_
          refine D.gskip (W.f rfl rfl rfl) ?_
          refine D.gskip (W.f rfl rfl rfl) ?_
          refine D.pu (Pu.pickF (.tmp rfl) .bool) ?_
          refine D.pu (Pu.move (.tmp (v:=.bool _) rfl)) ?_
          refine D.gskip (W.f rfl rfl rfl) ?_
          refine D.gskip (W.f rfl rfl rfl) ?_
          refine D.gskip (W.f rfl rfl rfl) ?_
          refine D.gskip (W.f rfl rfl rfl) ?_
          refine D.gskip (W.f rfl rfl rfl) ?_
          refine D.pu (Pu.pickF (.tmp rfl) .bool) ?_
          refine D.pu (Pu.move (.tmp (v:=.bool _) rfl)) ?_
          refine D.gskip (W.f rfl rfl rfl) ?_
          refine D.gskip (W.f rfl rfl rfl) ?_
          refine D.gskip (W.f rfl rfl rfl) ?_
          refine D.gskip (W.f rfl rfl rfl) ?_
          refine D.gskip (W.f rfl rfl rfl) ?_
          refine D.pu (Pu.pickF (.tmp rfl) .bool) ?_
          refine D.pu (Pu.move (.tmp (v:=.bool _) rfl)) ?_
          refine D.gskip (W.f rfl rfl rfl) ?_
          refine D.gskip (W.f rfl rfl rfl) ?_
          refine D.gskip (W.f rfl rfl rfl) ?_
          refine D.gskip (W.f rfl rfl rfl) ?_
          refine D.pu (Pu.pickF (.tmp rfl) .bool) ?_
          refine D.pu (Pu.move (.tmp (v:=.bool _) rfl)) ?_
          refine D.gskip (W.f rfl rfl rfl) ?_
          refine D.gskip (W.f rfl rfl rfl) ?_
          refine D.gskip (W.f rfl rfl rfl) ?_
          refine D.gskip (W.f rfl rfl rfl) ?_
          refine D.gskip (W.f rfl rfl rfl) ?_
          refine D.pu (Pu.pickF (.tmp rfl) .bool) ?_
          refine D.pu (Pu.move (.tmp (v:=.bool _) rfl)) ?_
          refine D.gskip (W.f rfl rfl rfl) ?_
          refine D.gskip (W.f rfl rfl rfl) ?_
          refine D.gskip (W.f rfl rfl rfl) ?_
          refine D.gskip (W.f rfl rfl rfl) ?_
          refine D.gskip (W.f rfl rfl rfl) ?_
          refine D.gskip (W.f rfl rfl rfl) ?_
          refine D.pu (Pu.pickF (.tmp rfl) .bool) ?_
          refine D.pu (Pu.move (.tmp (v:=.bool _) rfl)) ?_
          refine D.gskip (W.f rfl rfl rfl) ?_
          refine D.gskip (W.f rfl rfl rfl) ?_
          refine D.gskip (W.f rfl rfl rfl) ?_
          refine D.gskip (W.f rfl rfl rfl) ?_
          refine D.gskip (W.f rfl rfl rfl) ?_
          refine D.gskip (W.f rfl rfl rfl) ?_
          refine D.pu (Pu.pickF (.tmp rfl) .bool) ?_
          refine D.pu (Pu.assign (.tmp (v:=.bool _) rfl)) ?_
          refine D.nil (by kernel_rfl) ?_
          refine X.ret ?_
          cases h
          exact E.fin [] (.tmp (v:=.bool _) rfl .nil) (.cons (.cl .bool) .nil)
      · rw [if_neg (bf c)] at h
        refine D.gskip (W.f rfl rfl rfl) ?_
        refine D.gskip (W.f rfl rfl rfl) ?_
        refine D.pu (Pu.pickF (.tmp rfl) .bool) ?_
        refine D.pu (Pu.move (.tmp (v:=.bool _) rfl)) ?_
        refine D.gskip (W.f rfl rfl rfl) ?_
        refine D.gskip (W.f rfl rfl rfl) ?_
        refine D.gskip (W.f rfl rfl rfl) ?_
        refine D.gskip (W.f rfl rfl rfl) ?_
        refine D.pu (Pu.pickF (.tmp rfl) .bool) ?_
        refine D.pu (Pu.move (.tmp (v:=.bool _) rfl)) ?_
        refine D.gskip (W.f rfl rfl rfl) ?_
        refine D.gskip (W.f rfl rfl rfl) ?_
        refine D.gskip (W.f rfl rfl rfl) ?_
        refine D.gskip (W.f rfl rfl rfl) ?_
        refine D.gskip (W.f rfl rfl rfl) ?_
        refine D.pu (Pu.pickF (.tmp rfl) .bool) ?_
        refine D.pu (Pu.move (.tmp (v:=.bool _) rfl)) ?_
        refine D.gskip (W.f rfl rfl rfl) ?_
        refine D.gskip (W.f rfl rfl rfl) ?_
        refine D.gskip (W.f rfl rfl rfl) ?_
        refine D.gskip (W.f rfl rfl rfl) ?_
        refine D.gskip (W.f rfl rfl rfl) ?_
        refine D.pu (Pu.pickF (.tmp rfl) .bool) ?_
        refine D.pu (Pu.move (.tmp (v:=.bool _) rfl)) ?_
        refine D.gskip (W.f rfl rfl rfl) ?_
        refine D.gskip (W.f rfl rfl rfl) ?_
        refine D.gskip (W.f rfl rfl rfl) ?_
        refine D.gskip (W.f rfl rfl rfl) ?_
        refine D.pu (Pu.pickF (.tmp rfl) .bool) ?_
        refine D.pu (Pu.move (.tmp (v:=.bool _) rfl)) ?_
        refine D.gskip (W.f rfl rfl rfl) ?_
        refine D.gskip (W.f rfl rfl rfl) ?_
        refine D.gskip (W.f rfl rfl rfl) ?_
        refine D.gskip (W.f rfl rfl rfl) ?_
        refine D.gskip (W.f rfl rfl rfl) ?_
        refine D.pu (Pu.pickF (.tmp rfl) .bool) ?_
        refine D.pu (Pu.move (.tmp (v:=.bool _) rfl)) ?_
        refine D.gskip (W.f rfl rfl rfl) ?_
        refine D.gskip (W.f rfl rfl rfl) ?_
        refine D.gskip (W.f rfl rfl rfl) ?_
        refine D.gskip (W.f rfl rfl rfl) ?_
        refine D.gskip (W.f rfl rfl rfl) ?_
        refine D.gskip (W.f rfl rfl rfl) ?_
        refine D.pu (Pu.pickF (.tmp rfl) .bool) ?_
        refine D.pu (Pu.move (.tmp (v:=.bool _) rfl)) ?_
        refine D.gskip (W.f rfl rfl rfl) ?_
        refine D.gskip (W.f rfl rfl rfl) ?_
        refine D.gskip (W.f rfl rfl rfl) ?_
        refine D.gskip (W.f rfl rfl rfl) ?_
        refine D.gskip (W.f rfl rfl rfl) ?_
        refine D.gskip (W.f rfl rfl rfl) ?_
        refine D.pu (Pu.pickF (.tmp rfl) .bool) ?_
        refine D.pu (Pu.assign (.tmp (v:=.bool _) rfl)) ?_
        refine D.nil (by kernel_rfl) ?_
        refine X.ret ?_
        cases h
        exact E.fin [] (.tmp (v:=.bool _) rfl .nil) (.cons (.cl .bool) .nil)
    · rw [if_pos c] at h
      refine X.skip ?_
      refine X.seq ?_
      refine X.drawn ?_
      repeat (rw [chattellaw05_FracLowest.j1_e] at h;obtain ⟨k,_,h⟩:=h;unfold chattellaw05_FracLowest.j1 at h;try dsimp only at h)
      obtain ⟨q38,Hq38,h⟩:=Option.bind_eq_some_iff.1 h
      refine D.pu (U.call (ss:=[]) .nil .nil (chattellaw05_wakes.cs Hq38) (.inl rfl) (.bool)) ?_
      refine D.pu (Pu.move (.tmp (v:=.bool _) rfl)) ?_
      refine D.split (fun c=>?_) (fun c=>?_)
      · rw [if_pos c] at h
        refine D.gpu (W.t rfl rfl) (Pu.move (.tmp (v:=.int _ _) rfl)) ?_
        refine D.gpu (W.t rfl rfl) (Pu.bin (.tmp rfl) .int .eql) ?_
        refine D.pu (Pu.pickT (.tmp rfl) (.tmp (v:=.bool _) rfl)) ?_
        refine D.pu (Pu.move (.tmp (v:=.bool _) rfl)) ?_
        refine D.splitE (fun c=>?_) (fun c=>?_)
        · rw [if_pos c] at h
          refine D.gpu (W.t rfl rfl) (U.load (.tmp rfl) rfl rfl (U.whole rfl rfl)) ?_
          refine D.gpu (W.t rfl rfl) (U.load (.tmp rfl) rfl rfl (U.whole rfl rfl)) ?_
          obtain ⟨q39,Hq39,h⟩:=Option.bind_eq_some_iff.1 h
          refine D.gpu (W.t rfl rfl) (U.call (ss:=[]) (.cons (.tmp (v:=.agg _) rfl) (.cons (.tmp (v:=.agg _) rfl) .nil)) (.cons (.cl (.aggL (.cons .fi (.cons .bool (.cons .fi .nil))))) (.cons (.cl (.aggL (.cons .fi (.cons .bool (.cons .fi .nil))))) .nil)) (frac_Frac_Cmp.cs Hq39) (.inl rfl) (.int)) ?_
          refine D.gpu (W.t rfl rfl) (Pu.bin (.tmp rfl) .int .eql) ?_
          refine D.pu (Pu.pickT (.tmp rfl) (.tmp (v:=.bool _) rfl)) ?_
          refine D.pu (Pu.move (.tmp (v:=.bool _) rfl)) ?_
          refine D.splitE (fun c=>?_) (fun c=>?_)
          · rw [if_pos c] at h
            refine D.gpu (W.t rfl rfl) (U.load (.tmp rfl) rfl rfl (U.whole rfl rfl)) ?_
            obtain ⟨q40,Hq40,h⟩:=Option.bind_eq_some_iff.1 h
            refine D.gpu (W.t rfl rfl) (U.call (ss:=[]) (.cons (.tmp (v:=.agg _) rfl) .nil) (.cons (.cl (.aggL (.cons .fi (.cons .bool (.cons .fi .nil))))) .nil) (frac_Frac_Print.cs Hq40) (.inl rfl) (.str)) ?_
            refine D.gpu (W.t rfl rfl) (U.load (.tmp rfl) rfl rfl (U.whole rfl rfl)) ?_
            obtain ⟨q41,Hq41,h⟩:=Option.bind_eq_some_iff.1 h
            refine D.gpu (W.t rfl rfl) (U.call (ss:=[]) (.cons (.tmp (v:=.agg _) rfl) .nil) (.cons (.cl (.aggL (.cons .fi (.cons .bool (.cons .fi .nil))))) .nil) (frac_Frac_Print.cs Hq41) (.inl rfl) (.str)) ?_
            refine D.gpu (W.t rfl rfl) (Pu.bin (.tmp rfl) (.tmp rfl) .seql) ?_
            refine D.pu (Pu.pickT (.tmp rfl) (.tmp (v:=.bool _) rfl)) ?_
            refine D.pu (Pu.move (.tmp (v:=.bool _) rfl)) ?_
            refine D.splitS rfl (fun c=>?_) (fun c=>?_)
            · rw [if_pos c] at h
              refine D.gpu (W.t rfl rfl) (U.load (.tmp rfl) rfl rfl (U.whole rfl rfl)) ?_
              refine D.gpuE (v':=.os 85 (1) 0 _ true) (b':=⟨1, .own,_,_⟩) (W.t rfl rfl) (U.litI rfl rfl (.cons .int .nil) rfl rfl) rfl rfl ?_
              obtain ⟨q42,Hq42,h⟩:=Option.bind_eq_some_iff.1 h
              refine D.gef (W.t rfl rfl) (C.callZ (ss:=[85]) (.cons (.tmp (v:=.os _ _ _ _ _) rfl) .nil) (.cons (.osIf (by simp) rfl (Mode.live_ne rfl) rfl (by first|rfl|(simp only [List.length_set];done)|(simp only [List.length_drop,List.length_take,List.length_append,List.length_set] at *;omega))) .nil) (nat_Of.cs Hq42) (.aggL (.cons .fi .nil)) (nowin rfl)) ?_
              obtain ⟨q43,Hq43,h⟩:=Option.bind_eq_some_iff.1 h
              refine D.gpu (W.t rfl rfl) (U.call (ss:=[]) (.cons (.tmp (v:=.agg _) rfl) (.cons (.tmp (v:=.agg _) rfl) .nil)) (.cons (.cl (.aggL (.cons .fi .nil))) (.cons (.cl (.aggL (.cons .fi .nil))) .nil)) (nat_Nat_Cmp.cs Hq43) (.inl rfl) (.int)) ?_
              refine D.gpu (W.t rfl rfl) (Pu.bin (.tmp rfl) .int .eql) ?_
              refine D.pu (Pu.pickT (.tmp rfl) (.tmp (v:=.bool _) rfl)) ?_
              refine D.pu (Pu.move (.tmp (v:=.bool _) rfl)) ?_
              refine D.splitE (fun c=>?_) (fun c=>?_)
              · rw [if_pos c] at h
                refine D.gpu (W.t rfl rfl) (U.load (.tmp rfl) rfl rfl (U.whole rfl rfl)) ?_
                obtain ⟨q44,Hq44,h⟩:=Option.bind_eq_some_iff.1 h
                refine D.gpu (W.t rfl rfl) (U.call (ss:=[]) (.cons (.tmp (v:=.agg _) rfl) .nil) (.cons (.cl (.aggL (.cons .fi (.cons .bool (.cons .fi .nil))))) .nil) (frac_Frac_Print.cs Hq44) (.inl rfl) (.str)) ?_
                refine D.gpu (W.t rfl rfl) (Pu.move (.tmp (v:=.str _) rfl)) ?_
                refine D.gpu (W.t rfl rfl) (Pu.bin (.tmp rfl) (.tmp rfl) .seql) ?_
                refine D.pu (Pu.pickT (.tmp rfl) (.tmp (v:=.bool _) rfl)) ?_
                refine D.pu (Pu.move (.tmp (v:=.bool _) rfl)) ?_
                refine D.splitS rfl (fun c=>?_) (fun c=>?_)
                · rw [if_pos c] at h
                  refine D.gpu (W.t rfl rfl) (U.load (.tmp rfl) rfl rfl (U.whole rfl rfl)) ?_
                  obtain ⟨q45,Hq45,h⟩:=Option.bind_eq_some_iff.1 h
                  refine D.gpu (W.t rfl rfl) (U.call (ss:=[]) (.cons (.tmp (v:=.agg _) rfl) .nil) (.cons (.cl (.aggL (.cons .fi (.cons .bool (.cons .fi .nil))))) .nil) (frac_Frac_Print.cs Hq45) (.inl rfl) (.str)) ?_
                  refine D.gpu (W.t rfl rfl) (U.load (.tmp rfl) rfl rfl (U.whole rfl rfl)) ?_
                  obtain ⟨q46,Hq46,h⟩:=Option.bind_eq_some_iff.1 h
                  refine D.gpu (W.t rfl rfl) (U.call (ss:=[]) (.cons (.tmp (v:=.agg _) rfl) .nil) (.cons (.cl (.aggL (.cons .fi (.cons .bool (.cons .fi .nil))))) .nil) (chattelref05_Print.cs Hq46) (.inl rfl) (.str)) ?_
                  refine D.gpu (W.t rfl rfl) (Pu.bin (.tmp rfl) (.tmp rfl) .seql) ?_
                  refine D.pu (Pu.pickT (.tmp rfl) (.tmp (v:=.bool _) rfl)) ?_
                  refine D.pu (Pu.move (.tmp (v:=.bool _) rfl)) ?_
                  refine D.splitS rfl (fun c=>?_) (fun c=>?_)
                  · rw [if_pos c] at h
                    refine D.gpu (W.t rfl rfl) (U.load (.tmp rfl) rfl rfl (U.whole rfl rfl)) ?_
                    obtain ⟨q47,Hq47,h⟩:=Option.bind_eq_some_iff.1 h
                    refine D.gpu (W.t rfl rfl) (U.call (ss:=[]) (.cons (.tmp (v:=.agg _) rfl) .nil) (.cons (.cl (.aggL (.cons .fi (.cons .bool .nil)))) .nil) (frac_From.cs Hq47) (.inl rfl) (.aggL (.cons .fi (.cons .bool (.cons .fi .nil))))) ?_
                    obtain ⟨q48,Hq48,h⟩:=Option.bind_eq_some_iff.1 h
                    refine D.gpu (W.t rfl rfl) (U.call (ss:=[]) (.cons (.tmp (v:=.agg _) rfl) .nil) (.cons (.cl (.aggL (.cons .fi (.cons .bool (.cons .fi .nil))))) .nil) (frac_Frac_Print.cs Hq48) (.inl rfl) (.str)) ?_
                    refine D.gpu (W.t rfl rfl) (U.load (.tmp rfl) rfl rfl (U.whole rfl rfl)) ?_
                    obtain ⟨q49,Hq49,h⟩:=Option.bind_eq_some_iff.1 h
                    refine D.gpu (W.t rfl rfl) (U.call (ss:=[]) (.cons (.tmp (v:=.agg _) rfl) .nil) (.cons (.cl (.aggL (.cons .fi (.cons .bool .nil)))) .nil) (whole_Int_Print.cs Hq49) (.inl rfl) (.str)) ?_
                    refine D.gpu (W.t rfl rfl) (Pu.bin (.tmp rfl) (.tmp rfl) .seql) ?_
                    refine D.pu (Pu.pickT (.tmp rfl) (.tmp (v:=.bool _) rfl)) ?_
                    refine D.pu (Pu.move (.tmp (v:=.bool _) rfl)) ?_
                    refine D.splitS rfl (fun c=>?_) (fun c=>?_)
                    · rw [if_pos c] at h
                      refine D.gpu (W.t rfl rfl) (U.load (.tmp rfl) rfl rfl (U.whole rfl rfl)) ?_
                      obtain ⟨q50,Hq50,h⟩:=Option.bind_eq_some_iff.1 h
                      refine D.gpu (W.t rfl rfl) (U.call (ss:=[]) (.cons (.tmp (v:=.agg _) rfl) .nil) (.cons (.cl (.aggL (.cons .fi (.cons .bool (.cons .fi .nil))))) .nil) (frac_Frac_Sign.cs Hq50) (.inl rfl) (.int)) ?_
                      refine D.gpu (W.t rfl rfl) (U.load (.tmp rfl) rfl rfl (U.whole rfl rfl)) ?_
                      obtain ⟨q51,Hq51,h⟩:=Option.bind_eq_some_iff.1 h
                      refine D.gpu (W.t rfl rfl) (U.call (ss:=[]) (.cons (.tmp (v:=.agg _) rfl) .nil) (.cons (.cl (.aggL (.cons .fi (.cons .bool (.cons .fi .nil))))) .nil) (frac_Frac_Num.cs Hq51) (.inl rfl) (.aggL (.cons .fi (.cons .bool .nil)))) ?_
                      obtain ⟨q52,Hq52,h⟩:=Option.bind_eq_some_iff.1 h
                      refine D.gpu (W.t rfl rfl) (U.call (ss:=[]) (.cons (.tmp (v:=.agg _) rfl) .nil) (.cons (.cl (.aggL (.cons .fi (.cons .bool .nil)))) .nil) (whole_Int_Sign.cs Hq52) (.inl rfl) (.int)) ?_
                      refine D.gpu (W.t rfl rfl) (Pu.bin (.tmp rfl) (.tmp rfl) .eql) ?_
                      refine D.pu (Pu.pickT (.tmp rfl) (.tmp (v:=.bool _) rfl)) ?_
                      refine D.pu (Pu.assign (.tmp (v:=.bool _) rfl)) ?_
                      refine D.nil (by kernel_rfl) ?_
                      refine X.ret ?_
                      cases h
                      exact E.fin [] (.tmp (v:=.bool _) rfl .nil) (.cons (.cl .bool) .nil)
                    · rw [if_neg c] at h
                      refine D.gskip (W.f rfl rfl rfl) ?_
                      refine D.gskip (W.f rfl rfl rfl) ?_
                      refine D.gskip (W.f rfl rfl rfl) ?_
                      refine D.gskip (W.f rfl rfl rfl) ?_
                      refine D.gskip (W.f rfl rfl rfl) ?_
                      refine D.gskip (W.f rfl rfl rfl) ?_
                      refine D.pu (Pu.pickF (.tmp rfl) .bool) ?_
                      refine D.pu (Pu.assign (.tmp (v:=.bool _) rfl)) ?_
                      refine D.nil (by kernel_rfl) ?_
                      refine X.ret ?_
                      cases h
                      exact E.fin [] (.tmp (v:=.bool _) rfl .nil) (.cons (.cl .bool) .nil)
                  · rw [if_neg c] at h
                    refine D.gskip (W.f rfl rfl rfl) ?_
                    refine D.gskip (W.f rfl rfl rfl) ?_
                    refine D.gskip (W.f rfl rfl rfl) ?_
                    refine D.gskip (W.f rfl rfl rfl) ?_
                    refine D.gskip (W.f rfl rfl rfl) ?_
                    refine D.gskip (W.f rfl rfl rfl) ?_
                    refine D.pu (Pu.pickF (.tmp rfl) .bool) ?_
                    refine D.pu (Pu.move (.tmp (v:=.bool _) rfl)) ?_
                    refine D.gskip (W.f rfl rfl rfl) ?_
                    refine D.gskip (W.f rfl rfl rfl) ?_
                    refine D.gskip (W.f rfl rfl rfl) ?_
                    refine D.gskip (W.f rfl rfl rfl) ?_
                    refine D.gskip (W.f rfl rfl rfl) ?_
                    refine D.gskip (W.f rfl rfl rfl) ?_
                    refine D.pu (Pu.pickF (.tmp rfl) .bool) ?_
                    refine D.pu (Pu.assign (.tmp (v:=.bool _) rfl)) ?_
                    refine D.nil (by kernel_rfl) ?_
                    refine X.ret ?_
                    cases h
                    exact E.fin [] (.tmp (v:=.bool _) rfl .nil) (.cons (.cl .bool) .nil)
                · rw [if_neg c] at h
                  refine D.gskip (W.f rfl rfl rfl) ?_
                  refine D.gskip (W.f rfl rfl rfl) ?_
                  refine D.gskip (W.f rfl rfl rfl) ?_
                  refine D.gskip (W.f rfl rfl rfl) ?_
                  refine D.gskip (W.f rfl rfl rfl) ?_
                  refine D.pu (Pu.pickF (.tmp rfl) .bool) ?_
                  refine D.pu (Pu.move (.tmp (v:=.bool _) rfl)) ?_
                  refine D.gskip (W.f rfl rfl rfl) ?_
                  refine D.gskip (W.f rfl rfl rfl) ?_
                  refine D.gskip (W.f rfl rfl rfl) ?_
                  refine D.gskip (W.f rfl rfl rfl) ?_
                  refine D.gskip (W.f rfl rfl rfl) ?_
                  refine D.gskip (W.f rfl rfl rfl) ?_
                  refine D.pu (Pu.pickF (.tmp rfl) .bool) ?_
                  refine D.pu (Pu.move (.tmp (v:=.bool _) rfl)) ?_
                  refine D.gskip (W.f rfl rfl rfl) ?_
                  refine D.gskip (W.f rfl rfl rfl) ?_
                  refine D.gskip (W.f rfl rfl rfl) ?_
                  refine D.gskip (W.f rfl rfl rfl) ?_
                  refine D.gskip (W.f rfl rfl rfl) ?_
                  refine D.gskip (W.f rfl rfl rfl) ?_
                  refine D.pu (Pu.pickF (.tmp rfl) .bool) ?_
                  refine D.pu (Pu.assign (.tmp (v:=.bool _) rfl)) ?_
                  refine D.nil (by kernel_rfl) ?_
                  refine X.ret ?_
                  cases h
                  exact E.fin [] (.tmp (v:=.bool _) rfl .nil) (.cons (.cl .bool) .nil)
              · rw [if_neg c] at h
                refine D.gskip (W.f rfl rfl rfl) ?_
                refine D.gskip (W.f rfl rfl rfl) ?_
                refine D.gskip (W.f rfl rfl rfl) ?_
                refine D.gskip (W.f rfl rfl rfl) ?_
                refine D.pu (Pu.pickF (.tmp rfl) .bool) ?_
                refine D.pu (Pu.move (.tmp (v:=.bool _) rfl)) ?_
                refine D.gskip (W.f rfl rfl rfl) ?_
                refine D.gskip (W.f rfl rfl rfl) ?_
                refine D.gskip (W.f rfl rfl rfl) ?_
                refine D.gskip (W.f rfl rfl rfl) ?_
                refine D.gskip (W.f rfl rfl rfl) ?_
                refine D.pu (Pu.pickF (.tmp rfl) .bool) ?_
                refine D.pu (Pu.move (.tmp (v:=.bool _) rfl)) ?_
                refine D.gskip (W.f rfl rfl rfl) ?_
                refine D.gskip (W.f rfl rfl rfl) ?_
                refine D.gskip (W.f rfl rfl rfl) ?_
                refine D.gskip (W.f rfl rfl rfl) ?_
                refine D.gskip (W.f rfl rfl rfl) ?_
                refine D.gskip (W.f rfl rfl rfl) ?_
                refine D.pu (Pu.pickF (.tmp rfl) .bool) ?_
                refine D.pu (Pu.move (.tmp (v:=.bool _) rfl)) ?_
                refine D.gskip (W.f rfl rfl rfl) ?_
                refine D.gskip (W.f rfl rfl rfl) ?_
                refine D.gskip (W.f rfl rfl rfl) ?_
                refine D.gskip (W.f rfl rfl rfl) ?_
                refine D.gskip (W.f rfl rfl rfl) ?_
                refine D.gskip (W.f rfl rfl rfl) ?_
                refine D.pu (Pu.pickF (.tmp rfl) .bool) ?_
                refine D.pu (Pu.assign (.tmp (v:=.bool _) rfl)) ?_
                refine D.nil (by kernel_rfl) ?_
                refine X.ret ?_
                cases h
                exact E.fin [] (.tmp (v:=.bool _) rfl .nil) (.cons (.cl .bool) .nil)
            · rw [if_neg c] at h
              refine D.gskip (W.f rfl rfl rfl) ?_
              refine D.gskip (W.f rfl rfl rfl) ?_
              refine D.gskip (W.f rfl rfl rfl) ?_
              refine D.gskip (W.f rfl rfl rfl) ?_
              refine D.gskip (W.f rfl rfl rfl) ?_
              refine D.pu (Pu.pickF (.tmp rfl) .bool) ?_
              refine D.pu (Pu.move (.tmp (v:=.bool _) rfl)) ?_
              refine D.gskip (W.f rfl rfl rfl) ?_
              refine D.gskip (W.f rfl rfl rfl) ?_
              refine D.gskip (W.f rfl rfl rfl) ?_
              refine D.gskip (W.f rfl rfl rfl) ?_
              refine D.pu (Pu.pickF (.tmp rfl) .bool) ?_
              refine D.pu (Pu.move (.tmp (v:=.bool _) rfl)) ?_
              refine D.gskip (W.f rfl rfl rfl) ?_
              refine D.gskip (W.f rfl rfl rfl) ?_
              refine D.gskip (W.f rfl rfl rfl) ?_
              refine D.gskip (W.f rfl rfl rfl) ?_
              refine D.gskip (W.f rfl rfl rfl) ?_
              refine D.pu (Pu.pickF (.tmp rfl) .bool) ?_
              refine D.pu (Pu.move (.tmp (v:=.bool _) rfl)) ?_
              refine D.gskip (W.f rfl rfl rfl) ?_
              refine D.gskip (W.f rfl rfl rfl) ?_
              refine D.gskip (W.f rfl rfl rfl) ?_
              refine D.gskip (W.f rfl rfl rfl) ?_
              refine D.gskip (W.f rfl rfl rfl) ?_
              refine D.gskip (W.f rfl rfl rfl) ?_
              refine D.pu (Pu.pickF (.tmp rfl) .bool) ?_
              refine D.pu (Pu.move (.tmp (v:=.bool _) rfl)) ?_
              refine D.gskip (W.f rfl rfl rfl) ?_
              refine D.gskip (W.f rfl rfl rfl) ?_
              refine D.gskip (W.f rfl rfl rfl) ?_
              refine D.gskip (W.f rfl rfl rfl) ?_
              refine D.gskip (W.f rfl rfl rfl) ?_
              refine D.gskip (W.f rfl rfl rfl) ?_
              refine D.pu (Pu.pickF (.tmp rfl) .bool) ?_
              refine D.pu (Pu.assign (.tmp (v:=.bool _) rfl)) ?_
              refine D.nil (by kernel_rfl) ?_
              refine X.ret ?_
              cases h
              exact E.fin [] (.tmp (v:=.bool _) rfl .nil) (.cons (.cl .bool) .nil)
          · rw [if_neg c] at h
            refine D.gskip (W.f rfl rfl rfl) ?_
            refine D.gskip (W.f rfl rfl rfl) ?_
            refine D.gskip (W.f rfl rfl rfl) ?_
            refine D.gskip (W.f rfl rfl rfl) ?_
            refine D.gskip (W.f rfl rfl rfl) ?_
            refine D.pu (Pu.pickF (.tmp rfl) .bool) ?_
            refine D.pu (Pu.move (.tmp (v:=.bool _) rfl)) ?_
            refine D.gskip (W.f rfl rfl rfl) ?_
            refine D.gskip (W.f rfl rfl rfl) ?_
            refine D.gskip (W.f rfl rfl rfl) ?_
            refine D.gskip (W.f rfl rfl rfl) ?_
            refine D.gskip (W.f rfl rfl rfl) ?_
            refine D.pu (Pu.pickF (.tmp rfl) .bool) ?_
            refine D.pu (Pu.move (.tmp (v:=.bool _) rfl)) ?_
            refine D.gskip (W.f rfl rfl rfl) ?_
            refine D.gskip (W.f rfl rfl rfl) ?_
            refine D.gskip (W.f rfl rfl rfl) ?_
            refine D.gskip (W.f rfl rfl rfl) ?_
            refine D.pu (Pu.pickF (.tmp rfl) .bool) ?_
            refine D.pu (Pu.move (.tmp (v:=.bool _) rfl)) ?_
            refine D.gskip (W.f rfl rfl rfl) ?_
            refine D.gskip (W.f rfl rfl rfl) ?_
            refine D.gskip (W.f rfl rfl rfl) ?_
            refine D.gskip (W.f rfl rfl rfl) ?_
            refine D.gskip (W.f rfl rfl rfl) ?_
            refine D.pu (Pu.pickF (.tmp rfl) .bool) ?_
            refine D.pu (Pu.move (.tmp (v:=.bool _) rfl)) ?_
            refine D.gskip (W.f rfl rfl rfl) ?_
            refine D.gskip (W.f rfl rfl rfl) ?_
            refine D.gskip (W.f rfl rfl rfl) ?_
            refine D.gskip (W.f rfl rfl rfl) ?_
            refine D.gskip (W.f rfl rfl rfl) ?_
            refine D.gskip (W.f rfl rfl rfl) ?_
            refine D.pu (Pu.pickF (.tmp rfl) .bool) ?_
            refine D.pu (Pu.move (.tmp (v:=.bool _) rfl)) ?_
            refine D.gskip (W.f rfl rfl rfl) ?_
            refine D.gskip (W.f rfl rfl rfl) ?_
            refine D.gskip (W.f rfl rfl rfl) ?_
            refine D.gskip (W.f rfl rfl rfl) ?_
            refine D.gskip (W.f rfl rfl rfl) ?_
            refine D.gskip (W.f rfl rfl rfl) ?_
            refine D.pu (Pu.pickF (.tmp rfl) .bool) ?_
            refine D.pu (Pu.assign (.tmp (v:=.bool _) rfl)) ?_
            refine D.nil (by kernel_rfl) ?_
            refine X.ret ?_
            cases h
            exact E.fin [] (.tmp (v:=.bool _) rfl .nil) (.cons (.cl .bool) .nil)
        · rw [if_neg c] at h
          refine D.gskip (W.f rfl rfl rfl) ?_
          refine D.gskip (W.f rfl rfl rfl) ?_
          refine D.gskip (W.f rfl rfl rfl) ?_
          refine D.gskip (W.f rfl rfl rfl) ?_
          refine D.pu (Pu.pickF (.tmp rfl) .bool) ?_
          refine D.pu (Pu.move (.tmp (v:=.bool _) rfl)) ?_
          refine D.gskip (W.f rfl rfl rfl) ?_
          refine D.gskip (W.f rfl rfl rfl) ?_
          refine D.gskip (W.f rfl rfl rfl) ?_
          refine D.gskip (W.f rfl rfl rfl) ?_
          refine D.gskip (W.f rfl rfl rfl) ?_
          refine D.pu (Pu.pickF (.tmp rfl) .bool) ?_
          refine D.pu (Pu.move (.tmp (v:=.bool _) rfl)) ?_
          refine D.gskip (W.f rfl rfl rfl) ?_
          refine D.gskip (W.f rfl rfl rfl) ?_
          refine D.gskip (W.f rfl rfl rfl) ?_
          refine D.gskip (W.f rfl rfl rfl) ?_
          refine D.gskip (W.f rfl rfl rfl) ?_
          refine D.pu (Pu.pickF (.tmp rfl) .bool) ?_
          refine D.pu (Pu.move (.tmp (v:=.bool _) rfl)) ?_
          refine D.gskip (W.f rfl rfl rfl) ?_
          refine D.gskip (W.f rfl rfl rfl) ?_
          refine D.gskip (W.f rfl rfl rfl) ?_
          refine D.gskip (W.f rfl rfl rfl) ?_
          refine D.pu (Pu.pickF (.tmp rfl) .bool) ?_
          refine D.pu (Pu.move (.tmp (v:=.bool _) rfl)) ?_
          refine D.gskip (W.f rfl rfl rfl) ?_
          refine D.gskip (W.f rfl rfl rfl) ?_
          refine D.gskip (W.f rfl rfl rfl) ?_
          refine D.gskip (W.f rfl rfl rfl) ?_
          refine D.gskip (W.f rfl rfl rfl) ?_
          refine D.pu (Pu.pickF (.tmp rfl) .bool) ?_
          refine D.pu (Pu.move (.tmp (v:=.bool _) rfl)) ?_
          refine D.gskip (W.f rfl rfl rfl) ?_
          refine D.gskip (W.f rfl rfl rfl) ?_
          refine D.gskip (W.f rfl rfl rfl) ?_
          refine D.gskip (W.f rfl rfl rfl) ?_
          refine D.gskip (W.f rfl rfl rfl) ?_
          refine D.gskip (W.f rfl rfl rfl) ?_
          refine D.pu (Pu.pickF (.tmp rfl) .bool) ?_
          refine D.pu (Pu.move (.tmp (v:=.bool _) rfl)) ?_
          refine D.gskip (W.f rfl rfl rfl) ?_
          refine D.gskip (W.f rfl rfl rfl) ?_
          refine D.gskip (W.f rfl rfl rfl) ?_
          refine D.gskip (W.f rfl rfl rfl) ?_
          refine D.gskip (W.f rfl rfl rfl) ?_
          refine D.gskip (W.f rfl rfl rfl) ?_
          refine D.pu (Pu.pickF (.tmp rfl) .bool) ?_
          refine D.pu (Pu.assign (.tmp (v:=.bool _) rfl)) ?_
          refine D.nil (by kernel_rfl) ?_
          refine X.ret ?_
          cases h
          exact E.fin [] (.tmp (v:=.bool _) rfl .nil) (.cons (.cl .bool) .nil)
      · rw [if_neg (bf c)] at h
        refine D.gskip (W.f rfl rfl rfl) ?_
        refine D.gskip (W.f rfl rfl rfl) ?_
        refine D.pu (Pu.pickF (.tmp rfl) .bool) ?_
        refine D.pu (Pu.move (.tmp (v:=.bool _) rfl)) ?_
        refine D.gskip (W.f rfl rfl rfl) ?_
        refine D.gskip (W.f rfl rfl rfl) ?_
        refine D.gskip (W.f rfl rfl rfl) ?_
        refine D.gskip (W.f rfl rfl rfl) ?_
        refine D.pu (Pu.pickF (.tmp rfl) .bool) ?_
        refine D.pu (Pu.move (.tmp (v:=.bool _) rfl)) ?_
        refine D.gskip (W.f rfl rfl rfl) ?_
        refine D.gskip (W.f rfl rfl rfl) ?_
        refine D.gskip (W.f rfl rfl rfl) ?_
        refine D.gskip (W.f rfl rfl rfl) ?_
        refine D.gskip (W.f rfl rfl rfl) ?_
        refine D.pu (Pu.pickF (.tmp rfl) .bool) ?_
        refine D.pu (Pu.move (.tmp (v:=.bool _) rfl)) ?_
        refine D.gskip (W.f rfl rfl rfl) ?_
        refine D.gskip (W.f rfl rfl rfl) ?_
        refine D.gskip (W.f rfl rfl rfl) ?_
        refine D.gskip (W.f rfl rfl rfl) ?_
        refine D.gskip (W.f rfl rfl rfl) ?_
        refine D.pu (Pu.pickF (.tmp rfl) .bool) ?_
        refine D.pu (Pu.move (.tmp (v:=.bool _) rfl)) ?_
        refine D.gskip (W.f rfl rfl rfl) ?_
        refine D.gskip (W.f rfl rfl rfl) ?_
        refine D.gskip (W.f rfl rfl rfl) ?_
        refine D.gskip (W.f rfl rfl rfl) ?_
        refine D.pu (Pu.pickF (.tmp rfl) .bool) ?_
        refine D.pu (Pu.move (.tmp (v:=.bool _) rfl)) ?_
        refine D.gskip (W.f rfl rfl rfl) ?_
        refine D.gskip (W.f rfl rfl rfl) ?_
        refine D.gskip (W.f rfl rfl rfl) ?_
        refine D.gskip (W.f rfl rfl rfl) ?_
        refine D.gskip (W.f rfl rfl rfl) ?_
        refine D.pu (Pu.pickF (.tmp rfl) .bool) ?_
        refine D.pu (Pu.move (.tmp (v:=.bool _) rfl)) ?_
        refine D.gskip (W.f rfl rfl rfl) ?_
        refine D.gskip (W.f rfl rfl rfl) ?_
        refine D.gskip (W.f rfl rfl rfl) ?_
        refine D.gskip (W.f rfl rfl rfl) ?_
        refine D.gskip (W.f rfl rfl rfl) ?_
        refine D.gskip (W.f rfl rfl rfl) ?_
        refine D.pu (Pu.pickF (.tmp rfl) .bool) ?_
        refine D.pu (Pu.move (.tmp (v:=.bool _) rfl)) ?_
        refine D.gskip (W.f rfl rfl rfl) ?_
        refine D.gskip (W.f rfl rfl rfl) ?_
        refine D.gskip (W.f rfl rfl rfl) ?_
        refine D.gskip (W.f rfl rfl rfl) ?_
        refine D.gskip (W.f rfl rfl rfl) ?_
        refine D.gskip (W.f rfl rfl rfl) ?_
        refine D.pu (Pu.pickF (.tmp rfl) .bool) ?_
        refine D.pu (Pu.assign (.tmp (v:=.bool _) rfl)) ?_
        refine D.nil (by kernel_rfl) ?_
        refine X.ret ?_
        cases h
        exact E.fin [] (.tmp (v:=.bool _) rfl .nil) (.cons (.cl .bool) .nil)
  · rw [if_neg c] at h
    refine X.skip ?_
    refine X.seq ?_
    refine X.drawn ?_
    refine D.pu (U.load (.tmp rfl) rfl rfl (U.whole rfl rfl)) ?_
    repeat (rw [chattellaw05_FracLowest.j0_e] at h;obtain ⟨k,_,h⟩:=h;unfold chattellaw05_FracLowest.j0 at h;try dsimp only at h)
    obtain ⟨q53,Hq53,h⟩:=Option.bind_eq_some_iff.1 h
    refine D.pu (U.call (ss:=[]) (.cons (.tmp (v:=.agg _) rfl) .nil) (.cons (.cl (.aggL (.cons .fi (.cons .bool (.cons .fi .nil))))) .nil) (frac_Frac_Num.cs Hq53) (.inl rfl) (.aggL (.cons .fi (.cons .bool .nil)))) ?_
    refine D.pu (U.load (.tmp rfl) rfl rfl (U.whole rfl rfl)) ?_
    obtain ⟨q54,Hq54,h⟩:=Option.bind_eq_some_iff.1 h
    refine D.pu (U.call (ss:=[]) (.cons (.tmp (v:=.agg _) rfl) (.cons (.tmp (v:=.agg _) rfl) .nil)) (.cons (.cl (.aggL (.cons .fi (.cons .bool .nil)))) (.cons (.cl (.aggL (.cons .fi (.cons .bool .nil)))) .nil)) (whole_Int_Mul.cs Hq54) (.inl rfl) (.aggL (.cons .fi (.cons .bool .nil)))) ?_
    refine D.pu (U.load (.tmp rfl) rfl rfl (U.whole rfl rfl)) ?_
    obtain ⟨q55,Hq55,h⟩:=Option.bind_eq_some_iff.1 h
    refine D.pu (U.call (ss:=[]) (.cons (.tmp (v:=.agg _) rfl) .nil) (.cons (.cl (.aggL (.cons .fi (.cons .bool (.cons .fi .nil))))) .nil) (frac_Frac_Den.cs Hq55) (.inl rfl) (.aggL (.cons .fi .nil))) ?_
    obtain ⟨q56,Hq56,h⟩:=Option.bind_eq_some_iff.1 h
    refine D.pu (U.call (ss:=[]) (.cons (.tmp (v:=.agg _) rfl) (.cons .bool .nil)) (.cons (.cl (.aggL (.cons .fi .nil))) (.cons (.cl .bool) .nil)) (whole_Of.cs Hq56) (.inl rfl) (.aggL (.cons .fi (.cons .bool .nil)))) ?_
    refine D.pu (U.load (.tmp rfl) rfl rfl (U.whole rfl rfl)) ?_
    obtain ⟨q57,Hq57,h⟩:=Option.bind_eq_some_iff.1 h
    refine D.pu (U.call (ss:=[]) (.cons (.tmp (v:=.agg _) rfl) (.cons (.tmp (v:=.agg _) rfl) .nil)) (.cons (.cl (.aggL (.cons .fi (.cons .bool .nil)))) (.cons (.cl (.aggL (.cons .fi (.cons .bool .nil)))) .nil)) (whole_Int_Mul.cs Hq57) (.inl rfl) (.aggL (.cons .fi (.cons .bool .nil)))) ?_
    obtain ⟨q58,Hq58,h⟩:=Option.bind_eq_some_iff.1 h
    refine D.pu (U.call (ss:=[]) (.cons (.tmp (v:=.agg _) rfl) (.cons (.tmp (v:=.agg _) rfl) .nil)) (.cons (.cl (.aggL (.cons .fi (.cons .bool .nil)))) (.cons (.cl (.aggL (.cons .fi (.cons .bool .nil)))) .nil)) (frac_Of.cs Hq58) (.inl rfl) (.tupL (.cons (.aggL (.cons .fi (.cons .bool (.cons .fi .nil)))) (.cons .int .nil)))) ?_
    refine D.pu (Pu.move (.tmp (v:=.tup _) rfl)) ?_
    refine D.pu (Pu.extract (.tmp rfl) rfl) ?_
    refine D.pu (Pu.extract (.tmp rfl) rfl) ?_
    refine D.puE (v':=.op 10 (1) 0 0) (b':=⟨1, .own,(.vals [.agg [.fi .u64 [], .bool false, .fi .u64 []]]),_⟩) Pu.alloc rfl rfl ?_
    refine D.ef0 (C.storeE (.tmp rfl) rfl rfl (.tmp (v:=.agg _) rfl) rfl rfl (.whole (notBad_ne rfl) rfl) .one) ?_
    refine D.pu (Pu.assign (.tmp (v:=.int _ _) rfl)) ?_
    refine D.nil (by kernel_rfl) ?_
    refine X.seq ?_
    refine X.drawn ?_
    refine D.pu (U.load (.tmp rfl) rfl rfl (U.whole rfl rfl)) ?_
    obtain ⟨q59,Hq59,h⟩:=Option.bind_eq_some_iff.1 h
    refine D.pu (U.call (ss:=[]) (.cons (.tmp (v:=.agg _) rfl) .nil) (.cons (.cl (.aggL (.cons .fi (.cons .bool (.cons .fi .nil))))) .nil) (frac_Frac_Num.cs Hq59) (.inl rfl) (.aggL (.cons .fi (.cons .bool .nil)))) ?_
    obtain ⟨q60,Hq60,h⟩:=Option.bind_eq_some_iff.1 h
    refine D.pu (U.call (ss:=[]) (.cons (.tmp (v:=.agg _) rfl) .nil) (.cons (.cl (.aggL (.cons .fi (.cons .bool .nil)))) .nil) (whole_Int_Abs.cs Hq60) (.inl rfl) (.aggL (.cons .fi .nil))) ?_
    refine D.pu (U.load (.tmp rfl) rfl rfl (U.whole rfl rfl)) ?_
    obtain ⟨q61,Hq61,h⟩:=Option.bind_eq_some_iff.1 h
    refine D.pu (U.call (ss:=[]) (.cons (.tmp (v:=.agg _) rfl) .nil) (.cons (.cl (.aggL (.cons .fi (.cons .bool (.cons .fi .nil))))) .nil) (frac_Frac_Den.cs Hq61) (.inl rfl) (.aggL (.cons .fi .nil))) ?_
    obtain ⟨q62,Hq62,h⟩:=Option.bind_eq_some_iff.1 h
    refine D.pu (U.call (ss:=[]) (.cons (.tmp (v:=.agg _) rfl) (.cons (.tmp (v:=.agg _) rfl) .nil)) (.cons (.cl (.aggL (.cons .fi .nil))) (.cons (.cl (.aggL (.cons .fi .nil))) .nil)) (quot_Gcd.cs Hq62) (.inl rfl) (.aggL (.cons .fi .nil))) ?_
    refine D.puE (v':=.op 12 (1) 0 0) (b':=⟨1, .own,(.vals [.agg [.fi .u64 []]]),_⟩) Pu.alloc rfl rfl ?_
    refine D.ef0 (C.storeE (.tmp rfl) rfl rfl (.tmp (v:=.agg _) rfl) rfl rfl (.whole (notBad_ne rfl) rfl) .one) ?_
    refine D.nil (by kernel_rfl) ?_
    refine X.seq ?_
    refine X.still ?_
    refine O.pu (U.load (.tmp rfl) rfl rfl (U.whole rfl rfl)) ?_
    obtain ⟨q63,Hq63,h⟩:=Option.bind_eq_some_iff.1 h
    refine O.pu (U.call (ss:=[]) (.cons (.tmp (v:=.agg _) rfl) .nil) (.cons (.cl (.aggL (.cons .fi (.cons .bool (.cons .fi .nil))))) .nil) (frac_Frac_Num.cs Hq63) (.inl rfl) (.aggL (.cons .fi (.cons .bool .nil)))) ?_
    obtain ⟨q64,Hq64,h⟩:=Option.bind_eq_some_iff.1 h
    refine O.pu (U.call (ss:=[]) (.cons (.tmp (v:=.agg _) rfl) .nil) (.cons (.cl (.aggL (.cons .fi (.cons .bool .nil)))) .nil) (whole_Int_Print.cs Hq64) (.inl rfl) (.str)) ?_
    refine O.pu (Pu.assign (.tmp (v:=.str _) rfl)) ?_
    refine O.nil ?_
    refine X.seq ?_
    refine X.seq ?_
    refine X.still ?_
    refine O.pu (U.load (.tmp rfl) rfl rfl (U.whole rfl rfl)) ?_
    obtain ⟨q65,Hq65,h⟩:=Option.bind_eq_some_iff.1 h
    refine O.pu (U.call (ss:=[]) (.cons (.tmp (v:=.agg _) rfl) .nil) (.cons (.cl (.aggL (.cons .fi (.cons .bool (.cons .fi .nil))))) .nil) (frac_Frac_Den.cs Hq65) (.inl rfl) (.aggL (.cons .fi .nil))) ?_
    refine O.puE (v':=.os 55 (1) 0 _ true) (b':=⟨1, .own,_,_⟩) (U.litI rfl rfl (.cons .int .nil) rfl rfl) rfl rfl ?_
    obtain ⟨q66,Hq66,h⟩:=Option.bind_eq_some_iff.1 h
    refine O.ef (U.callZ (ss:=[55]) (.cons (.tmp (v:=.os _ _ _ _ _) rfl) .nil) (.cons (.osIf (by simp) rfl (Mode.live_ne rfl) rfl (by first|rfl|(simp only [List.length_set];done)|(simp only [List.length_drop,List.length_take,List.length_append,List.length_set] at *;omega))) .nil) (nat_Of.cs Hq66) (.aggL (.cons .fi .nil)) (nowin rfl)) ?_
    obtain ⟨q67,Hq67,h⟩:=Option.bind_eq_some_iff.1 h
    refine O.pu (U.call (ss:=[]) (.cons (.tmp (v:=.agg _) rfl) (.cons (.tmp (v:=.agg _) rfl) .nil)) (.cons (.cl (.aggL (.cons .fi .nil))) (.cons (.cl (.aggL (.cons .fi .nil))) .nil)) (nat_Nat_Cmp.cs Hq67) (.inl rfl) (.int)) ?_
    refine O.pu (Pu.bin (.tmp rfl) .int .neq) ?_
    refine O.nil ?_
    refine X.condN (.tmp rfl) (fun c=>?_) (fun c=>?_)
    · rw [if_neg c] at h
      refine X.still ?_
      refine O.pu (Pu.move (.tmp (v:=.str _) rfl)) ?_
      refine O.pu (U.load (.tmp rfl) rfl rfl (U.whole rfl rfl)) ?_
      obtain ⟨q68,Hq68,h⟩:=Option.bind_eq_some_iff.1 h
      refine O.pu (U.call (ss:=[]) (.cons (.tmp (v:=.agg _) rfl) .nil) (.cons (.cl (.aggL (.cons .fi (.cons .bool (.cons .fi .nil))))) .nil) (frac_Frac_Den.cs Hq68) (.inl rfl) (.aggL (.cons .fi .nil))) ?_
      obtain ⟨q69,Hq69,h⟩:=Option.bind_eq_some_iff.1 h
      refine O.pu (U.call (ss:=[]) (.cons (.tmp (v:=.agg _) rfl) .nil) (.cons (.cl (.aggL (.cons .fi .nil))) .nil) (digits_Print.cs Hq69) (.inl rfl) (.str)) ?_
      repeat first|(rw [giff] at h;obtain ⟨_,h⟩:=h)|(rw [chattellaw05_FracLowest.j1_e] at h;obtain ⟨k,_,h⟩:=h;unfold chattellaw05_FracLowest.j1 at h;try dsimp only at h)
      refine O.pu (Pu.bin .str (.tmp rfl) (U.sadd (by first|assumption|omega))) ?_
      refine O.pu (Pu.bin (.tmp rfl) (.tmp rfl) (U.sadd (by first|assumption|omega))) ?_
      refine O.pu (Pu.assign (.tmp (v:=.str _) rfl)) ?_
      refine O.nil ?_
      refine X.seq ?_
      refine X.drawn ?_
      obtain ⟨q70,Hq70,h⟩:=Option.bind_eq_some_iff.1 h
      refine D.pu (U.call (ss:=[]) .nil .nil (chattellaw05_wakes.cs Hq70) (.inl rfl) (.bool)) ?_
      refine D.pu (Pu.move (.tmp (v:=.bool _) rfl)) ?_
      refine D.split (fun c=>?_) (fun c=>?_)
      · rw [if_pos c] at h
        refine D.gpu (W.t rfl rfl) (Pu.move (.tmp (v:=.int _ _) rfl)) ?_
        refine D.gpu (W.t rfl rfl) (Pu.bin (.tmp rfl) .int .eql) ?_
        refine D.pu (Pu.pickT (.tmp rfl) (.tmp (v:=.bool _) rfl)) ?_
        refine D.pu (Pu.move (.tmp (v:=.bool _) rfl)) ?_
        refine D.splitE (fun c=>?_) (fun c=>?_)
        · rw [if_pos c] at h
          refine D.gpu (W.t rfl rfl) (U.load (.tmp rfl) rfl rfl (U.whole rfl rfl)) ?_
          refine D.gpu (W.t rfl rfl) (U.load (.tmp rfl) rfl rfl (U.whole rfl rfl)) ?_
          obtain ⟨q71,Hq71,h⟩:=Option.bind_eq_some_iff.1 h
          refine D.gpu (W.t rfl rfl) (U.call (ss:=[]) (.cons (.tmp (v:=.agg _) rfl) (.cons (.tmp (v:=.agg _) rfl) .nil)) (.cons (.cl (.aggL (.cons .fi (.cons .bool (.cons .fi .nil))))) (.cons (.cl (.aggL (.cons .fi (.cons .bool (.cons .fi .nil))))) .nil)) (frac_Frac_Cmp.cs Hq71) (.inl rfl) (.int)) ?_
          refine D.gpu (W.t rfl rfl) (Pu.bin (.tmp rfl) .int .eql) ?_
          refine D.pu (Pu.pickT (.tmp rfl) (.tmp (v:=.bool _) rfl)) ?_
          refine D.pu (Pu.move (.tmp (v:=.bool _) rfl)) ?_
          refine D.splitE (fun c=>?_) (fun c=>?_)
          · rw [if_pos c] at h
            refine D.gpu (W.t rfl rfl) (U.load (.tmp rfl) rfl rfl (U.whole rfl rfl)) ?_
            obtain ⟨q72,Hq72,h⟩:=Option.bind_eq_some_iff.1 h
            refine D.gpu (W.t rfl rfl) (U.call (ss:=[]) (.cons (.tmp (v:=.agg _) rfl) .nil) (.cons (.cl (.aggL (.cons .fi (.cons .bool (.cons .fi .nil))))) .nil) (frac_Frac_Print.cs Hq72) (.inl rfl) (.str)) ?_
            refine D.gpu (W.t rfl rfl) (U.load (.tmp rfl) rfl rfl (U.whole rfl rfl)) ?_
            obtain ⟨q73,Hq73,h⟩:=Option.bind_eq_some_iff.1 h
            refine D.gpu (W.t rfl rfl) (U.call (ss:=[]) (.cons (.tmp (v:=.agg _) rfl) .nil) (.cons (.cl (.aggL (.cons .fi (.cons .bool (.cons .fi .nil))))) .nil) (frac_Frac_Print.cs Hq73) (.inl rfl) (.str)) ?_
            refine D.gpu (W.t rfl rfl) (Pu.bin (.tmp rfl) (.tmp rfl) .seql) ?_
            refine D.pu (Pu.pickT (.tmp rfl) (.tmp (v:=.bool _) rfl)) ?_
            refine D.pu (Pu.move (.tmp (v:=.bool _) rfl)) ?_
            refine D.splitS rfl (fun c=>?_) (fun c=>?_)
            · rw [if_pos c] at h
              refine D.gpu (W.t rfl rfl) (U.load (.tmp rfl) rfl rfl (U.whole rfl rfl)) ?_
              refine D.gpuE (v':=.os 85 (1) 0 _ true) (b':=⟨1, .own,_,_⟩) (W.t rfl rfl) (U.litI rfl rfl (.cons .int .nil) rfl rfl) rfl rfl ?_
              obtain ⟨q74,Hq74,h⟩:=Option.bind_eq_some_iff.1 h
              refine D.gef (W.t rfl rfl) (C.callZ (ss:=[85]) (.cons (.tmp (v:=.os _ _ _ _ _) rfl) .nil) (.cons (.osIf (by simp) rfl (Mode.live_ne rfl) rfl (by first|rfl|(simp only [List.length_set];done)|(simp only [List.length_drop,List.length_take,List.length_append,List.length_set] at *;omega))) .nil) (nat_Of.cs Hq74) (.aggL (.cons .fi .nil)) (nowin rfl)) ?_
              obtain ⟨q75,Hq75,h⟩:=Option.bind_eq_some_iff.1 h
              refine D.gpu (W.t rfl rfl) (U.call (ss:=[]) (.cons (.tmp (v:=.agg _) rfl) (.cons (.tmp (v:=.agg _) rfl) .nil)) (.cons (.cl (.aggL (.cons .fi .nil))) (.cons (.cl (.aggL (.cons .fi .nil))) .nil)) (nat_Nat_Cmp.cs Hq75) (.inl rfl) (.int)) ?_
              refine D.gpu (W.t rfl rfl) (Pu.bin (.tmp rfl) .int .eql) ?_
              refine D.pu (Pu.pickT (.tmp rfl) (.tmp (v:=.bool _) rfl)) ?_
              refine D.pu (Pu.move (.tmp (v:=.bool _) rfl)) ?_
              refine D.splitE (fun c=>?_) (fun c=>?_)
              · rw [if_pos c] at h
                refine D.gpu (W.t rfl rfl) (U.load (.tmp rfl) rfl rfl (U.whole rfl rfl)) ?_
                obtain ⟨q76,Hq76,h⟩:=Option.bind_eq_some_iff.1 h
                refine D.gpu (W.t rfl rfl) (U.call (ss:=[]) (.cons (.tmp (v:=.agg _) rfl) .nil) (.cons (.cl (.aggL (.cons .fi (.cons .bool (.cons .fi .nil))))) .nil) (frac_Frac_Print.cs Hq76) (.inl rfl) (.str)) ?_
                refine D.gpu (W.t rfl rfl) (Pu.move (.tmp (v:=.str _) rfl)) ?_
                refine D.gpu (W.t rfl rfl) (Pu.bin (.tmp rfl) (.tmp rfl) .seql) ?_
                refine D.pu (Pu.pickT (.tmp rfl) (.tmp (v:=.bool _) rfl)) ?_
                refine D.pu (Pu.move (.tmp (v:=.bool _) rfl)) ?_
                refine D.splitS rfl (fun c=>?_) (fun c=>?_)
                · rw [if_pos c] at h
                  refine D.gpu (W.t rfl rfl) (U.load (.tmp rfl) rfl rfl (U.whole rfl rfl)) ?_
                  obtain ⟨q77,Hq77,h⟩:=Option.bind_eq_some_iff.1 h
                  refine D.gpu (W.t rfl rfl) (U.call (ss:=[]) (.cons (.tmp (v:=.agg _) rfl) .nil) (.cons (.cl (.aggL (.cons .fi (.cons .bool (.cons .fi .nil))))) .nil) (frac_Frac_Print.cs Hq77) (.inl rfl) (.str)) ?_
                  refine D.gpu (W.t rfl rfl) (U.load (.tmp rfl) rfl rfl (U.whole rfl rfl)) ?_
                  obtain ⟨q78,Hq78,h⟩:=Option.bind_eq_some_iff.1 h
                  refine D.gpu (W.t rfl rfl) (U.call (ss:=[]) (.cons (.tmp (v:=.agg _) rfl) .nil) (.cons (.cl (.aggL (.cons .fi (.cons .bool (.cons .fi .nil))))) .nil) (chattelref05_Print.cs Hq78) (.inl rfl) (.str)) ?_
                  refine D.gpu (W.t rfl rfl) (Pu.bin (.tmp rfl) (.tmp rfl) .seql) ?_
                  refine D.pu (Pu.pickT (.tmp rfl) (.tmp (v:=.bool _) rfl)) ?_
                  refine D.pu (Pu.move (.tmp (v:=.bool _) rfl)) ?_
                  refine D.splitS rfl (fun c=>?_) (fun c=>?_)
                  · rw [if_pos c] at h
                    refine D.gpu (W.t rfl rfl) (U.load (.tmp rfl) rfl rfl (U.whole rfl rfl)) ?_
                    obtain ⟨q79,Hq79,h⟩:=Option.bind_eq_some_iff.1 h
                    refine D.gpu (W.t rfl rfl) (U.call (ss:=[]) (.cons (.tmp (v:=.agg _) rfl) .nil) (.cons (.cl (.aggL (.cons .fi (.cons .bool .nil)))) .nil) (frac_From.cs Hq79) (.inl rfl) (.aggL (.cons .fi (.cons .bool (.cons .fi .nil))))) ?_
                    obtain ⟨q80,Hq80,h⟩:=Option.bind_eq_some_iff.1 h
                    refine D.gpu (W.t rfl rfl) (U.call (ss:=[]) (.cons (.tmp (v:=.agg _) rfl) .nil) (.cons (.cl (.aggL (.cons .fi (.cons .bool (.cons .fi .nil))))) .nil) (frac_Frac_Print.cs Hq80) (.inl rfl) (.str)) ?_
                    refine D.gpu (W.t rfl rfl) (U.load (.tmp rfl) rfl rfl (U.whole rfl rfl)) ?_
                    obtain ⟨q81,Hq81,h⟩:=Option.bind_eq_some_iff.1 h
                    refine D.gpu (W.t rfl rfl) (U.call (ss:=[]) (.cons (.tmp (v:=.agg _) rfl) .nil) (.cons (.cl (.aggL (.cons .fi (.cons .bool .nil)))) .nil) (whole_Int_Print.cs Hq81) (.inl rfl) (.str)) ?_
                    refine D.gpu (W.t rfl rfl) (Pu.bin (.tmp rfl) (.tmp rfl) .seql) ?_
                    refine D.pu (Pu.pickT (.tmp rfl) (.tmp (v:=.bool _) rfl)) ?_
                    refine D.pu (Pu.move (.tmp (v:=.bool _) rfl)) ?_
                    refine D.splitS rfl (fun c=>?_) (fun c=>?_)
                    · rw [if_pos c] at h
                      refine D.gpu (W.t rfl rfl) (U.load (.tmp rfl) rfl rfl (U.whole rfl rfl)) ?_
                      obtain ⟨q82,Hq82,h⟩:=Option.bind_eq_some_iff.1 h
                      refine D.gpu (W.t rfl rfl) (U.call (ss:=[]) (.cons (.tmp (v:=.agg _) rfl) .nil) (.cons (.cl (.aggL (.cons .fi (.cons .bool (.cons .fi .nil))))) .nil) (frac_Frac_Sign.cs Hq82) (.inl rfl) (.int)) ?_
                      refine D.gpu (W.t rfl rfl) (U.load (.tmp rfl) rfl rfl (U.whole rfl rfl)) ?_
                      obtain ⟨q83,Hq83,h⟩:=Option.bind_eq_some_iff.1 h
                      refine D.gpu (W.t rfl rfl) (U.call (ss:=[]) (.cons (.tmp (v:=.agg _) rfl) .nil) (.cons (.cl (.aggL (.cons .fi (.cons .bool (.cons .fi .nil))))) .nil) (frac_Frac_Num.cs Hq83) (.inl rfl) (.aggL (.cons .fi (.cons .bool .nil)))) ?_
                      obtain ⟨q84,Hq84,h⟩:=Option.bind_eq_some_iff.1 h
                      refine D.gpu (W.t rfl rfl) (U.call (ss:=[]) (.cons (.tmp (v:=.agg _) rfl) .nil) (.cons (.cl (.aggL (.cons .fi (.cons .bool .nil)))) .nil) (whole_Int_Sign.cs Hq84) (.inl rfl) (.int)) ?_
                      refine D.gpu (W.t rfl rfl) (Pu.bin (.tmp rfl) (.tmp rfl) .eql) ?_
                      refine D.pu (Pu.pickT (.tmp rfl) (.tmp (v:=.bool _) rfl)) ?_
                      refine D.pu (Pu.assign (.tmp (v:=.bool _) rfl)) ?_
                      refine D.nil (by kernel_rfl) ?_
                      refine X.ret ?_
                      cases h
                      exact E.fin [] (.tmp (v:=.bool _) rfl .nil) (.cons (.cl .bool) .nil)
                    · rw [if_neg c] at h
                      refine D.gskip (W.f rfl rfl rfl) ?_
                      refine D.gskip (W.f rfl rfl rfl) ?_
                      refine D.gskip (W.f rfl rfl rfl) ?_
                      refine D.gskip (W.f rfl rfl rfl) ?_
                      refine D.gskip (W.f rfl rfl rfl) ?_
                      refine D.gskip (W.f rfl rfl rfl) ?_
                      refine D.pu (Pu.pickF (.tmp rfl) .bool) ?_
                      refine D.pu (Pu.assign (.tmp (v:=.bool _) rfl)) ?_
                      refine D.nil (by kernel_rfl) ?_
                      refine X.ret ?_
                      cases h
                      exact E.fin [] (.tmp (v:=.bool _) rfl .nil) (.cons (.cl .bool) .nil)
                  · rw [if_neg c] at h
                    refine D.gskip (W.f rfl rfl rfl) ?_
                    refine D.gskip (W.f rfl rfl rfl) ?_
                    refine D.gskip (W.f rfl rfl rfl) ?_
                    refine D.gskip (W.f rfl rfl rfl) ?_
                    refine D.gskip (W.f rfl rfl rfl) ?_
                    refine D.gskip (W.f rfl rfl rfl) ?_
                    refine D.pu (Pu.pickF (.tmp rfl) .bool) ?_
                    refine D.pu (Pu.move (.tmp (v:=.bool _) rfl)) ?_
                    refine D.gskip (W.f rfl rfl rfl) ?_
                    refine D.gskip (W.f rfl rfl rfl) ?_
                    refine D.gskip (W.f rfl rfl rfl) ?_
                    refine D.gskip (W.f rfl rfl rfl) ?_
                    refine D.gskip (W.f rfl rfl rfl) ?_
                    refine D.gskip (W.f rfl rfl rfl) ?_
                    refine D.pu (Pu.pickF (.tmp rfl) .bool) ?_
                    refine D.pu (Pu.assign (.tmp (v:=.bool _) rfl)) ?_
                    refine D.nil (by kernel_rfl) ?_
                    refine X.ret ?_
                    cases h
                    exact E.fin [] (.tmp (v:=.bool _) rfl .nil) (.cons (.cl .bool) .nil)
                · rw [if_neg c] at h
                  refine D.gskip (W.f rfl rfl rfl) ?_
                  refine D.gskip (W.f rfl rfl rfl) ?_
                  refine D.gskip (W.f rfl rfl rfl) ?_
                  refine D.gskip (W.f rfl rfl rfl) ?_
                  refine D.gskip (W.f rfl rfl rfl) ?_
                  refine D.pu (Pu.pickF (.tmp rfl) .bool) ?_
                  refine D.pu (Pu.move (.tmp (v:=.bool _) rfl)) ?_
                  refine D.gskip (W.f rfl rfl rfl) ?_
                  refine D.gskip (W.f rfl rfl rfl) ?_
                  refine D.gskip (W.f rfl rfl rfl) ?_
                  refine D.gskip (W.f rfl rfl rfl) ?_
                  refine D.gskip (W.f rfl rfl rfl) ?_
                  refine D.gskip (W.f rfl rfl rfl) ?_
                  refine D.pu (Pu.pickF (.tmp rfl) .bool) ?_
                  refine D.pu (Pu.move (.tmp (v:=.bool _) rfl)) ?_
                  refine D.gskip (W.f rfl rfl rfl) ?_
                  refine D.gskip (W.f rfl rfl rfl) ?_
                  refine D.gskip (W.f rfl rfl rfl) ?_
                  refine D.gskip (W.f rfl rfl rfl) ?_
                  refine D.gskip (W.f rfl rfl rfl) ?_
                  refine D.gskip (W.f rfl rfl rfl) ?_
                  refine D.pu (Pu.pickF (.tmp rfl) .bool) ?_
                  refine D.pu (Pu.assign (.tmp (v:=.bool _) rfl)) ?_
                  refine D.nil (by kernel_rfl) ?_
                  refine X.ret ?_
                  cases h
                  exact E.fin [] (.tmp (v:=.bool _) rfl .nil) (.cons (.cl .bool) .nil)
              · rw [if_neg c] at h
                refine D.gskip (W.f rfl rfl rfl) ?_
                refine D.gskip (W.f rfl rfl rfl) ?_
                refine D.gskip (W.f rfl rfl rfl) ?_
                refine D.gskip (W.f rfl rfl rfl) ?_
                refine D.pu (Pu.pickF (.tmp rfl) .bool) ?_
                refine D.pu (Pu.move (.tmp (v:=.bool _) rfl)) ?_
                refine D.gskip (W.f rfl rfl rfl) ?_
                refine D.gskip (W.f rfl rfl rfl) ?_
                refine D.gskip (W.f rfl rfl rfl) ?_
                refine D.gskip (W.f rfl rfl rfl) ?_
                refine D.gskip (W.f rfl rfl rfl) ?_
                refine D.pu (Pu.pickF (.tmp rfl) .bool) ?_
                refine D.pu (Pu.move (.tmp (v:=.bool _) rfl)) ?_
                refine D.gskip (W.f rfl rfl rfl) ?_
                refine D.gskip (W.f rfl rfl rfl) ?_
                refine D.gskip (W.f rfl rfl rfl) ?_
                refine D.gskip (W.f rfl rfl rfl) ?_
                refine D.gskip (W.f rfl rfl rfl) ?_
                refine D.gskip (W.f rfl rfl rfl) ?_
                refine D.pu (Pu.pickF (.tmp rfl) .bool) ?_
                refine D.pu (Pu.move (.tmp (v:=.bool _) rfl)) ?_
                refine D.gskip (W.f rfl rfl rfl) ?_
                refine D.gskip (W.f rfl rfl rfl) ?_
                refine D.gskip (W.f rfl rfl rfl) ?_
                refine D.gskip (W.f rfl rfl rfl) ?_
                refine D.gskip (W.f rfl rfl rfl) ?_
                refine D.gskip (W.f rfl rfl rfl) ?_
                refine D.pu (Pu.pickF (.tmp rfl) .bool) ?_
                refine D.pu (Pu.assign (.tmp (v:=.bool _) rfl)) ?_
                refine D.nil (by kernel_rfl) ?_
                refine X.ret ?_
                cases h
                exact E.fin [] (.tmp (v:=.bool _) rfl .nil) (.cons (.cl .bool) .nil)
            · rw [if_neg c] at h
              refine D.gskip (W.f rfl rfl rfl) ?_
              refine D.gskip (W.f rfl rfl rfl) ?_
              refine D.gskip (W.f rfl rfl rfl) ?_
              refine D.gskip (W.f rfl rfl rfl) ?_
              refine D.gskip (W.f rfl rfl rfl) ?_
              refine D.pu (Pu.pickF (.tmp rfl) .bool) ?_
              refine D.pu (Pu.move (.tmp (v:=.bool _) rfl)) ?_
              refine D.gskip (W.f rfl rfl rfl) ?_
              refine D.gskip (W.f rfl rfl rfl) ?_
              refine D.gskip (W.f rfl rfl rfl) ?_
              refine D.gskip (W.f rfl rfl rfl) ?_
              refine D.pu (Pu.pickF (.tmp rfl) .bool) ?_
              refine D.pu (Pu.move (.tmp (v:=.bool _) rfl)) ?_
              refine D.gskip (W.f rfl rfl rfl) ?_
              refine D.gskip (W.f rfl rfl rfl) ?_
              refine D.gskip (W.f rfl rfl rfl) ?_
              refine D.gskip (W.f rfl rfl rfl) ?_
              refine D.gskip (W.f rfl rfl rfl) ?_
              refine D.pu (Pu.pickF (.tmp rfl) .bool) ?_
              refine D.pu (Pu.move (.tmp (v:=.bool _) rfl)) ?_
              refine D.gskip (W.f rfl rfl rfl) ?_
              refine D.gskip (W.f rfl rfl rfl) ?_
              refine D.gskip (W.f rfl rfl rfl) ?_
              refine D.gskip (W.f rfl rfl rfl) ?_
              refine D.gskip (W.f rfl rfl rfl) ?_
              refine D.gskip (W.f rfl rfl rfl) ?_
              refine D.pu (Pu.pickF (.tmp rfl) .bool) ?_
              refine D.pu (Pu.move (.tmp (v:=.bool _) rfl)) ?_
              refine D.gskip (W.f rfl rfl rfl) ?_
              refine D.gskip (W.f rfl rfl rfl) ?_
              refine D.gskip (W.f rfl rfl rfl) ?_
              refine D.gskip (W.f rfl rfl rfl) ?_
              refine D.gskip (W.f rfl rfl rfl) ?_
              refine D.gskip (W.f rfl rfl rfl) ?_
              refine D.pu (Pu.pickF (.tmp rfl) .bool) ?_
              refine D.pu (Pu.assign (.tmp (v:=.bool _) rfl)) ?_
              refine D.nil (by kernel_rfl) ?_
              refine X.ret ?_
              cases h
              exact E.fin [] (.tmp (v:=.bool _) rfl .nil) (.cons (.cl .bool) .nil)
          · rw [if_neg c] at h
            refine D.gskip (W.f rfl rfl rfl) ?_
            refine D.gskip (W.f rfl rfl rfl) ?_
            refine D.gskip (W.f rfl rfl rfl) ?_
            refine D.gskip (W.f rfl rfl rfl) ?_
            refine D.gskip (W.f rfl rfl rfl) ?_
            refine D.pu (Pu.pickF (.tmp rfl) .bool) ?_
            refine D.pu (Pu.move (.tmp (v:=.bool _) rfl)) ?_
            refine D.gskip (W.f rfl rfl rfl) ?_
            refine D.gskip (W.f rfl rfl rfl) ?_
            refine D.gskip (W.f rfl rfl rfl) ?_
            refine D.gskip (W.f rfl rfl rfl) ?_
            refine D.gskip (W.f rfl rfl rfl) ?_
            refine D.pu (Pu.pickF (.tmp rfl) .bool) ?_
            refine D.pu (Pu.move (.tmp (v:=.bool _) rfl)) ?_
            refine D.gskip (W.f rfl rfl rfl) ?_
            refine D.gskip (W.f rfl rfl rfl) ?_
            refine D.gskip (W.f rfl rfl rfl) ?_
            refine D.gskip (W.f rfl rfl rfl) ?_
            refine D.pu (Pu.pickF (.tmp rfl) .bool) ?_
            refine D.pu (Pu.move (.tmp (v:=.bool _) rfl)) ?_
            refine D.gskip (W.f rfl rfl rfl) ?_
            refine D.gskip (W.f rfl rfl rfl) ?_
            refine D.gskip (W.f rfl rfl rfl) ?_
            refine D.gskip (W.f rfl rfl rfl) ?_
            refine D.gskip (W.f rfl rfl rfl) ?_
            refine D.pu (Pu.pickF (.tmp rfl) .bool) ?_
            refine D.pu (Pu.move (.tmp (v:=.bool _) rfl)) ?_
            refine D.gskip (W.f rfl rfl rfl) ?_
            refine D.gskip (W.f rfl rfl rfl) ?_
            refine D.gskip (W.f rfl rfl rfl) ?_
            refine D.gskip (W.f rfl rfl rfl) ?_
            refine D.gskip (W.f rfl rfl rfl) ?_
            refine D.gskip (W.f rfl rfl rfl) ?_
            refine D.pu (Pu.pickF (.tmp rfl) .bool) ?_
            refine D.pu (Pu.move (.tmp (v:=.bool _) rfl)) ?_
            refine D.gskip (W.f rfl rfl rfl) ?_
            refine D.gskip (W.f rfl rfl rfl) ?_
            refine D.gskip (W.f rfl rfl rfl) ?_
            refine D.gskip (W.f rfl rfl rfl) ?_
            refine D.gskip (W.f rfl rfl rfl) ?_
            refine D.gskip (W.f rfl rfl rfl) ?_
            refine D.pu (Pu.pickF (.tmp rfl) .bool) ?_
            refine D.pu (Pu.assign (.tmp (v:=.bool _) rfl)) ?_
            refine D.nil (by kernel_rfl) ?_
            refine X.ret ?_
            cases h
            exact E.fin [] (.tmp (v:=.bool _) rfl .nil) (.cons (.cl .bool) .nil)
        · rw [if_neg c] at h
          refine D.gskip (W.f rfl rfl rfl) ?_
          refine D.gskip (W.f rfl rfl rfl) ?_
          refine D.gskip (W.f rfl rfl rfl) ?_
          refine D.gskip (W.f rfl rfl rfl) ?_
          refine D.pu (Pu.pickF (.tmp rfl) .bool) ?_
          refine D.pu (Pu.move (.tmp (v:=.bool _) rfl)) ?_
          refine D.gskip (W.f rfl rfl rfl) ?_
          refine D.gskip (W.f rfl rfl rfl) ?_
          refine D.gskip (W.f rfl rfl rfl) ?_
          refine D.gskip (W.f rfl rfl rfl) ?_
          refine D.gskip (W.f rfl rfl rfl) ?_
          refine D.pu (Pu.pickF (.tmp rfl) .bool) ?_
          refine D.pu (Pu.move (.tmp (v:=.bool _) rfl)) ?_
          refine D.gskip (W.f rfl rfl rfl) ?_
          refine D.gskip (W.f rfl rfl rfl) ?_
          refine D.gskip (W.f rfl rfl rfl) ?_
          refine D.gskip (W.f rfl rfl rfl) ?_
          refine D.gskip (W.f rfl rfl rfl) ?_
          refine D.pu (Pu.pickF (.tmp rfl) .bool) ?_
          refine D.pu (Pu.move (.tmp (v:=.bool _) rfl)) ?_
          refine D.gskip (W.f rfl rfl rfl) ?_
          refine D.gskip (W.f rfl rfl rfl) ?_
          refine D.gskip (W.f rfl rfl rfl) ?_
          refine D.gskip (W.f rfl rfl rfl) ?_
          refine D.pu (Pu.pickF (.tmp rfl) .bool) ?_
          refine D.pu (Pu.move (.tmp (v:=.bool _) rfl)) ?_
          refine D.gskip (W.f rfl rfl rfl) ?_
          refine D.gskip (W.f rfl rfl rfl) ?_
          refine D.gskip (W.f rfl rfl rfl) ?_
          refine D.gskip (W.f rfl rfl rfl) ?_
          refine D.gskip (W.f rfl rfl rfl) ?_
          refine D.pu (Pu.pickF (.tmp rfl) .bool) ?_
          refine D.pu (Pu.move (.tmp (v:=.bool _) rfl)) ?_
          refine D.gskip (W.f rfl rfl rfl) ?_
          refine D.gskip (W.f rfl rfl rfl) ?_
          refine D.gskip (W.f rfl rfl rfl) ?_
          refine D.gskip (W.f rfl rfl rfl) ?_
          refine D.gskip (W.f rfl rfl rfl) ?_
          refine D.gskip (W.f rfl rfl rfl) ?_
          refine D.pu (Pu.pickF (.tmp rfl) .bool) ?_
          refine D.pu (Pu.move (.tmp (v:=.bool _) rfl)) ?_
          refine D.gskip (W.f rfl rfl rfl) ?_
          refine D.gskip (W.f rfl rfl rfl) ?_
          refine D.gskip (W.f rfl rfl rfl) ?_
          refine D.gskip (W.f rfl rfl rfl) ?_
          refine D.gskip (W.f rfl rfl rfl) ?_
          refine D.gskip (W.f rfl rfl rfl) ?_
          refine D.pu (Pu.pickF (.tmp rfl) .bool) ?_
          refine D.pu (Pu.assign (.tmp (v:=.bool _) rfl)) ?_
          refine D.nil (by kernel_rfl) ?_
          refine X.ret ?_
          cases h
          exact E.fin [] (.tmp (v:=.bool _) rfl .nil) (.cons (.cl .bool) .nil)
      · rw [if_neg (bf c)] at h
        refine D.gskip (W.f rfl rfl rfl) ?_
        refine D.gskip (W.f rfl rfl rfl) ?_
        refine D.pu (Pu.pickF (.tmp rfl) .bool) ?_
        refine D.pu (Pu.move (.tmp (v:=.bool _) rfl)) ?_
        refine D.gskip (W.f rfl rfl rfl) ?_
        refine D.gskip (W.f rfl rfl rfl) ?_
        refine D.gskip (W.f rfl rfl rfl) ?_
        refine D.gskip (W.f rfl rfl rfl) ?_
        refine D.pu (Pu.pickF (.tmp rfl) .bool) ?_
        refine D.pu (Pu.move (.tmp (v:=.bool _) rfl)) ?_
        refine D.gskip (W.f rfl rfl rfl) ?_
        refine D.gskip (W.f rfl rfl rfl) ?_
        refine D.gskip (W.f rfl rfl rfl) ?_
        refine D.gskip (W.f rfl rfl rfl) ?_
        refine D.gskip (W.f rfl rfl rfl) ?_
        refine D.pu (Pu.pickF (.tmp rfl) .bool) ?_
        refine D.pu (Pu.move (.tmp (v:=.bool _) rfl)) ?_
        refine D.gskip (W.f rfl rfl rfl) ?_
        refine D.gskip (W.f rfl rfl rfl) ?_
        refine D.gskip (W.f rfl rfl rfl) ?_
        refine D.gskip (W.f rfl rfl rfl) ?_
        refine D.gskip (W.f rfl rfl rfl) ?_
        refine D.pu (Pu.pickF (.tmp rfl) .bool) ?_
        refine D.pu (Pu.move (.tmp (v:=.bool _) rfl)) ?_
        refine D.gskip (W.f rfl rfl rfl) ?_
        refine D.gskip (W.f rfl rfl rfl) ?_
        refine D.gskip (W.f rfl rfl rfl) ?_
        refine D.gskip (W.f rfl rfl rfl) ?_
        refine D.pu (Pu.pickF (.tmp rfl) .bool) ?_
        refine D.pu (Pu.move (.tmp (v:=.bool _) rfl)) ?_
        refine D.gskip (W.f rfl rfl rfl) ?_
        refine D.gskip (W.f rfl rfl rfl) ?_
        refine D.gskip (W.f rfl rfl rfl) ?_
        refine D.gskip (W.f rfl rfl rfl) ?_
        refine D.gskip (W.f rfl rfl rfl) ?_
        refine D.pu (Pu.pickF (.tmp rfl) .bool) ?_
        refine D.pu (Pu.move (.tmp (v:=.bool _) rfl)) ?_
        refine D.gskip (W.f rfl rfl rfl) ?_
        refine D.gskip (W.f rfl rfl rfl) ?_
        refine D.gskip (W.f rfl rfl rfl) ?_
        refine D.gskip (W.f rfl rfl rfl) ?_
        refine D.gskip (W.f rfl rfl rfl) ?_
        refine D.gskip (W.f rfl rfl rfl) ?_
        refine D.pu (Pu.pickF (.tmp rfl) .bool) ?_
        refine D.pu (Pu.move (.tmp (v:=.bool _) rfl)) ?_
        refine D.gskip (W.f rfl rfl rfl) ?_
        refine D.gskip (W.f rfl rfl rfl) ?_
        refine D.gskip (W.f rfl rfl rfl) ?_
        refine D.gskip (W.f rfl rfl rfl) ?_
        refine D.gskip (W.f rfl rfl rfl) ?_
        refine D.gskip (W.f rfl rfl rfl) ?_
        refine D.pu (Pu.pickF (.tmp rfl) .bool) ?_
        refine D.pu (Pu.assign (.tmp (v:=.bool _) rfl)) ?_
        refine D.nil (by kernel_rfl) ?_
        refine X.ret ?_
        cases h
        exact E.fin [] (.tmp (v:=.bool _) rfl .nil) (.cons (.cl .bool) .nil)
    · rw [if_pos c] at h
      refine X.skip ?_
      refine X.seq ?_
      refine X.drawn ?_
      repeat (rw [chattellaw05_FracLowest.j1_e] at h;obtain ⟨k,_,h⟩:=h;unfold chattellaw05_FracLowest.j1 at h;try dsimp only at h)
      obtain ⟨q85,Hq85,h⟩:=Option.bind_eq_some_iff.1 h
      refine D.pu (U.call (ss:=[]) .nil .nil (chattellaw05_wakes.cs Hq85) (.inl rfl) (.bool)) ?_
      refine D.pu (Pu.move (.tmp (v:=.bool _) rfl)) ?_
      refine D.split (fun c=>?_) (fun c=>?_)
      · rw [if_pos c] at h
        refine D.gpu (W.t rfl rfl) (Pu.move (.tmp (v:=.int _ _) rfl)) ?_
        refine D.gpu (W.t rfl rfl) (Pu.bin (.tmp rfl) .int .eql) ?_
        refine D.pu (Pu.pickT (.tmp rfl) (.tmp (v:=.bool _) rfl)) ?_
        refine D.pu (Pu.move (.tmp (v:=.bool _) rfl)) ?_
        refine D.splitE (fun c=>?_) (fun c=>?_)
        · rw [if_pos c] at h
          refine D.gpu (W.t rfl rfl) (U.load (.tmp rfl) rfl rfl (U.whole rfl rfl)) ?_
          refine D.gpu (W.t rfl rfl) (U.load (.tmp rfl) rfl rfl (U.whole rfl rfl)) ?_
          obtain ⟨q86,Hq86,h⟩:=Option.bind_eq_some_iff.1 h
          refine D.gpu (W.t rfl rfl) (U.call (ss:=[]) (.cons (.tmp (v:=.agg _) rfl) (.cons (.tmp (v:=.agg _) rfl) .nil)) (.cons (.cl (.aggL (.cons .fi (.cons .bool (.cons .fi .nil))))) (.cons (.cl (.aggL (.cons .fi (.cons .bool (.cons .fi .nil))))) .nil)) (frac_Frac_Cmp.cs Hq86) (.inl rfl) (.int)) ?_
          refine D.gpu (W.t rfl rfl) (Pu.bin (.tmp rfl) .int .eql) ?_
          refine D.pu (Pu.pickT (.tmp rfl) (.tmp (v:=.bool _) rfl)) ?_
          refine D.pu (Pu.move (.tmp (v:=.bool _) rfl)) ?_
          refine D.splitE (fun c=>?_) (fun c=>?_)
          · rw [if_pos c] at h
            refine D.gpu (W.t rfl rfl) (U.load (.tmp rfl) rfl rfl (U.whole rfl rfl)) ?_
            obtain ⟨q87,Hq87,h⟩:=Option.bind_eq_some_iff.1 h
            refine D.gpu (W.t rfl rfl) (U.call (ss:=[]) (.cons (.tmp (v:=.agg _) rfl) .nil) (.cons (.cl (.aggL (.cons .fi (.cons .bool (.cons .fi .nil))))) .nil) (frac_Frac_Print.cs Hq87) (.inl rfl) (.str)) ?_
            refine D.gpu (W.t rfl rfl) (U.load (.tmp rfl) rfl rfl (U.whole rfl rfl)) ?_
            obtain ⟨q88,Hq88,h⟩:=Option.bind_eq_some_iff.1 h
            refine D.gpu (W.t rfl rfl) (U.call (ss:=[]) (.cons (.tmp (v:=.agg _) rfl) .nil) (.cons (.cl (.aggL (.cons .fi (.cons .bool (.cons .fi .nil))))) .nil) (frac_Frac_Print.cs Hq88) (.inl rfl) (.str)) ?_
            refine D.gpu (W.t rfl rfl) (Pu.bin (.tmp rfl) (.tmp rfl) .seql) ?_
            refine D.pu (Pu.pickT (.tmp rfl) (.tmp (v:=.bool _) rfl)) ?_
            refine D.pu (Pu.move (.tmp (v:=.bool _) rfl)) ?_
            refine D.splitS rfl (fun c=>?_) (fun c=>?_)
            · rw [if_pos c] at h
              refine D.gpu (W.t rfl rfl) (U.load (.tmp rfl) rfl rfl (U.whole rfl rfl)) ?_
              refine D.gpuE (v':=.os 85 (1) 0 _ true) (b':=⟨1, .own,_,_⟩) (W.t rfl rfl) (U.litI rfl rfl (.cons .int .nil) rfl rfl) rfl rfl ?_
              obtain ⟨q89,Hq89,h⟩:=Option.bind_eq_some_iff.1 h
              refine D.gef (W.t rfl rfl) (C.callZ (ss:=[85]) (.cons (.tmp (v:=.os _ _ _ _ _) rfl) .nil) (.cons (.osIf (by simp) rfl (Mode.live_ne rfl) rfl (by first|rfl|(simp only [List.length_set];done)|(simp only [List.length_drop,List.length_take,List.length_append,List.length_set] at *;omega))) .nil) (nat_Of.cs Hq89) (.aggL (.cons .fi .nil)) (nowin rfl)) ?_
              obtain ⟨q90,Hq90,h⟩:=Option.bind_eq_some_iff.1 h
              refine D.gpu (W.t rfl rfl) (U.call (ss:=[]) (.cons (.tmp (v:=.agg _) rfl) (.cons (.tmp (v:=.agg _) rfl) .nil)) (.cons (.cl (.aggL (.cons .fi .nil))) (.cons (.cl (.aggL (.cons .fi .nil))) .nil)) (nat_Nat_Cmp.cs Hq90) (.inl rfl) (.int)) ?_
              refine D.gpu (W.t rfl rfl) (Pu.bin (.tmp rfl) .int .eql) ?_
              refine D.pu (Pu.pickT (.tmp rfl) (.tmp (v:=.bool _) rfl)) ?_
              refine D.pu (Pu.move (.tmp (v:=.bool _) rfl)) ?_
              refine D.splitE (fun c=>?_) (fun c=>?_)
              · rw [if_pos c] at h
                refine D.gpu (W.t rfl rfl) (U.load (.tmp rfl) rfl rfl (U.whole rfl rfl)) ?_
                obtain ⟨q91,Hq91,h⟩:=Option.bind_eq_some_iff.1 h
                refine D.gpu (W.t rfl rfl) (U.call (ss:=[]) (.cons (.tmp (v:=.agg _) rfl) .nil) (.cons (.cl (.aggL (.cons .fi (.cons .bool (.cons .fi .nil))))) .nil) (frac_Frac_Print.cs Hq91) (.inl rfl) (.str)) ?_
                refine D.gpu (W.t rfl rfl) (Pu.move (.tmp (v:=.str _) rfl)) ?_
                refine D.gpu (W.t rfl rfl) (Pu.bin (.tmp rfl) (.tmp rfl) .seql) ?_
                refine D.pu (Pu.pickT (.tmp rfl) (.tmp (v:=.bool _) rfl)) ?_
                refine D.pu (Pu.move (.tmp (v:=.bool _) rfl)) ?_
                refine D.splitS rfl (fun c=>?_) (fun c=>?_)
                · rw [if_pos c] at h
                  refine D.gpu (W.t rfl rfl) (U.load (.tmp rfl) rfl rfl (U.whole rfl rfl)) ?_
                  obtain ⟨q92,Hq92,h⟩:=Option.bind_eq_some_iff.1 h
                  refine D.gpu (W.t rfl rfl) (U.call (ss:=[]) (.cons (.tmp (v:=.agg _) rfl) .nil) (.cons (.cl (.aggL (.cons .fi (.cons .bool (.cons .fi .nil))))) .nil) (frac_Frac_Print.cs Hq92) (.inl rfl) (.str)) ?_
                  refine D.gpu (W.t rfl rfl) (U.load (.tmp rfl) rfl rfl (U.whole rfl rfl)) ?_
                  obtain ⟨q93,Hq93,h⟩:=Option.bind_eq_some_iff.1 h
                  refine D.gpu (W.t rfl rfl) (U.call (ss:=[]) (.cons (.tmp (v:=.agg _) rfl) .nil) (.cons (.cl (.aggL (.cons .fi (.cons .bool (.cons .fi .nil))))) .nil) (chattelref05_Print.cs Hq93) (.inl rfl) (.str)) ?_
                  refine D.gpu (W.t rfl rfl) (Pu.bin (.tmp rfl) (.tmp rfl) .seql) ?_
                  refine D.pu (Pu.pickT (.tmp rfl) (.tmp (v:=.bool _) rfl)) ?_
                  refine D.pu (Pu.move (.tmp (v:=.bool _) rfl)) ?_
                  refine D.splitS rfl (fun c=>?_) (fun c=>?_)
                  · rw [if_pos c] at h
                    refine D.gpu (W.t rfl rfl) (U.load (.tmp rfl) rfl rfl (U.whole rfl rfl)) ?_
                    obtain ⟨q94,Hq94,h⟩:=Option.bind_eq_some_iff.1 h
                    refine D.gpu (W.t rfl rfl) (U.call (ss:=[]) (.cons (.tmp (v:=.agg _) rfl) .nil) (.cons (.cl (.aggL (.cons .fi (.cons .bool .nil)))) .nil) (frac_From.cs Hq94) (.inl rfl) (.aggL (.cons .fi (.cons .bool (.cons .fi .nil))))) ?_
                    obtain ⟨q95,Hq95,h⟩:=Option.bind_eq_some_iff.1 h
                    refine D.gpu (W.t rfl rfl) (U.call (ss:=[]) (.cons (.tmp (v:=.agg _) rfl) .nil) (.cons (.cl (.aggL (.cons .fi (.cons .bool (.cons .fi .nil))))) .nil) (frac_Frac_Print.cs Hq95) (.inl rfl) (.str)) ?_
                    refine D.gpu (W.t rfl rfl) (U.load (.tmp rfl) rfl rfl (U.whole rfl rfl)) ?_
                    obtain ⟨q96,Hq96,h⟩:=Option.bind_eq_some_iff.1 h
                    refine D.gpu (W.t rfl rfl) (U.call (ss:=[]) (.cons (.tmp (v:=.agg _) rfl) .nil) (.cons (.cl (.aggL (.cons .fi (.cons .bool .nil)))) .nil) (whole_Int_Print.cs Hq96) (.inl rfl) (.str)) ?_
                    refine D.gpu (W.t rfl rfl) (Pu.bin (.tmp rfl) (.tmp rfl) .seql) ?_
                    refine D.pu (Pu.pickT (.tmp rfl) (.tmp (v:=.bool _) rfl)) ?_
                    refine D.pu (Pu.move (.tmp (v:=.bool _) rfl)) ?_
                    refine D.splitS rfl (fun c=>?_) (fun c=>?_)
                    · rw [if_pos c] at h
                      refine D.gpu (W.t rfl rfl) (U.load (.tmp rfl) rfl rfl (U.whole rfl rfl)) ?_
                      obtain ⟨q97,Hq97,h⟩:=Option.bind_eq_some_iff.1 h
                      refine D.gpu (W.t rfl rfl) (U.call (ss:=[]) (.cons (.tmp (v:=.agg _) rfl) .nil) (.cons (.cl (.aggL (.cons .fi (.cons .bool (.cons .fi .nil))))) .nil) (frac_Frac_Sign.cs Hq97) (.inl rfl) (.int)) ?_
                      refine D.gpu (W.t rfl rfl) (U.load (.tmp rfl) rfl rfl (U.whole rfl rfl)) ?_
                      obtain ⟨q98,Hq98,h⟩:=Option.bind_eq_some_iff.1 h
                      refine D.gpu (W.t rfl rfl) (U.call (ss:=[]) (.cons (.tmp (v:=.agg _) rfl) .nil) (.cons (.cl (.aggL (.cons .fi (.cons .bool (.cons .fi .nil))))) .nil) (frac_Frac_Num.cs Hq98) (.inl rfl) (.aggL (.cons .fi (.cons .bool .nil)))) ?_
                      obtain ⟨q99,Hq99,h⟩:=Option.bind_eq_some_iff.1 h
                      refine D.gpu (W.t rfl rfl) (U.call (ss:=[]) (.cons (.tmp (v:=.agg _) rfl) .nil) (.cons (.cl (.aggL (.cons .fi (.cons .bool .nil)))) .nil) (whole_Int_Sign.cs Hq99) (.inl rfl) (.int)) ?_
                      refine D.gpu (W.t rfl rfl) (Pu.bin (.tmp rfl) (.tmp rfl) .eql) ?_
                      refine D.pu (Pu.pickT (.tmp rfl) (.tmp (v:=.bool _) rfl)) ?_
                      refine D.pu (Pu.assign (.tmp (v:=.bool _) rfl)) ?_
                      refine D.nil (by kernel_rfl) ?_
                      refine X.ret ?_
                      cases h
                      exact E.fin [] (.tmp (v:=.bool _) rfl .nil) (.cons (.cl .bool) .nil)
                    · rw [if_neg c] at h
                      refine D.gskip (W.f rfl rfl rfl) ?_
                      refine D.gskip (W.f rfl rfl rfl) ?_
                      refine D.gskip (W.f rfl rfl rfl) ?_
                      refine D.gskip (W.f rfl rfl rfl) ?_
                      refine D.gskip (W.f rfl rfl rfl) ?_
                      refine D.gskip (W.f rfl rfl rfl) ?_
                      refine D.pu (Pu.pickF (.tmp rfl) .bool) ?_
                      refine D.pu (Pu.assign (.tmp (v:=.bool _) rfl)) ?_
                      refine D.nil (by kernel_rfl) ?_
                      refine X.ret ?_
                      cases h
                      exact E.fin [] (.tmp (v:=.bool _) rfl .nil) (.cons (.cl .bool) .nil)
                  · rw [if_neg c] at h
                    refine D.gskip (W.f rfl rfl rfl) ?_
                    refine D.gskip (W.f rfl rfl rfl) ?_
                    refine D.gskip (W.f rfl rfl rfl) ?_
                    refine D.gskip (W.f rfl rfl rfl) ?_
                    refine D.gskip (W.f rfl rfl rfl) ?_
                    refine D.gskip (W.f rfl rfl rfl) ?_
                    refine D.pu (Pu.pickF (.tmp rfl) .bool) ?_
                    refine D.pu (Pu.move (.tmp (v:=.bool _) rfl)) ?_
                    refine D.gskip (W.f rfl rfl rfl) ?_
                    refine D.gskip (W.f rfl rfl rfl) ?_
                    refine D.gskip (W.f rfl rfl rfl) ?_
                    refine D.gskip (W.f rfl rfl rfl) ?_
                    refine D.gskip (W.f rfl rfl rfl) ?_
                    refine D.gskip (W.f rfl rfl rfl) ?_
                    refine D.pu (Pu.pickF (.tmp rfl) .bool) ?_
                    refine D.pu (Pu.assign (.tmp (v:=.bool _) rfl)) ?_
                    refine D.nil (by kernel_rfl) ?_
                    refine X.ret ?_
                    cases h
                    exact E.fin [] (.tmp (v:=.bool _) rfl .nil) (.cons (.cl .bool) .nil)
                · rw [if_neg c] at h
                  refine D.gskip (W.f rfl rfl rfl) ?_
                  refine D.gskip (W.f rfl rfl rfl) ?_
                  refine D.gskip (W.f rfl rfl rfl) ?_
                  refine D.gskip (W.f rfl rfl rfl) ?_
                  refine D.gskip (W.f rfl rfl rfl) ?_
                  refine D.pu (Pu.pickF (.tmp rfl) .bool) ?_
                  refine D.pu (Pu.move (.tmp (v:=.bool _) rfl)) ?_
                  refine D.gskip (W.f rfl rfl rfl) ?_
                  refine D.gskip (W.f rfl rfl rfl) ?_
                  refine D.gskip (W.f rfl rfl rfl) ?_
                  refine D.gskip (W.f rfl rfl rfl) ?_
                  refine D.gskip (W.f rfl rfl rfl) ?_
                  refine D.gskip (W.f rfl rfl rfl) ?_
                  refine D.pu (Pu.pickF (.tmp rfl) .bool) ?_
                  refine D.pu (Pu.move (.tmp (v:=.bool _) rfl)) ?_
                  refine D.gskip (W.f rfl rfl rfl) ?_
                  refine D.gskip (W.f rfl rfl rfl) ?_
                  refine D.gskip (W.f rfl rfl rfl) ?_
                  refine D.gskip (W.f rfl rfl rfl) ?_
                  refine D.gskip (W.f rfl rfl rfl) ?_
                  refine D.gskip (W.f rfl rfl rfl) ?_
                  refine D.pu (Pu.pickF (.tmp rfl) .bool) ?_
                  refine D.pu (Pu.assign (.tmp (v:=.bool _) rfl)) ?_
                  refine D.nil (by kernel_rfl) ?_
                  refine X.ret ?_
                  cases h
                  exact E.fin [] (.tmp (v:=.bool _) rfl .nil) (.cons (.cl .bool) .nil)
              · rw [if_neg c] at h
                refine D.gskip (W.f rfl rfl rfl) ?_
                refine D.gskip (W.f rfl rfl rfl) ?_
                refine D.gskip (W.f rfl rfl rfl) ?_
                refine D.gskip (W.f rfl rfl rfl) ?_
                refine D.pu (Pu.pickF (.tmp rfl) .bool) ?_
                refine D.pu (Pu.move (.tmp (v:=.bool _) rfl)) ?_
                refine D.gskip (W.f rfl rfl rfl) ?_
                refine D.gskip (W.f rfl rfl rfl) ?_
                refine D.gskip (W.f rfl rfl rfl) ?_
                refine D.gskip (W.f rfl rfl rfl) ?_
                refine D.gskip (W.f rfl rfl rfl) ?_
                refine D.pu (Pu.pickF (.tmp rfl) .bool) ?_
                refine D.pu (Pu.move (.tmp (v:=.bool _) rfl)) ?_
                refine D.gskip (W.f rfl rfl rfl) ?_
                refine D.gskip (W.f rfl rfl rfl) ?_
                refine D.gskip (W.f rfl rfl rfl) ?_
                refine D.gskip (W.f rfl rfl rfl) ?_
                refine D.gskip (W.f rfl rfl rfl) ?_
                refine D.gskip (W.f rfl rfl rfl) ?_
                refine D.pu (Pu.pickF (.tmp rfl) .bool) ?_
                refine D.pu (Pu.move (.tmp (v:=.bool _) rfl)) ?_
                refine D.gskip (W.f rfl rfl rfl) ?_
                refine D.gskip (W.f rfl rfl rfl) ?_
                refine D.gskip (W.f rfl rfl rfl) ?_
                refine D.gskip (W.f rfl rfl rfl) ?_
                refine D.gskip (W.f rfl rfl rfl) ?_
                refine D.gskip (W.f rfl rfl rfl) ?_
                refine D.pu (Pu.pickF (.tmp rfl) .bool) ?_
                refine D.pu (Pu.assign (.tmp (v:=.bool _) rfl)) ?_
                refine D.nil (by kernel_rfl) ?_
                refine X.ret ?_
                cases h
                exact E.fin [] (.tmp (v:=.bool _) rfl .nil) (.cons (.cl .bool) .nil)
            · rw [if_neg c] at h
              refine D.gskip (W.f rfl rfl rfl) ?_
              refine D.gskip (W.f rfl rfl rfl) ?_
              refine D.gskip (W.f rfl rfl rfl) ?_
              refine D.gskip (W.f rfl rfl rfl) ?_
              refine D.gskip (W.f rfl rfl rfl) ?_
              refine D.pu (Pu.pickF (.tmp rfl) .bool) ?_
              refine D.pu (Pu.move (.tmp (v:=.bool _) rfl)) ?_
              refine D.gskip (W.f rfl rfl rfl) ?_
              refine D.gskip (W.f rfl rfl rfl) ?_
              refine D.gskip (W.f rfl rfl rfl) ?_
              refine D.gskip (W.f rfl rfl rfl) ?_
              refine D.pu (Pu.pickF (.tmp rfl) .bool) ?_
              refine D.pu (Pu.move (.tmp (v:=.bool _) rfl)) ?_
              refine D.gskip (W.f rfl rfl rfl) ?_
              refine D.gskip (W.f rfl rfl rfl) ?_
              refine D.gskip (W.f rfl rfl rfl) ?_
              refine D.gskip (W.f rfl rfl rfl) ?_
              refine D.gskip (W.f rfl rfl rfl) ?_
              refine D.pu (Pu.pickF (.tmp rfl) .bool) ?_
              refine D.pu (Pu.move (.tmp (v:=.bool _) rfl)) ?_
              refine D.gskip (W.f rfl rfl rfl) ?_
              refine D.gskip (W.f rfl rfl rfl) ?_
              refine D.gskip (W.f rfl rfl rfl) ?_
              refine D.gskip (W.f rfl rfl rfl) ?_
              refine D.gskip (W.f rfl rfl rfl) ?_
              refine D.gskip (W.f rfl rfl rfl) ?_
              refine D.pu (Pu.pickF (.tmp rfl) .bool) ?_
              refine D.pu (Pu.move (.tmp (v:=.bool _) rfl)) ?_
              refine D.gskip (W.f rfl rfl rfl) ?_
              refine D.gskip (W.f rfl rfl rfl) ?_
              refine D.gskip (W.f rfl rfl rfl) ?_
              refine D.gskip (W.f rfl rfl rfl) ?_
              refine D.gskip (W.f rfl rfl rfl) ?_
              refine D.gskip (W.f rfl rfl rfl) ?_
              refine D.pu (Pu.pickF (.tmp rfl) .bool) ?_
              refine D.pu (Pu.assign (.tmp (v:=.bool _) rfl)) ?_
              refine D.nil (by kernel_rfl) ?_
              refine X.ret ?_
              cases h
              exact E.fin [] (.tmp (v:=.bool _) rfl .nil) (.cons (.cl .bool) .nil)
          · rw [if_neg c] at h
            refine D.gskip (W.f rfl rfl rfl) ?_
            refine D.gskip (W.f rfl rfl rfl) ?_
            refine D.gskip (W.f rfl rfl rfl) ?_
            refine D.gskip (W.f rfl rfl rfl) ?_
            refine D.gskip (W.f rfl rfl rfl) ?_
            refine D.pu (Pu.pickF (.tmp rfl) .bool) ?_
            refine D.pu (Pu.move (.tmp (v:=.bool _) rfl)) ?_
            refine D.gskip (W.f rfl rfl rfl) ?_
            refine D.gskip (W.f rfl rfl rfl) ?_
            refine D.gskip (W.f rfl rfl rfl) ?_
            refine D.gskip (W.f rfl rfl rfl) ?_
            refine D.gskip (W.f rfl rfl rfl) ?_
            refine D.pu (Pu.pickF (.tmp rfl) .bool) ?_
            refine D.pu (Pu.move (.tmp (v:=.bool _) rfl)) ?_
            refine D.gskip (W.f rfl rfl rfl) ?_
            refine D.gskip (W.f rfl rfl rfl) ?_
            refine D.gskip (W.f rfl rfl rfl) ?_
            refine D.gskip (W.f rfl rfl rfl) ?_
            refine D.pu (Pu.pickF (.tmp rfl) .bool) ?_
            refine D.pu (Pu.move (.tmp (v:=.bool _) rfl)) ?_
            refine D.gskip (W.f rfl rfl rfl) ?_
            refine D.gskip (W.f rfl rfl rfl) ?_
            refine D.gskip (W.f rfl rfl rfl) ?_
            refine D.gskip (W.f rfl rfl rfl) ?_
            refine D.gskip (W.f rfl rfl rfl) ?_
            refine D.pu (Pu.pickF (.tmp rfl) .bool) ?_
            refine D.pu (Pu.move (.tmp (v:=.bool _) rfl)) ?_
            refine D.gskip (W.f rfl rfl rfl) ?_
            refine D.gskip (W.f rfl rfl rfl) ?_
            refine D.gskip (W.f rfl rfl rfl) ?_
            refine D.gskip (W.f rfl rfl rfl) ?_
            refine D.gskip (W.f rfl rfl rfl) ?_
            refine D.gskip (W.f rfl rfl rfl) ?_
            refine D.pu (Pu.pickF (.tmp rfl) .bool) ?_
            refine D.pu (Pu.move (.tmp (v:=.bool _) rfl)) ?_
            refine D.gskip (W.f rfl rfl rfl) ?_
            refine D.gskip (W.f rfl rfl rfl) ?_
            refine D.gskip (W.f rfl rfl rfl) ?_
            refine D.gskip (W.f rfl rfl rfl) ?_
            refine D.gskip (W.f rfl rfl rfl) ?_
            refine D.gskip (W.f rfl rfl rfl) ?_
            refine D.pu (Pu.pickF (.tmp rfl) .bool) ?_
            refine D.pu (Pu.assign (.tmp (v:=.bool _) rfl)) ?_
            refine D.nil (by kernel_rfl) ?_
            refine X.ret ?_
            cases h
            exact E.fin [] (.tmp (v:=.bool _) rfl .nil) (.cons (.cl .bool) .nil)
        · rw [if_neg c] at h
          refine D.gskip (W.f rfl rfl rfl) ?_
          refine D.gskip (W.f rfl rfl rfl) ?_
          refine D.gskip (W.f rfl rfl rfl) ?_
          refine D.gskip (W.f rfl rfl rfl) ?_
          refine D.pu (Pu.pickF (.tmp rfl) .bool) ?_
          refine D.pu (Pu.move (.tmp (v:=.bool _) rfl)) ?_
          refine D.gskip (W.f rfl rfl rfl) ?_
          refine D.gskip (W.f rfl rfl rfl) ?_
          refine D.gskip (W.f rfl rfl rfl) ?_
          refine D.gskip (W.f rfl rfl rfl) ?_
          refine D.gskip (W.f rfl rfl rfl) ?_
          refine D.pu (Pu.pickF (.tmp rfl) .bool) ?_
          refine D.pu (Pu.move (.tmp (v:=.bool _) rfl)) ?_
          refine D.gskip (W.f rfl rfl rfl) ?_
          refine D.gskip (W.f rfl rfl rfl) ?_
          refine D.gskip (W.f rfl rfl rfl) ?_
          refine D.gskip (W.f rfl rfl rfl) ?_
          refine D.gskip (W.f rfl rfl rfl) ?_
          refine D.pu (Pu.pickF (.tmp rfl) .bool) ?_
          refine D.pu (Pu.move (.tmp (v:=.bool _) rfl)) ?_
          refine D.gskip (W.f rfl rfl rfl) ?_
          refine D.gskip (W.f rfl rfl rfl) ?_
          refine D.gskip (W.f rfl rfl rfl) ?_
          refine D.gskip (W.f rfl rfl rfl) ?_
          refine D.pu (Pu.pickF (.tmp rfl) .bool) ?_
          refine D.pu (Pu.move (.tmp (v:=.bool _) rfl)) ?_
          refine D.gskip (W.f rfl rfl rfl) ?_
          refine D.gskip (W.f rfl rfl rfl) ?_
          refine D.gskip (W.f rfl rfl rfl) ?_
          refine D.gskip (W.f rfl rfl rfl) ?_
          refine D.gskip (W.f rfl rfl rfl) ?_
          refine D.pu (Pu.pickF (.tmp rfl) .bool) ?_
          refine D.pu (Pu.move (.tmp (v:=.bool _) rfl)) ?_
          refine D.gskip (W.f rfl rfl rfl) ?_
          refine D.gskip (W.f rfl rfl rfl) ?_
          refine D.gskip (W.f rfl rfl rfl) ?_
          refine D.gskip (W.f rfl rfl rfl) ?_
          refine D.gskip (W.f rfl rfl rfl) ?_
          refine D.gskip (W.f rfl rfl rfl) ?_
          refine D.pu (Pu.pickF (.tmp rfl) .bool) ?_
          refine D.pu (Pu.move (.tmp (v:=.bool _) rfl)) ?_
          refine D.gskip (W.f rfl rfl rfl) ?_
          refine D.gskip (W.f rfl rfl rfl) ?_
          refine D.gskip (W.f rfl rfl rfl) ?_
          refine D.gskip (W.f rfl rfl rfl) ?_
          refine D.gskip (W.f rfl rfl rfl) ?_
          refine D.gskip (W.f rfl rfl rfl) ?_
          refine D.pu (Pu.pickF (.tmp rfl) .bool) ?_
          refine D.pu (Pu.assign (.tmp (v:=.bool _) rfl)) ?_
          refine D.nil (by kernel_rfl) ?_
          refine X.ret ?_
          cases h
          exact E.fin [] (.tmp (v:=.bool _) rfl .nil) (.cons (.cl .bool) .nil)
      · rw [if_neg (bf c)] at h
        refine D.gskip (W.f rfl rfl rfl) ?_
        refine D.gskip (W.f rfl rfl rfl) ?_
        refine D.pu (Pu.pickF (.tmp rfl) .bool) ?_
        refine D.pu (Pu.move (.tmp (v:=.bool _) rfl)) ?_
        refine D.gskip (W.f rfl rfl rfl) ?_
        refine D.gskip (W.f rfl rfl rfl) ?_
        refine D.gskip (W.f rfl rfl rfl) ?_
        refine D.gskip (W.f rfl rfl rfl) ?_
        refine D.pu (Pu.pickF (.tmp rfl) .bool) ?_
        refine D.pu (Pu.move (.tmp (v:=.bool _) rfl)) ?_
        refine D.gskip (W.f rfl rfl rfl) ?_
        refine D.gskip (W.f rfl rfl rfl) ?_
        refine D.gskip (W.f rfl rfl rfl) ?_
        refine D.gskip (W.f rfl rfl rfl) ?_
        refine D.gskip (W.f rfl rfl rfl) ?_
        refine D.pu (Pu.pickF (.tmp rfl) .bool) ?_
        refine D.pu (Pu.move (.tmp (v:=.bool _) rfl)) ?_
        refine D.gskip (W.f rfl rfl rfl) ?_
        refine D.gskip (W.f rfl rfl rfl) ?_
        refine D.gskip (W.f rfl rfl rfl) ?_
        refine D.gskip (W.f rfl rfl rfl) ?_
        refine D.gskip (W.f rfl rfl rfl) ?_
        refine D.pu (Pu.pickF (.tmp rfl) .bool) ?_
        refine D.pu (Pu.move (.tmp (v:=.bool _) rfl)) ?_
        refine D.gskip (W.f rfl rfl rfl) ?_
        refine D.gskip (W.f rfl rfl rfl) ?_
        refine D.gskip (W.f rfl rfl rfl) ?_
        refine D.gskip (W.f rfl rfl rfl) ?_
        refine D.pu (Pu.pickF (.tmp rfl) .bool) ?_
        refine D.pu (Pu.move (.tmp (v:=.bool _) rfl)) ?_
        refine D.gskip (W.f rfl rfl rfl) ?_
        refine D.gskip (W.f rfl rfl rfl) ?_
        refine D.gskip (W.f rfl rfl rfl) ?_
        refine D.gskip (W.f rfl rfl rfl) ?_
        refine D.gskip (W.f rfl rfl rfl) ?_
        refine D.pu (Pu.pickF (.tmp rfl) .bool) ?_
        refine D.pu (Pu.move (.tmp (v:=.bool _) rfl)) ?_
        refine D.gskip (W.f rfl rfl rfl) ?_
        refine D.gskip (W.f rfl rfl rfl) ?_
        refine D.gskip (W.f rfl rfl rfl) ?_
        refine D.gskip (W.f rfl rfl rfl) ?_
        refine D.gskip (W.f rfl rfl rfl) ?_
        refine D.gskip (W.f rfl rfl rfl) ?_
        refine D.pu (Pu.pickF (.tmp rfl) .bool) ?_
        refine D.pu (Pu.move (.tmp (v:=.bool _) rfl)) ?_
        refine D.gskip (W.f rfl rfl rfl) ?_
        refine D.gskip (W.f rfl rfl rfl) ?_
        refine D.gskip (W.f rfl rfl rfl) ?_
        refine D.gskip (W.f rfl rfl rfl) ?_
        refine D.gskip (W.f rfl rfl rfl) ?_
        refine D.gskip (W.f rfl rfl rfl) ?_
        refine D.pu (Pu.pickF (.tmp rfl) .bool) ?_
        refine D.pu (Pu.assign (.tmp (v:=.bool _) rfl)) ?_
        refine D.nil (by kernel_rfl) ?_
        refine X.ret ?_
        cases h
        exact E.fin [] (.tmp (v:=.bool _) rfl .nil) (.cons (.cl .bool) .nil)
end Go.Proofs.Ytkoccekiojhidaa
end
