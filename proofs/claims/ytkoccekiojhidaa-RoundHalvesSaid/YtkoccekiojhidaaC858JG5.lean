-- Joined of: K26 G10
import Derived.Test.YtkoccekiojhidaaC858JG2
import Derived.Test.YtkoccekiojhidaaC858D
import Derived.Test.YtkoccekiojhidaaC858JG4
import Derived.Test.YtkoccekiojhidaaC858JG3
section
namespace Go.Proofs.Ytkoccekiojhidaa
open Go.AVL Go.RowKit Go.Proofs.Ytkoccekiojhidaa.F
def en26 (x:S26):AV:=.agg [.fi .u64 x.f0]
end Go.Proofs.Ytkoccekiojhidaa
end

section
namespace Go.Proofs.Ytkoccekiojhidaa
open Go.AVL Go.RowKit Go.Proofs.Ytkoccekiojhidaa.F Go.Proofs.YtkoccekiojhidaaX Go.Proofs.YtkoccekiojhidaaW.PrintWords Go.Proofs.YtkoccekiojhidaaW.PrintLast Go.Proofs.YtkoccekiojhidaaW.PrintMore
set_option linter.unusedVariables false
set_option linter.unusedSimpArgs false
set_option maxRecDepth 100000
set_option maxHeartbeats 4000000
theorem chattellaw06_RoundHalves.j0_e {k y0 y1 y2 y3 y4 y5 y6 r}:(chattellaw06_RoundHalves.j0 k y0 y1 y2 y3 y4 y5 y6=some r) = ∃ j,k=j + 1∧chattellaw06_RoundHalves.j0 (j + 1) y0 y1 y2 y3 y4 y5 y6=some r:=propext ⟨fun h=>by cases k with|zero=>(unfold chattellaw06_RoundHalves.j0 at h;cases h)|succ k=>exact ⟨k,rfl,h⟩,fun ⟨j,hj,h⟩=>by subst hj;exact h⟩
theorem chattellaw06_RoundHalves.j3_e {k y0 y1 y2 y3 y4 y5 y6 y7 y8 y9 y10 y11 y12 y13 y14 r}:(chattellaw06_RoundHalves.j3 k y0 y1 y2 y3 y4 y5 y6 y7 y8 y9 y10 y11 y12 y13 y14=some r) = ∃ j,k=j + 1∧chattellaw06_RoundHalves.j3 (j + 1) y0 y1 y2 y3 y4 y5 y6 y7 y8 y9 y10 y11 y12 y13 y14=some r:=propext ⟨fun h=>by cases k with|zero=>(unfold chattellaw06_RoundHalves.j3 at h;cases h)|succ k=>exact ⟨k,rfl,h⟩,fun ⟨j,hj,h⟩=>by subst hj;exact h⟩
theorem chattellaw06_RoundHalves.j4_e {k y0 y1 y2 y3 y4 y5 y6 y7 y8 y9 y10 y11 y12 y13 y14 r}:(chattellaw06_RoundHalves.j4 k y0 y1 y2 y3 y4 y5 y6 y7 y8 y9 y10 y11 y12 y13 y14=some r) = ∃ j,k=j + 1∧chattellaw06_RoundHalves.j4 (j + 1) y0 y1 y2 y3 y4 y5 y6 y7 y8 y9 y10 y11 y12 y13 y14=some r:=propext ⟨fun h=>by cases k with|zero=>(unfold chattellaw06_RoundHalves.j4 at h;cases h)|succ k=>exact ⟨k,rfl,h⟩,fun ⟨j,hj,h⟩=>by subst hj;exact h⟩
noncomputable def c10:Code:=Try.f10.body.getD .skip
theorem fn10:FnOk Try.prog 10 Try.f10 c10:=⟨Try.func10,rfl,by kernel_rfl,by kernel_rfl,mixed⟩
theorem chattellaw06_RoundHalves.cs {k:Nat} {l0:List Int} {l1:List Int} {a2:Bool} {r:Bool} (h:chattellaw06_RoundHalves.f k l0 l1 a2=some r):CS Try.prog 10 [.fi .u64 l0, .fi .u64 l1, .bool a2] .no [.bool r]:=by
  unfold chattellaw06_RoundHalves.f at h
  refine E.pure fn10 rfl ?_
  refine X.seq ?_
  refine X.still ?_
  refine O.pu (Pu.assign .bool) ?_
  refine O.nil ?_
  refine X.seq ?_
  refine X.still ?_
  refine O.pu (Pu.move (.tmp (v:=.fi _ _) rfl)) ?_
  refine O.pu (Pu.move (.tmp (v:=.fi _ _) rfl)) ?_
  refine O.pu (Pu.lenI rfl (.tmp rfl)) ?_
  refine O.pu (U.mn (.tmp rfl) .int) ?_
  repeat (rw [giff] at h;obtain ⟨_,h⟩:=h)
  refine O.pu (U.sliceH rfl rfl (.tmp rfl) .no (.yes (.tmp rfl) (by omega)) .no (by omega) (by omega)) ?_
  obtain ⟨q1,Hq1,h⟩:=Option.bind_eq_some_iff.1 h
  refine O.pu (U.call (ss:=[]) (.cons (.tmp (v:=.fi _ _) rfl) .nil) (.cons (.cl .fi) .nil) (nat_Of.cs Hq1) (.inl rfl) (.aggL (.cons .fi .nil))) ?_
  refine O.puE (v':=.op 7 (1) 0 0) (b':=⟨1, .own,(.vals [.agg [.fi .u64 []]]),_⟩) Pu.alloc rfl rfl ?_
  refine O.ef0 (U.storeE (.tmp rfl) rfl rfl (.tmp (v:=.agg _) rfl) rfl rfl (.whole (notBad_ne rfl) rfl) .one) ?_
  refine O.nil ?_
  refine X.seq ?_
  refine X.still ?_
  refine O.pu (Pu.move (.tmp (v:=.fi _ _) rfl)) ?_
  refine O.pu (Pu.move (.tmp (v:=.fi _ _) rfl)) ?_
  refine O.pu (Pu.lenI rfl (.tmp rfl)) ?_
  refine O.pu (U.mn (.tmp rfl) .int) ?_
  repeat (rw [giff] at h;obtain ⟨_,h⟩:=h)
  refine O.pu (U.sliceH rfl rfl (.tmp rfl) .no (.yes (.tmp rfl) (by omega)) .no (by omega) (by omega)) ?_
  obtain ⟨q2,Hq2,h⟩:=Option.bind_eq_some_iff.1 h
  refine O.pu (U.call (ss:=[]) (.cons (.tmp (v:=.fi _ _) rfl) .nil) (.cons (.cl .fi) .nil) (nat_Of.cs Hq2) (.inl rfl) (.aggL (.cons .fi .nil))) ?_
  refine O.puE (v':=.os 37 (1) 0 _ true) (b':=⟨1, .own,_,_⟩) (U.litI rfl rfl (.cons .int .nil) rfl rfl) rfl rfl ?_
  obtain ⟨q3,Hq3,h⟩:=Option.bind_eq_some_iff.1 h
  refine O.ef (U.callZ (ss:=[37]) (.cons (.tmp (v:=.os _ _ _ _ _) rfl) .nil) (.cons (.osIf (by simp) rfl (Mode.live_ne rfl) rfl (by first|rfl|(simp only [List.length_set];done)|(simp only [List.length_drop,List.length_take,List.length_append,List.length_set] at *;omega))) .nil) (nat_Of.cs Hq3) (.aggL (.cons .fi .nil)) (nowin rfl)) ?_
  obtain ⟨q4,Hq4,h⟩:=Option.bind_eq_some_iff.1 h
  refine O.pu (U.call (ss:=[]) (.cons (.tmp (v:=.agg _) rfl) (.cons (.tmp (v:=.agg _) rfl) .nil)) (.cons (.cl (.aggL (.cons .fi .nil))) (.cons (.cl (.aggL (.cons .fi .nil))) .nil)) (nat_Nat_Add.cs Hq4) (.inl rfl) (.aggL (.cons .fi .nil))) ?_
  refine O.puE (v':=.op 8 (1) 0 0) (b':=⟨1, .own,(.vals [.agg [.fi .u64 []]]),_⟩) Pu.alloc rfl rfl ?_
  refine O.ef0 (U.storeE (.tmp rfl) rfl rfl (.tmp (v:=.agg _) rfl) rfl rfl (.whole (notBad_ne rfl) rfl) .one) ?_
  refine O.nil ?_
  refine X.seq ?_
  refine X.still ?_
  refine O.puE (v':=.os 40 (1) 0 _ true) (b':=⟨1, .own,_,_⟩) (U.litI rfl rfl (.cons .int .nil) rfl rfl) rfl rfl ?_
  obtain ⟨q5,Hq5,h⟩:=Option.bind_eq_some_iff.1 h
  refine O.ef (U.callZ (ss:=[40]) (.cons (.tmp (v:=.os _ _ _ _ _) rfl) .nil) (.cons (.osIf (by simp) rfl (Mode.live_ne rfl) rfl (by first|rfl|(simp only [List.length_set];done)|(simp only [List.length_drop,List.length_take,List.length_append,List.length_set] at *;omega))) .nil) (nat_Of.cs Hq5) (.aggL (.cons .fi .nil)) (nowin rfl)) ?_
  refine O.puE (v':=.os 42 (1) 0 _ true) (b':=⟨1, .own,_,_⟩) (U.litI rfl rfl (.cons .int .nil) rfl rfl) rfl rfl ?_
  obtain ⟨q6,Hq6,h⟩:=Option.bind_eq_some_iff.1 h
  refine O.ef (U.callZ (ss:=[42]) (.cons (.tmp (v:=.os _ _ _ _ _) rfl) .nil) (.cons (.osIf (by simp) rfl (Mode.live_ne rfl) rfl (by first|rfl|(simp only [List.length_set];done)|(simp only [List.length_drop,List.length_take,List.length_append,List.length_set] at *;omega))) .nil) (nat_Of.cs Hq6) (.aggL (.cons .fi .nil)) (nowin rfl)) ?_
  refine O.puE (v':=.op 9 (1) 0 0) (b':=⟨1, .own,(.vals [.agg [.fi .u64 []]]),_⟩) Pu.alloc rfl rfl ?_
  refine O.puE (v':=.op 10 (1) 0 0) (b':=⟨1, .own,(.vals [.agg [.fi .u64 []]]),_⟩) Pu.alloc rfl rfl ?_
  refine O.ef0 (U.storeE (.tmp rfl) rfl rfl (.tmp (v:=.agg _) rfl) rfl rfl (.whole (notBad_ne rfl) rfl) .one) ?_
  refine O.ef0 (U.storeE (.tmp rfl) rfl rfl (.tmp (v:=.agg _) rfl) rfl rfl (.whole (notBad_ne rfl) rfl) .one) ?_
  refine O.nil ?_
  refine X.seq ?_
  refine X.drawn ?_
  refine D.pu (U.load (.tmp rfl) rfl rfl (U.whole rfl rfl)) ?_
  refine D.pu (U.load (.tmp rfl) rfl rfl (U.whole rfl rfl)) ?_
  obtain ⟨q7,Hq7,h⟩:=Option.bind_eq_some_iff.1 h
  refine D.pu (U.call (ss:=[]) (.cons (.tmp (v:=.agg _) rfl) (.cons (.tmp (v:=.agg _) rfl) .nil)) (.cons (.cl (.aggL (.cons .fi .nil))) (.cons (.cl (.aggL (.cons .fi .nil))) .nil)) (nat_Nat_Mul.cs Hq7) (.inl rfl) (.aggL (.cons .fi .nil))) ?_
  refine D.pu (U.load (.tmp rfl) rfl rfl (U.whole rfl rfl)) ?_
  obtain ⟨q8,Hq8,h⟩:=Option.bind_eq_some_iff.1 h
  refine D.pu (U.call (ss:=[]) (.cons (.tmp (v:=.agg _) rfl) (.cons (.tmp (v:=.agg _) rfl) .nil)) (.cons (.cl (.aggL (.cons .fi .nil))) (.cons (.cl (.aggL (.cons .fi .nil))) .nil)) (nat_Nat_Mul.cs Hq8) (.inl rfl) (.aggL (.cons .fi .nil))) ?_
  refine D.puE (v':=.op 11 (1) 0 0) (b':=⟨1, .own,(.vals [.agg [.fi .u64 []]]),_⟩) Pu.alloc rfl rfl ?_
  refine D.ef0 (C.storeE (.tmp rfl) rfl rfl (.tmp (v:=.agg _) rfl) rfl rfl (.whole (notBad_ne rfl) rfl) .one) ?_
  refine D.nil (by kernel_rfl) ?_
  refine X.seq ?_
  refine X.drawn ?_
  refine D.pu (U.load (.tmp rfl) rfl rfl (U.whole rfl rfl)) ?_
  refine D.pu (U.load (.tmp rfl) rfl rfl (U.whole rfl rfl)) ?_
  obtain ⟨q9,Hq9,h⟩:=Option.bind_eq_some_iff.1 h
  refine D.pu (U.call (ss:=[]) (.cons (.tmp (v:=.agg _) rfl) (.cons (.tmp (v:=.agg _) rfl) .nil)) (.cons (.cl (.aggL (.cons .fi .nil))) (.cons (.cl (.aggL (.cons .fi .nil))) .nil)) (nat_Nat_Mul.cs Hq9) (.inl rfl) (.aggL (.cons .fi .nil))) ?_
  refine D.pu (U.load (.tmp rfl) rfl rfl (U.whole rfl rfl)) ?_
  refine D.pu (U.load (.tmp rfl) rfl rfl (U.whole rfl rfl)) ?_
  obtain ⟨q10,Hq10,h⟩:=Option.bind_eq_some_iff.1 h
  refine D.pu (U.call (ss:=[]) (.cons (.tmp (v:=.agg _) rfl) (.cons (.tmp (v:=.agg _) rfl) .nil)) (.cons (.cl (.aggL (.cons .fi .nil))) (.cons (.cl (.aggL (.cons .fi .nil))) .nil)) (nat_Nat_Mul.cs Hq10) (.inl rfl) (.aggL (.cons .fi .nil))) ?_
  obtain ⟨q11,Hq11,h⟩:=Option.bind_eq_some_iff.1 h
  refine D.pu (U.call (ss:=[]) (.cons (.tmp (v:=.agg _) rfl) (.cons (.tmp (v:=.agg _) rfl) .nil)) (.cons (.cl (.aggL (.cons .fi .nil))) (.cons (.cl (.aggL (.cons .fi .nil))) .nil)) (nat_Nat_Add.cs Hq11) (.inl rfl) (.aggL (.cons .fi .nil))) ?_
  refine D.puE (v':=.op 12 (1) 0 0) (b':=⟨1, .own,(.vals [.agg [.fi .u64 []]]),_⟩) Pu.alloc rfl rfl ?_
  refine D.ef0 (C.storeE (.tmp rfl) rfl rfl (.tmp (v:=.agg _) rfl) rfl rfl (.whole (notBad_ne rfl) rfl) .one) ?_
  refine D.nil (by kernel_rfl) ?_
  refine X.seq ?_
  refine X.still ?_
  refine O.pu (U.load (.tmp rfl) rfl rfl (U.whole rfl rfl)) ?_
  refine O.pu (U.load (.tmp rfl) rfl rfl (U.whole rfl rfl)) ?_
  obtain ⟨q12,Hq12,h⟩:=Option.bind_eq_some_iff.1 h
  refine O.pu (U.call (ss:=[]) (.cons (.tmp (v:=.agg _) rfl) (.cons (.tmp (v:=.agg _) rfl) .nil)) (.cons (.cl (.aggL (.cons .fi .nil))) (.cons (.cl (.aggL (.cons .fi .nil))) .nil)) (nat_Nat_Sub.cs Hq12) (.inl rfl) (.tupL (.cons (.aggL (.cons .fi .nil)) (.cons .bool .nil)))) ?_
  refine O.pu (Pu.move (.tmp (v:=.tup _) rfl)) ?_
  refine O.pu (Pu.extract (.tmp rfl) rfl) ?_
  refine O.pu (Pu.extract (.tmp rfl) rfl) ?_
  refine O.puE (v':=.op 13 (1) 0 0) (b':=⟨1, .own,(.vals [.agg [.fi .u64 []]]),_⟩) Pu.alloc rfl rfl ?_
  refine O.ef0 (U.storeE (.tmp rfl) rfl rfl (.tmp (v:=.agg _) rfl) rfl rfl (.whole (notBad_ne rfl) rfl) .one) ?_
  refine O.pu (Pu.assign (.tmp (v:=.bool _) rfl)) ?_
  refine O.nil ?_
  refine X.seq ?_
  refine X.still ?_
  refine O.pu (U.load (.tmp rfl) rfl rfl (U.whole rfl rfl)) ?_
  obtain ⟨q13,Hq13,h⟩:=Option.bind_eq_some_iff.1 h
  refine O.puE (v':=.os 63 (1) 0 _ true) (b':=⟨1, .own,_,_⟩) (U.callF (ss:=[]) (.cons (.tmp (v:=.agg _) rfl) .nil) (.cons (.cl (.aggL (.cons .fi .nil))) .nil) (nat_Nat_Limbs.cs Hq13)) rfl rfl ?_
  refine O.pu (Pu.lenO rfl (.tmp rfl)) ?_
  refine O.pu (Pu.bin (.tmp rfl) .int .gtr) ?_
  refine O.pu (Pu.move (.tmp (v:=.bool _) rfl)) ?_
  refine O.splitP (fun c=>?_) (fun c=>?_)
  · rw [if_pos c] at h
    refine G.pu (W.t rfl rfl) (U.load (.tmp rfl) rfl rfl (U.whole rfl rfl)) ?_
    obtain ⟨q14,Hq14,h⟩:=Option.bind_eq_some_iff.1 h
    refine G.puE (v':=.os 68 (1) 0 _ true) (b':=⟨1, .own,_,_⟩) (W.t rfl rfl) (U.callF (ss:=[]) (.cons (.tmp (v:=.agg _) rfl) .nil) (.cons (.cl (.aggL (.cons .fi .nil))) .nil) (nat_Nat_Limbs.cs Hq14)) rfl rfl ?_
    repeat first|(rw [giff] at h;obtain ⟨_,h⟩:=h)|(rw [chattellaw06_RoundHalves.j0_e] at h;obtain ⟨k,_,h⟩:=h;unfold chattellaw06_RoundHalves.j0 at h;try dsimp only at h)
    refine G.pu (W.t rfl rfl) (U.indexO0 rfl (.tmp rfl) rfl rfl .int (by first|omega|(simp only [List.length_set] at *;omega)) (by first|omega|(simp only [List.length_set] at *;omega)) rfl rfl) ?_
    refine G.pu (W.t rfl rfl) (U.rdO (.tmp rfl) rfl rfl rfl rfl rfl) ?_
    refine G.pu (W.t rfl rfl) (Pu.bin (.tmp rfl) .int .band) ?_
    refine G.pu (W.t rfl rfl) (Pu.bin (.tmp rfl) .int .eql) ?_
    refine O.pu (Pu.pickT (.tmp rfl) (.tmp (v:=.bool _) rfl)) ?_
    refine O.pu (Pu.assign (.tmp (v:=.bool _) rfl)) ?_
    refine O.nil ?_
    refine X.seq ?_
    refine X.seq ?_
    refine X.drawn ?_
    refine D.pu (U.load (.tmp rfl) rfl rfl (U.whole rfl rfl)) ?_
    refine D.pu (U.load (.tmp rfl) rfl rfl (U.whole rfl rfl)) ?_
    refine D.pu (U.load (.tmp rfl) rfl rfl (U.whole rfl rfl)) ?_
    refine D.pu (U.load (.tmp rfl) rfl rfl (U.whole rfl rfl)) ?_
    obtain ⟨q15,Hq15,h⟩:=Option.bind_eq_some_iff.1 h
    refine D.pu (U.call (ss:=[]) (.cons (.tmp (v:=.agg _) rfl) (.cons (.tmp (v:=.agg _) rfl) .nil)) (.cons (.cl (.aggL (.cons .fi .nil))) (.cons (.cl (.aggL (.cons .fi .nil))) .nil)) (nat_Nat_Add.cs Hq15) (.inl rfl) (.aggL (.cons .fi .nil))) ?_
    refine D.puE (v':=.os 79 (1) 0 _ true) (b':=⟨1, .own,_,_⟩) (U.litS (en:=en26) (l:=[⟨_⟩,⟨_⟩,⟨_⟩]) rfl (.cons (.tmp (v:=.agg _) rfl) rfl (.cons (.tmp (v:=.agg _) rfl) rfl (.cons (.tmp (v:=.agg _) rfl) rfl .nil))) rfl rfl rfl (fun _=>rfl)) rfl rfl ?_
    refine D.pu (Pu.lenO rfl (.tmp rfl)) ?_
    refine D.pu (Pu.move .int) ?_
    refine D.nil (by kernel_rfl) ?_
    refine X.block ?_
    repeat rw [bdff] at h
    refine X.inv (fun k s=>∃ x2 x15 x79 x80 x81 x2254000 x2281000 x2289000 n79 u10 u11 u12 u13 u7 u79 u8 u9 z10_0 z12_0 z13_0 z8_0,s.t 2 = .bool x2∧s.t 15 = .bool x15∧s.b 79=⟨u79, .own, .vals (List.map en26 x79),26⟩∧s.t 79 = .os 79 u79 0 n79 true∧x79.length=n79∧s.t 80 = .int .i64 x80∧s.t 81 = .int .i64 x81∧s.t 7 = .op 7 u7 0 0∧s.b 7=⟨u7, .own, .vals [.agg [.fi .u64 x2254000]],26⟩∧s.t 8 = .op 8 u8 0 0∧s.b 8=⟨u8, .own, .vals [.agg [.fi .u64 z8_0]],26⟩∧s.t 9 = .op 9 u9 0 0∧s.b 9=⟨u9, .own, .vals [.agg [.fi .u64 x2281000]],26⟩∧s.t 10 = .op 10 u10 0 0∧s.b 10=⟨u10, .own, .vals [.agg [.fi .u64 z10_0]],26⟩∧s.t 11 = .op 11 u11 0 0∧s.b 11=⟨u11, .own, .vals [.agg [.fi .u64 x2289000]],26⟩∧s.t 12 = .op 12 u12 0 0∧s.b 12=⟨u12, .own, .vals [.agg [.fi .u64 z12_0]],26⟩∧s.t 13 = .op 13 u13 0 0∧s.b 13=⟨u13, .own, .vals [.agg [.fi .u64 z13_0]],26⟩∧chattellaw06_RoundHalves.l0 k x2 x15 x79 x80 x81 x2254000 x2281000 x2289000=some r) ?_ ?_ ⟨_,_,_,_,_,_,_,_,_,_,_,_,_,_,_,_,_,_,_,_,_,rfl,rfl,rfl,rfl,rfl,rfl,rfl,rfl,rfl,rfl,rfl,rfl,rfl,rfl,rfl,rfl,rfl,rfl,rfl,rfl,rfl,h⟩
    · rintro s ⟨_,_,_,_,_,_,_,_,_,_,_,_,_,_,_,_,_,_,_,_,_,_,_,_,_,_,_,_,_,_,_,_,_,_,_,_,_,_,_,_,_,_,h⟩;unfold chattellaw06_RoundHalves.l0 at h;cases h
    · rintro k1 s1 ⟨x2,x15,x79,x80,x81,x2254000,x2281000,x2289000,n79,u10,u11,u12,u13,u7,u79,u8,u9,z10_0,z12_0,z13_0,z8_0,e0,e1,e2,e3,rfl,e5,e6,e7,e8,e9,e10,e11,e12,e13,e14,e15,e16,e17,e18,e19,e20,h⟩
      unfold chattellaw06_RoundHalves.l0 at h
      rw [St.fixT e0,St.fixT e1,St.fixB e2,St.fixT e3,St.fixT e5,St.fixT e6,St.fixT e7,St.fixB e8,St.fixT e9,St.fixB e10,St.fixT e11,St.fixB e12,St.fixT e13,St.fixB e14,St.fixT e15,St.fixB e16,St.fixT e17,St.fixB e18,St.fixT e19,St.fixB e20]
      refine X.seq ?_
      refine X.still ?_
      refine O.pu (Pu.bin (.tmp rfl) (.tmp rfl) .lss) ?_
      refine O.nil ?_
      refine X.seq ?_
      refine X.condP (.tmp rfl) (fun c=>?_) (fun c=>?_)
      · rw [if_pos c] at h
        refine X.skip ?_
        refine X.seq ?_
        refine X.block ?_
        refine X.seq ?_
        refine X.still ?_
        refine O.pu (Pu.move (.tmp (v:=.int _ _) rfl)) ?_
        repeat (rw [giff] at h;obtain ⟨_,h⟩:=h)
        refine O.pu (U.indexVG z26 rfl (.tmp rfl) rfl (.tmp rfl) (by omega) (by omega) (by first|rfl|(simp only [List.length_set];done)|(simp only [List.length_drop,List.length_take,List.length_append,List.length_set] at *;omega)) (fun _=>⟨rfl,rfl⟩)) ?_
        refine O.pu (U.rdVG z26 (.tmp rfl) rfl (fun _=>U.whole rfl rfl) (by omega) (by omega)) ?_
        refine O.puE (v':=.op 17 ((s1.b 17).ver + 1) 0 0) (b':=⟨(s1.b 17).ver + 1, .own,(.vals [.agg [.fi .u64 []]]),_⟩) Pu.alloc rfl rfl ?_
        refine O.pu (Pu.assign (.tmp (v:=.int _ _) rfl)) ?_
        refine O.ef0 (U.storeE (.tmp rfl) rfl rfl (.tmp (v:=.agg _) rfl) rfl rfl (.whole (notBad_ne rfl) rfl) .one) ?_
        refine O.nil ?_
        refine X.seq ?_
        refine X.drawn ?_
        refine D.pu (U.load (.tmp rfl) rfl rfl (U.whole rfl rfl)) ?_
        refine D.pu (Pu.move (.tmp (v:=.bool _) rfl)) ?_
        obtain ⟨q16,Hq16,h⟩:=Option.bind_eq_some_iff.1 h
        refine D.pu (U.call (ss:=[]) (.cons (.tmp (v:=.agg _) rfl) (.cons (.tmp (v:=.bool _) rfl) .nil)) (.cons (.cl (.aggL (.cons .fi .nil))) (.cons (.cl .bool) .nil)) (whole_Of.cs Hq16) (.inl rfl) (.aggL (.cons .fi (.cons .bool .nil)))) ?_
        refine D.pu (U.load (.tmp rfl) rfl rfl (U.whole rfl rfl)) ?_
        obtain ⟨q17,Hq17,h⟩:=Option.bind_eq_some_iff.1 h
        refine D.pu (U.call (ss:=[]) (.cons (.tmp (v:=.agg _) rfl) (.cons .bool .nil)) (.cons (.cl (.aggL (.cons .fi .nil))) (.cons (.cl .bool) .nil)) (whole_Of.cs Hq17) (.inl rfl) (.aggL (.cons .fi (.cons .bool .nil)))) ?_
        obtain ⟨q18,Hq18,h⟩:=Option.bind_eq_some_iff.1 h
        refine D.pu (U.call (ss:=[]) (.cons (.tmp (v:=.agg _) rfl) (.cons (.tmp (v:=.agg _) rfl) .nil)) (.cons (.cl (.aggL (.cons .fi (.cons .bool .nil)))) (.cons (.cl (.aggL (.cons .fi (.cons .bool .nil)))) .nil)) (frac_Of.cs Hq18) (.inl rfl) (.tupL (.cons (.aggL (.cons .fi (.cons .bool (.cons .fi .nil)))) (.cons .int .nil)))) ?_
        refine D.pu (Pu.move (.tmp (v:=.tup _) rfl)) ?_
        refine D.pu (Pu.extract (.tmp rfl) rfl) ?_
        refine D.pu (Pu.extract (.tmp rfl) rfl) ?_
        refine D.puE (v':=.op 18 ((s1.b 18).ver + 1) 0 0) (b':=⟨(s1.b 18).ver + 1, .own,(.vals [.agg [.fi .u64 [], .bool false, .fi .u64 []]]),_⟩) Pu.alloc rfl rfl ?_
        refine D.ef0 (C.storeE (.tmp rfl) rfl rfl (.tmp (v:=.agg _) rfl) rfl rfl (.whole (notBad_ne rfl) rfl) .one) ?_
        refine D.pu (Pu.assign (.tmp (v:=.int _ _) rfl)) ?_
        refine D.nil (by kernel_rfl) ?_
        refine X.seq ?_
        refine X.seq ?_
        refine X.still ?_
        refine O.pu (Pu.move (.tmp (v:=.int _ _) rfl)) ?_
        refine O.pu (Pu.bin (.tmp rfl) .int .neq) ?_
        refine O.nil ?_
        refine X.condN (.tmp rfl) (fun c=>?_) (fun c=>?_)
        · rw [if_neg c] at h
          refine X.seq ?_
          refine X.still ?_
          refine O.pu (Pu.assign .bool) ?_
          refine O.nil ?_
          refine X.ret ?_
          cases h
          exact E.fin [] (.tmp (v:=.bool _) rfl .nil) (.cons (.cl .bool) .nil)
        · rw [if_pos c] at h
          refine X.skip ?_
          refine X.seq ?_
          refine X.still ?_
          refine O.pu (Pu.move .int) ?_
          refine O.nil ?_
          refine X.block ?_
          refine X.inv (fun k s=>k≤k1∧∃ x2 x15 x16 x79 x80 x81 x97 x2254000 x2281000 x2289000 x2337000 x2337001 x2337002 n79 u10 u11 u12 u13 u17 u18 u7 u79 u8 u9 z10_0 z12_0 z13_0 z17_0 z8_0,s.t 2 = .bool x2∧s.t 15 = .bool x15∧s.t 16 = .int .i64 x16∧s.b 79=⟨u79, .own, .vals (List.map en26 x79),26⟩∧s.t 79 = .os 79 u79 0 n79 true∧x79.length=n79∧s.t 80 = .int .i64 x80∧s.t 81 = .int .i64 x81∧s.t 97 = .int .i64 x97∧s.t 7 = .op 7 u7 0 0∧s.b 7=⟨u7, .own, .vals [.agg [.fi .u64 x2254000]],26⟩∧s.t 8 = .op 8 u8 0 0∧s.b 8=⟨u8, .own, .vals [.agg [.fi .u64 z8_0]],26⟩∧s.t 9 = .op 9 u9 0 0∧s.b 9=⟨u9, .own, .vals [.agg [.fi .u64 x2281000]],26⟩∧s.t 10 = .op 10 u10 0 0∧s.b 10=⟨u10, .own, .vals [.agg [.fi .u64 z10_0]],26⟩∧s.t 11 = .op 11 u11 0 0∧s.b 11=⟨u11, .own, .vals [.agg [.fi .u64 x2289000]],26⟩∧s.t 12 = .op 12 u12 0 0∧s.b 12=⟨u12, .own, .vals [.agg [.fi .u64 z12_0]],26⟩∧s.t 13 = .op 13 u13 0 0∧s.b 13=⟨u13, .own, .vals [.agg [.fi .u64 z13_0]],26⟩∧s.t 17 = .op 17 u17 0 0∧s.b 17=⟨u17, .own, .vals [.agg [.fi .u64 z17_0]],26⟩∧s.t 18 = .op 18 u18 0 0∧s.b 18=⟨u18, .own, .vals [.agg [.fi .u64 x2337000, .bool x2337001, .fi .u64 x2337002]],30⟩∧chattellaw06_RoundHalves.l1 k x2 x15 x16 x79 x80 x81 x97 x2254000 x2281000 x2289000 x2337000 x2337001 x2337002=some r) ?_ ?_ ⟨(by omega),_,_,_,_,_,_,_,_,_,_,_,_,_,_,_,_,_,_,_,_,_,_,_,_,_,_,_,_,_,rfl,rfl,rfl,rfl,rfl,(by first|rfl|(simp only [List.length_set];done)|(simp only [List.length_drop,List.length_take,List.length_append,List.length_set] at *;omega)),rfl,rfl,rfl,rfl,rfl,rfl,rfl,rfl,rfl,rfl,rfl,rfl,rfl,rfl,rfl,rfl,rfl,rfl,rfl,rfl,rfl,h⟩
          · rintro s ⟨_,_,_,_,_,_,_,_,_,_,_,_,_,_,_,_,_,_,_,_,_,_,_,_,_,_,_,_,_,_,_,_,_,_,_,_,_,_,_,_,_,_,_,_,_,_,_,_,_,_,_,_,_,_,_,_,_,h⟩;unfold chattellaw06_RoundHalves.l1 at h;cases h
          · rintro k2 s2 ⟨kl2,x2,x15,x16,x79,x80,x81,x97,x2254000,x2281000,x2289000,x2337000,x2337001,x2337002,n79,u10,u11,u12,u13,u17,u18,u7,u79,u8,u9,z10_0,z12_0,z13_0,z17_0,z8_0,e0,e1,e2,e3,e4,rfl,e6,e7,e8,e9,e10,e11,e12,e13,e14,e15,e16,e17,e18,e19,e20,e21,e22,e23,e24,e25,e26,h⟩
            unfold chattellaw06_RoundHalves.l1 at h
            rw [St.fixT e0,St.fixT e1,St.fixT e2,St.fixB e3,St.fixT e4,St.fixT e6,St.fixT e7,St.fixT e8,St.fixT e9,St.fixB e10,St.fixT e11,St.fixB e12,St.fixT e13,St.fixB e14,St.fixT e15,St.fixB e16,St.fixT e17,St.fixB e18,St.fixT e19,St.fixB e20,St.fixT e21,St.fixB e22,St.fixT e23,St.fixB e24,St.fixT e25,St.fixB e26]
            refine X.seq ?_
            refine X.still ?_
            refine O.pu (Pu.bin (.tmp rfl) .int .lss) ?_
            refine O.nil ?_
            refine X.seq ?_
            refine X.condP (.tmp rfl) (fun c=>?_) (fun c=>?_)
            · rw [if_pos c] at h
              refine X.skip ?_
              refine X.seq ?_
              refine X.block ?_
              refine X.seq ?_
              refine X.still ?_
              refine O.pu (Pu.move (.tmp (v:=.int _ _) rfl)) ?_
              refine O.pu (Pu.assign (.tmp (v:=.int _ _) rfl)) ?_
              refine O.nil ?_
              refine X.seq ?_
              refine X.still ?_
              refine O.pu (Pu.move (.tmp (v:=.int _ _) rfl)) ?_
              refine O.pu (Pu.bin (.tmp rfl) .int .eql) ?_
              refine O.pu (Pu.move (.tmp (v:=.bool _) rfl)) ?_
              refine O.splitE (fun c=>?_) (fun c=>?_)
              · rw [if_pos c] at h
                refine G.skip (W.f rfl rfl rfl) ?_
                refine G.skip (W.f rfl rfl rfl) ?_
                refine G.skipN (b:=true) (W.f rfl rfl rfl) ?_
                refine G.skip (W.n rfl rfl) ?_
                refine G.skip (W.n rfl rfl) ?_
                refine G.skip (W.f rfl rfl rfl) ?_
                refine O.pu (Pu.pickT (.tmp rfl) .bool) ?_
                refine O.pu (Pu.move (.tmp (v:=.bool _) rfl)) ?_
                refine G.skip (W.f rfl rfl rfl) ?_
                refine G.skip (W.f rfl rfl rfl) ?_
                refine G.skipN (b:=true) (W.f rfl rfl rfl) ?_
                refine G.skip (W.n rfl rfl) ?_
                refine G.skip (W.n rfl rfl) ?_
                refine G.skipN (b:=false) (W.n rfl rfl) ?_
                refine G.skip (W.n rfl rfl) ?_
                refine G.skip (W.n rfl rfl) ?_
                refine G.skipN (b:=true) (W.n rfl rfl) ?_
                refine G.skip (W.n rfl rfl) ?_
                refine G.skip (W.n rfl rfl) ?_
                refine G.skip (W.n rfl rfl) ?_
                refine G.skip (W.f rfl rfl rfl) ?_
                refine O.pu (Pu.pickT (.tmp rfl) .bool) ?_
                refine O.pu (Pu.assign (.tmp (v:=.bool _) rfl)) ?_
                refine O.nil ?_
                refine X.seq ?_
                refine X.still ?_
                refine O.pu (U.load (.tmp rfl) rfl rfl (U.whole rfl rfl)) ?_
                refine O.puE (v':=.op 22 ((s2.b 22).ver + 1) 0 0) (b':=⟨(s2.b 22).ver + 1, .own,(.vals [.agg [.fi .u64 []]]),_⟩) Pu.alloc rfl rfl ?_
                refine O.ef0 (U.storeE (.tmp rfl) rfl rfl (.tmp (v:=.agg _) rfl) rfl rfl (.whole (notBad_ne rfl) rfl) .one) ?_
                refine O.nil ?_
                refine X.seq ?_
                refine X.seq ?_
                refine X.still ?_
                refine O.pu (Pu.move (.tmp (v:=.bool _) rfl)) ?_
                refine O.nil ?_
                repeat (rw [chattellaw06_RoundHalves.j3_e] at h;obtain ⟨k,_,h⟩:=h;unfold chattellaw06_RoundHalves.j3 at h;try dsimp only at h)
                rw [if_pos rfl] at h
                refine X.condT (.tmp rfl) ?_
                refine X.still ?_
                refine O.pu (U.load (.tmp rfl) rfl rfl (U.whole rfl rfl)) ?_
                refine O.pu (U.load (.tmp rfl) rfl rfl (U.whole rfl rfl)) ?_
                obtain ⟨q19,Hq19,h⟩:=Option.bind_eq_some_iff.1 h
                refine O.pu (U.call (ss:=[]) (.cons (.tmp (v:=.agg _) rfl) (.cons (.tmp (v:=.agg _) rfl) .nil)) (.cons (.cl (.aggL (.cons .fi .nil))) (.cons (.cl (.aggL (.cons .fi .nil))) .nil)) (nat_Nat_Add.cs Hq19) (.inl rfl) (.aggL (.cons .fi .nil))) ?_
                refine O.ef0 (U.storeE (.tmp rfl) rfl rfl (.tmp (v:=.agg _) rfl) rfl rfl (.whole (notBad_ne rfl) rfl) .one) ?_
                refine O.nil ?_
                refine X.seq ?_
                refine X.still ?_
                refine O.pu (U.load (.tmp rfl) rfl rfl (U.whole rfl rfl)) ?_
                refine O.pu (Pu.move (.tmp (v:=.int _ _) rfl)) ?_
                repeat (rw [chattellaw06_RoundHalves.j4_e] at h;obtain ⟨k,_,h⟩:=h;unfold chattellaw06_RoundHalves.j4 at h;try dsimp only at h)
                obtain ⟨q20,Hq20,h⟩:=Option.bind_eq_some_iff.1 h
                refine O.pu (U.call (ss:=[]) (.cons (.tmp (v:=.agg _) rfl) (.cons (.tmp (v:=.int _ _) rfl) .nil)) (.cons (.cl (.aggL (.cons .fi (.cons .bool (.cons .fi .nil))))) (.cons (.cl .int) .nil)) (round_Whole.cs Hq20) (.inl rfl) (.tupL (.cons (.aggL (.cons .fi (.cons .bool .nil))) (.cons .int .nil)))) ?_
                refine O.pu (Pu.move (.tmp (v:=.tup _) rfl)) ?_
                refine O.pu (Pu.extract (.tmp rfl) rfl) ?_
                refine O.pu (Pu.extract (.tmp rfl) rfl) ?_
                refine O.puE (v':=.op 23 ((s2.b 23).ver + 1) 0 0) (b':=⟨(s2.b 23).ver + 1, .own,(.vals [.agg [.fi .u64 [], .bool false]]),_⟩) Pu.alloc rfl rfl ?_
                refine O.ef0 (U.storeE (.tmp rfl) rfl rfl (.tmp (v:=.agg _) rfl) rfl rfl (.whole (notBad_ne rfl) rfl) .one) ?_
                refine O.pu (Pu.assign (.tmp (v:=.int _ _) rfl)) ?_
                refine O.nil ?_
                refine X.seq ?_
                refine X.drawn ?_
                refine D.pu (Pu.move (.tmp (v:=.int _ _) rfl)) ?_
                refine D.pu (Pu.bin (.tmp rfl) .int .neq) ?_
                refine D.pu (Pu.move (.tmp (v:=.bool _) rfl)) ?_
                refine D.splitN (fun c=>?_) (fun c=>?_)
                · rw [if_neg c] at h
                  refine D.gskip (W.f rfl rfl rfl) ?_
                  refine D.gskip (W.f rfl rfl rfl) ?_
                  refine D.gskip (W.f rfl rfl rfl) ?_
                  refine D.gskip (W.f rfl rfl rfl) ?_
                  refine D.gskip (W.f rfl rfl rfl) ?_
                  refine D.gskip (W.f rfl rfl rfl) ?_
                  refine D.pu (Pu.pickT (.tmp rfl) .bool) ?_
                  refine D.nil (by kernel_rfl) ?_
                  refine X.condT (.tmp rfl) ?_
                  refine X.seq ?_
                  refine X.still ?_
                  refine O.pu (Pu.assign .bool) ?_
                  refine O.nil ?_
                  refine X.ret ?_
                  cases h
                  exact E.fin [] (.tmp (v:=.bool _) rfl .nil) (.cons (.cl .bool) .nil)
                · rw [if_pos c] at h
                  refine D.gpu (W.t rfl rfl) (U.load (.tmp rfl) rfl rfl (U.whole rfl rfl)) ?_
                  refine D.gpu (W.t rfl rfl) (U.load (.tmp rfl) rfl rfl (U.whole rfl rfl)) ?_
                  refine D.gpu (W.t rfl rfl) (Pu.move (.tmp (v:=.bool _) rfl)) ?_
                  obtain ⟨q21,Hq21,h⟩:=Option.bind_eq_some_iff.1 h
                  refine D.gpu (W.t rfl rfl) (U.call (ss:=[]) (.cons (.tmp (v:=.agg _) rfl) (.cons (.tmp (v:=.bool _) rfl) .nil)) (.cons (.cl (.aggL (.cons .fi .nil))) (.cons (.cl .bool) .nil)) (whole_Of.cs Hq21) (.inl rfl) (.aggL (.cons .fi (.cons .bool .nil)))) ?_
                  obtain ⟨q22,Hq22,h⟩:=Option.bind_eq_some_iff.1 h
                  refine D.gpu (W.t rfl rfl) (U.call (ss:=[]) (.cons (.tmp (v:=.agg _) rfl) (.cons (.tmp (v:=.agg _) rfl) .nil)) (.cons (.cl (.aggL (.cons .fi (.cons .bool .nil)))) (.cons (.cl (.aggL (.cons .fi (.cons .bool .nil)))) .nil)) (whole_Int_Cmp.cs Hq22) (.inl rfl) (.int)) ?_
                  refine D.gpu (W.t rfl rfl) (Pu.bin (.tmp rfl) .int .neq) ?_
                  refine D.pu (Pu.pickF (.tmp rfl) (.tmp (v:=.bool _) rfl)) ?_
                  refine D.nil (by kernel_rfl) ?_
                  refine X.condN (.tmp rfl) (fun c=>?_) (fun c=>?_)
                  · rw [if_neg c] at h
                    refine X.seq ?_
                    refine X.still ?_
                    refine O.pu (Pu.assign .bool) ?_
                    refine O.nil ?_
                    refine X.ret ?_
                    cases h
                    exact E.fin [] (.tmp (v:=.bool _) rfl .nil) (.cons (.cl .bool) .nil)
                  · rw [if_pos c] at h
                    refine X.skip ?_
                    refine X.still ?_
                    refine O.pu (Pu.bin (.tmp rfl) .int U.add64) ?_
                    refine O.pu (Pu.move (.tmp (v:=.int _ _) rfl)) ?_
                    refine O.nil ?_
                    exact ⟨_,(by omega),(by omega),_,_,_,_,_,_,_,_,_,_,_,_,_,_,_,_,_,_,_,_,_,_,_,_,_,_,_,_,_,rfl,rfl,rfl,rfl,rfl,(by first|rfl|(simp only [List.length_set];done)|(simp only [List.length_drop,List.length_take,List.length_append,List.length_set] at *;omega)),rfl,rfl,rfl,rfl,rfl,rfl,rfl,rfl,rfl,rfl,rfl,rfl,rfl,rfl,rfl,rfl,rfl,rfl,rfl,rfl,rfl,h⟩
              · rw [if_neg c] at h
                refine G.pu (W.t rfl rfl) (Pu.move (.tmp (v:=.int _ _) rfl)) ?_
                refine G.pu (W.t rfl rfl) (Pu.bin (.tmp rfl) .int .neq) ?_
                refine G.pu (W.t rfl rfl) (Pu.move (.tmp (v:=.bool _) rfl)) ?_
                refine O.splitN (fun c=>?_) (fun c=>?_)
                · rw [if_neg c] at h
                  refine G.pu (W.t rfl rfl) (Pu.move (.tmp (v:=.int _ _) rfl)) ?_
                  refine G.pu (W.t rfl rfl) (Pu.bin (.tmp rfl) .int .eql) ?_
                  refine G.pu (W.t rfl rfl) (Pu.pickT (.tmp rfl) (.tmp (v:=.bool _) rfl)) ?_
                  refine O.pu (Pu.pickF (.tmp rfl) (.tmp (v:=.bool _) rfl)) ?_
                  refine O.pu (Pu.move (.tmp (v:=.bool _) rfl)) ?_
                  refine O.splitE (fun c=>?_) (fun c=>?_)
                  · rw [if_pos c] at h
                    refine G.skip (W.f rfl rfl rfl) ?_
                    refine G.skip (W.f rfl rfl rfl) ?_
                    refine G.skipN (b:=true) (W.f rfl rfl rfl) ?_
                    refine G.skip (W.n rfl rfl) ?_
                    refine G.skip (W.n rfl rfl) ?_
                    refine G.skipN (b:=false) (W.n rfl rfl) ?_
                    refine G.skip (W.n rfl rfl) ?_
                    refine G.skip (W.n rfl rfl) ?_
                    refine G.skipN (b:=true) (W.n rfl rfl) ?_
                    refine G.skip (W.n rfl rfl) ?_
                    refine G.skip (W.n rfl rfl) ?_
                    refine G.skip (W.n rfl rfl) ?_
                    refine G.skip (W.f rfl rfl rfl) ?_
                    refine O.pu (Pu.pickT (.tmp rfl) .bool) ?_
                    refine O.pu (Pu.assign (.tmp (v:=.bool _) rfl)) ?_
                    refine O.nil ?_
                    refine X.seq ?_
                    refine X.still ?_
                    refine O.pu (U.load (.tmp rfl) rfl rfl (U.whole rfl rfl)) ?_
                    refine O.puE (v':=.op 22 ((s2.b 22).ver + 1) 0 0) (b':=⟨(s2.b 22).ver + 1, .own,(.vals [.agg [.fi .u64 []]]),_⟩) Pu.alloc rfl rfl ?_
                    refine O.ef0 (U.storeE (.tmp rfl) rfl rfl (.tmp (v:=.agg _) rfl) rfl rfl (.whole (notBad_ne rfl) rfl) .one) ?_
                    refine O.nil ?_
                    refine X.seq ?_
                    refine X.seq ?_
                    refine X.still ?_
                    refine O.pu (Pu.move (.tmp (v:=.bool _) rfl)) ?_
                    refine O.nil ?_
                    repeat (rw [chattellaw06_RoundHalves.j3_e] at h;obtain ⟨k,_,h⟩:=h;unfold chattellaw06_RoundHalves.j3 at h;try dsimp only at h)
                    rw [if_pos rfl] at h
                    refine X.condT (.tmp rfl) ?_
                    refine X.still ?_
                    refine O.pu (U.load (.tmp rfl) rfl rfl (U.whole rfl rfl)) ?_
                    refine O.pu (U.load (.tmp rfl) rfl rfl (U.whole rfl rfl)) ?_
                    obtain ⟨q23,Hq23,h⟩:=Option.bind_eq_some_iff.1 h
                    refine O.pu (U.call (ss:=[]) (.cons (.tmp (v:=.agg _) rfl) (.cons (.tmp (v:=.agg _) rfl) .nil)) (.cons (.cl (.aggL (.cons .fi .nil))) (.cons (.cl (.aggL (.cons .fi .nil))) .nil)) (nat_Nat_Add.cs Hq23) (.inl rfl) (.aggL (.cons .fi .nil))) ?_
                    refine O.ef0 (U.storeE (.tmp rfl) rfl rfl (.tmp (v:=.agg _) rfl) rfl rfl (.whole (notBad_ne rfl) rfl) .one) ?_
                    refine O.nil ?_
                    refine X.seq ?_
                    refine X.still ?_
                    refine O.pu (U.load (.tmp rfl) rfl rfl (U.whole rfl rfl)) ?_
                    refine O.pu (Pu.move (.tmp (v:=.int _ _) rfl)) ?_
                    repeat (rw [chattellaw06_RoundHalves.j4_e] at h;obtain ⟨k,_,h⟩:=h;unfold chattellaw06_RoundHalves.j4 at h;try dsimp only at h)
                    obtain ⟨q24,Hq24,h⟩:=Option.bind_eq_some_iff.1 h
                    refine O.pu (U.call (ss:=[]) (.cons (.tmp (v:=.agg _) rfl) (.cons (.tmp (v:=.int _ _) rfl) .nil)) (.cons (.cl (.aggL (.cons .fi (.cons .bool (.cons .fi .nil))))) (.cons (.cl .int) .nil)) (round_Whole.cs Hq24) (.inl rfl) (.tupL (.cons (.aggL (.cons .fi (.cons .bool .nil))) (.cons .int .nil)))) ?_
                    refine O.pu (Pu.move (.tmp (v:=.tup _) rfl)) ?_
                    refine O.pu (Pu.extract (.tmp rfl) rfl) ?_
                    refine O.pu (Pu.extract (.tmp rfl) rfl) ?_
                    refine O.puE (v':=.op 23 ((s2.b 23).ver + 1) 0 0) (b':=⟨(s2.b 23).ver + 1, .own,(.vals [.agg [.fi .u64 [], .bool false]]),_⟩) Pu.alloc rfl rfl ?_
                    refine O.ef0 (U.storeE (.tmp rfl) rfl rfl (.tmp (v:=.agg _) rfl) rfl rfl (.whole (notBad_ne rfl) rfl) .one) ?_
                    refine O.pu (Pu.assign (.tmp (v:=.int _ _) rfl)) ?_
                    refine O.nil ?_
                    refine X.seq ?_
                    refine X.drawn ?_
                    refine D.pu (Pu.move (.tmp (v:=.int _ _) rfl)) ?_
                    refine D.pu (Pu.bin (.tmp rfl) .int .neq) ?_
                    refine D.pu (Pu.move (.tmp (v:=.bool _) rfl)) ?_
                    refine D.splitN (fun c=>?_) (fun c=>?_)
                    · rw [if_neg c] at h
                      refine D.gskip (W.f rfl rfl rfl) ?_
                      refine D.gskip (W.f rfl rfl rfl) ?_
                      refine D.gskip (W.f rfl rfl rfl) ?_
                      refine D.gskip (W.f rfl rfl rfl) ?_
                      refine D.gskip (W.f rfl rfl rfl) ?_
                      refine D.gskip (W.f rfl rfl rfl) ?_
                      refine D.pu (Pu.pickT (.tmp rfl) .bool) ?_
                      refine D.nil (by kernel_rfl) ?_
                      refine X.condT (.tmp rfl) ?_
                      refine X.seq ?_
                      refine X.still ?_
                      refine O.pu (Pu.assign .bool) ?_
                      refine O.nil ?_
                      refine X.ret ?_
                      cases h
                      exact E.fin [] (.tmp (v:=.bool _) rfl .nil) (.cons (.cl .bool) .nil)
                    · rw [if_pos c] at h
                      refine D.gpu (W.t rfl rfl) (U.load (.tmp rfl) rfl rfl (U.whole rfl rfl)) ?_
                      refine D.gpu (W.t rfl rfl) (U.load (.tmp rfl) rfl rfl (U.whole rfl rfl)) ?_
                      refine D.gpu (W.t rfl rfl) (Pu.move (.tmp (v:=.bool _) rfl)) ?_
                      obtain ⟨q25,Hq25,h⟩:=Option.bind_eq_some_iff.1 h
                      refine D.gpu (W.t rfl rfl) (U.call (ss:=[]) (.cons (.tmp (v:=.agg _) rfl) (.cons (.tmp (v:=.bool _) rfl) .nil)) (.cons (.cl (.aggL (.cons .fi .nil))) (.cons (.cl .bool) .nil)) (whole_Of.cs Hq25) (.inl rfl) (.aggL (.cons .fi (.cons .bool .nil)))) ?_
                      obtain ⟨q26,Hq26,h⟩:=Option.bind_eq_some_iff.1 h
                      refine D.gpu (W.t rfl rfl) (U.call (ss:=[]) (.cons (.tmp (v:=.agg _) rfl) (.cons (.tmp (v:=.agg _) rfl) .nil)) (.cons (.cl (.aggL (.cons .fi (.cons .bool .nil)))) (.cons (.cl (.aggL (.cons .fi (.cons .bool .nil)))) .nil)) (whole_Int_Cmp.cs Hq26) (.inl rfl) (.int)) ?_
                      refine D.gpu (W.t rfl rfl) (Pu.bin (.tmp rfl) .int .neq) ?_
                      refine D.pu (Pu.pickF (.tmp rfl) (.tmp (v:=.bool _) rfl)) ?_
                      refine D.nil (by kernel_rfl) ?_
                      refine X.condN (.tmp rfl) (fun c=>?_) (fun c=>?_)
                      · rw [if_neg c] at h
                        refine X.seq ?_
                        refine X.still ?_
                        refine O.pu (Pu.assign .bool) ?_
                        refine O.nil ?_
                        refine X.ret ?_
                        cases h
                        exact E.fin [] (.tmp (v:=.bool _) rfl .nil) (.cons (.cl .bool) .nil)
                      · rw [if_pos c] at h
                        refine X.skip ?_
                        refine X.still ?_
                        refine O.pu (Pu.bin (.tmp rfl) .int U.add64) ?_
                        refine O.pu (Pu.move (.tmp (v:=.int _ _) rfl)) ?_
                        refine O.nil ?_
                        exact ⟨_,(by omega),(by omega),_,_,_,_,_,_,_,_,_,_,_,_,_,_,_,_,_,_,_,_,_,_,_,_,_,_,_,_,_,rfl,rfl,rfl,rfl,rfl,(by first|rfl|(simp only [List.length_set];done)|(simp only [List.length_drop,List.length_take,List.length_append,List.length_set] at *;omega)),rfl,rfl,rfl,rfl,rfl,rfl,rfl,rfl,rfl,rfl,rfl,rfl,rfl,rfl,rfl,rfl,rfl,rfl,rfl,rfl,rfl,h⟩
                  · rw [if_neg c] at h
                    refine G.pu (W.t rfl rfl) (Pu.move (.tmp (v:=.int _ _) rfl)) ?_
                    refine G.pu (W.t rfl rfl) (Pu.bin (.tmp rfl) .int .eql) ?_
                    refine G.pu (W.t rfl rfl) (Pu.move (.tmp (v:=.bool _) rfl)) ?_
                    refine O.splitE (fun c=>?_) (fun c=>?_)
                    · rw [if_pos c] at h
                      refine G.pu (W.t rfl rfl) (Pu.move (.tmp (v:=.int _ _) rfl)) ?_
                      refine G.pu (W.t rfl rfl) (Pu.bin (.tmp rfl) .int .eql) ?_
                      refine G.pu (W.t rfl rfl) (Pu.move (.tmp (v:=.bool _) rfl)) ?_
                      refine O.splitE (fun c=>?_) (fun c=>?_)
                      · rw [if_pos c] at h
                        refine G.skip (W.f rfl rfl rfl) ?_
                        refine G.skip (W.f rfl rfl rfl) ?_
                        refine G.skipN (b:=true) (W.f rfl rfl rfl) ?_
                        refine G.skip (W.n rfl rfl) ?_
                        refine G.skip (W.f rfl rfl rfl) ?_
                        refine G.pu (W.t rfl rfl) (Pu.pickT (.tmp rfl) .bool) ?_
                        refine G.pu (W.t rfl rfl) (Pu.pickT (.tmp rfl) (.tmp (v:=.bool _) rfl)) ?_
                        refine O.pu (Pu.pickF (.tmp rfl) (.tmp (v:=.bool _) rfl)) ?_
                        refine O.pu (Pu.assign (.tmp (v:=.bool _) rfl)) ?_
                        refine O.nil ?_
                        refine X.seq ?_
                        refine X.still ?_
                        refine O.pu (U.load (.tmp rfl) rfl rfl (U.whole rfl rfl)) ?_
                        refine O.puE (v':=.op 22 ((s2.b 22).ver + 1) 0 0) (b':=⟨(s2.b 22).ver + 1, .own,(.vals [.agg [.fi .u64 []]]),_⟩) Pu.alloc rfl rfl ?_
                        refine O.ef0 (U.storeE (.tmp rfl) rfl rfl (.tmp (v:=.agg _) rfl) rfl rfl (.whole (notBad_ne rfl) rfl) .one) ?_
                        refine O.nil ?_
                        refine X.seq ?_
                        refine X.seq ?_
                        refine X.still ?_
                        refine O.pu (Pu.move (.tmp (v:=.bool _) rfl)) ?_
                        refine O.nil ?_
                        repeat (rw [chattellaw06_RoundHalves.j3_e] at h;obtain ⟨k,_,h⟩:=h;unfold chattellaw06_RoundHalves.j3 at h;try dsimp only at h)
                        rw [if_pos rfl] at h
                        refine X.condT (.tmp rfl) ?_
                        refine X.still ?_
                        refine O.pu (U.load (.tmp rfl) rfl rfl (U.whole rfl rfl)) ?_
                        refine O.pu (U.load (.tmp rfl) rfl rfl (U.whole rfl rfl)) ?_
                        obtain ⟨q27,Hq27,h⟩:=Option.bind_eq_some_iff.1 h
                        refine O.pu (U.call (ss:=[]) (.cons (.tmp (v:=.agg _) rfl) (.cons (.tmp (v:=.agg _) rfl) .nil)) (.cons (.cl (.aggL (.cons .fi .nil))) (.cons (.cl (.aggL (.cons .fi .nil))) .nil)) (nat_Nat_Add.cs Hq27) (.inl rfl) (.aggL (.cons .fi .nil))) ?_
                        refine O.ef0 (U.storeE (.tmp rfl) rfl rfl (.tmp (v:=.agg _) rfl) rfl rfl (.whole (notBad_ne rfl) rfl) .one) ?_
                        refine O.nil ?_
                        refine X.seq ?_
                        refine X.still ?_
                        refine O.pu (U.load (.tmp rfl) rfl rfl (U.whole rfl rfl)) ?_
                        refine O.pu (Pu.move (.tmp (v:=.int _ _) rfl)) ?_
                        repeat (rw [chattellaw06_RoundHalves.j4_e] at h;obtain ⟨k,_,h⟩:=h;unfold chattellaw06_RoundHalves.j4 at h;try dsimp only at h)
                        obtain ⟨q28,Hq28,h⟩:=Option.bind_eq_some_iff.1 h
                        refine O.pu (U.call (ss:=[]) (.cons (.tmp (v:=.agg _) rfl) (.cons (.tmp (v:=.int _ _) rfl) .nil)) (.cons (.cl (.aggL (.cons .fi (.cons .bool (.cons .fi .nil))))) (.cons (.cl .int) .nil)) (round_Whole.cs Hq28) (.inl rfl) (.tupL (.cons (.aggL (.cons .fi (.cons .bool .nil))) (.cons .int .nil)))) ?_
                        refine O.pu (Pu.move (.tmp (v:=.tup _) rfl)) ?_
                        refine O.pu (Pu.extract (.tmp rfl) rfl) ?_
                        refine O.pu (Pu.extract (.tmp rfl) rfl) ?_
                        refine O.puE (v':=.op 23 ((s2.b 23).ver + 1) 0 0) (b':=⟨(s2.b 23).ver + 1, .own,(.vals [.agg [.fi .u64 [], .bool false]]),_⟩) Pu.alloc rfl rfl ?_
                        refine O.ef0 (U.storeE (.tmp rfl) rfl rfl (.tmp (v:=.agg _) rfl) rfl rfl (.whole (notBad_ne rfl) rfl) .one) ?_
                        refine O.pu (Pu.assign (.tmp (v:=.int _ _) rfl)) ?_
                        refine O.nil ?_
                        refine X.seq ?_
                        refine X.drawn ?_
                        refine D.pu (Pu.move (.tmp (v:=.int _ _) rfl)) ?_
                        refine D.pu (Pu.bin (.tmp rfl) .int .neq) ?_
                        refine D.pu (Pu.move (.tmp (v:=.bool _) rfl)) ?_
                        refine D.splitN (fun c=>?_) (fun c=>?_)
                        · rw [if_neg c] at h
                          refine D.gskip (W.f rfl rfl rfl) ?_
                          refine D.gskip (W.f rfl rfl rfl) ?_
                          refine D.gskip (W.f rfl rfl rfl) ?_
                          refine D.gskip (W.f rfl rfl rfl) ?_
                          refine D.gskip (W.f rfl rfl rfl) ?_
                          refine D.gskip (W.f rfl rfl rfl) ?_
                          refine D.pu (Pu.pickT (.tmp rfl) .bool) ?_
                          refine D.nil (by kernel_rfl) ?_
                          refine X.condT (.tmp rfl) ?_
                          refine X.seq ?_
                          refine X.still ?_
                          refine O.pu (Pu.assign .bool) ?_
                          refine O.nil ?_
                          refine X.ret ?_
                          cases h
                          exact E.fin [] (.tmp (v:=.bool _) rfl .nil) (.cons (.cl .bool) .nil)
                        · rw [if_pos c] at h
                          refine D.gpu (W.t rfl rfl) (U.load (.tmp rfl) rfl rfl (U.whole rfl rfl)) ?_
                          refine D.gpu (W.t rfl rfl) (U.load (.tmp rfl) rfl rfl (U.whole rfl rfl)) ?_
                          refine D.gpu (W.t rfl rfl) (Pu.move (.tmp (v:=.bool _) rfl)) ?_
                          obtain ⟨q29,Hq29,h⟩:=Option.bind_eq_some_iff.1 h
                          refine D.gpu (W.t rfl rfl) (U.call (ss:=[]) (.cons (.tmp (v:=.agg _) rfl) (.cons (.tmp (v:=.bool _) rfl) .nil)) (.cons (.cl (.aggL (.cons .fi .nil))) (.cons (.cl .bool) .nil)) (whole_Of.cs Hq29) (.inl rfl) (.aggL (.cons .fi (.cons .bool .nil)))) ?_
                          obtain ⟨q30,Hq30,h⟩:=Option.bind_eq_some_iff.1 h
                          refine D.gpu (W.t rfl rfl) (U.call (ss:=[]) (.cons (.tmp (v:=.agg _) rfl) (.cons (.tmp (v:=.agg _) rfl) .nil)) (.cons (.cl (.aggL (.cons .fi (.cons .bool .nil)))) (.cons (.cl (.aggL (.cons .fi (.cons .bool .nil)))) .nil)) (whole_Int_Cmp.cs Hq30) (.inl rfl) (.int)) ?_
                          refine D.gpu (W.t rfl rfl) (Pu.bin (.tmp rfl) .int .neq) ?_
                          refine D.pu (Pu.pickF (.tmp rfl) (.tmp (v:=.bool _) rfl)) ?_
                          refine D.nil (by kernel_rfl) ?_
                          refine X.condN (.tmp rfl) (fun c=>?_) (fun c=>?_)
                          · rw [if_neg c] at h
                            refine X.seq ?_
                            refine X.still ?_
                            refine O.pu (Pu.assign .bool) ?_
                            refine O.nil ?_
                            refine X.ret ?_
                            cases h
                            exact E.fin [] (.tmp (v:=.bool _) rfl .nil) (.cons (.cl .bool) .nil)
                          · rw [if_pos c] at h
                            refine X.skip ?_
                            refine X.still ?_
                            refine O.pu (Pu.bin (.tmp rfl) .int U.add64) ?_
                            refine O.pu (Pu.move (.tmp (v:=.int _ _) rfl)) ?_
                            refine O.nil ?_
                            exact ⟨_,(by omega),(by omega),_,_,_,_,_,_,_,_,_,_,_,_,_,_,_,_,_,_,_,_,_,_,_,_,_,_,_,_,_,rfl,rfl,rfl,rfl,rfl,(by first|rfl|(simp only [List.length_set];done)|(simp only [List.length_drop,List.length_take,List.length_append,List.length_set] at *;omega)),rfl,rfl,rfl,rfl,rfl,rfl,rfl,rfl,rfl,rfl,rfl,rfl,rfl,rfl,rfl,rfl,rfl,rfl,rfl,rfl,rfl,h⟩
                      · rw [if_neg c] at h
                        refine G.pu (W.t rfl rfl) (Pu.move (.tmp (v:=.int _ _) rfl)) ?_
                        refine G.pu (W.t rfl rfl) (Pu.bin (.tmp rfl) .int .eql) ?_
                        refine G.pu (W.t rfl rfl) (Pu.move (.tmp (v:=.bool _) rfl)) ?_
                        refine O.splitE (fun c=>?_) (fun c=>?_)
                        · rw [if_pos c] at h
                          refine G.pu (W.t rfl rfl) (Pu.move (.tmp (v:=.bool _) rfl)) ?_
                          refine G.pu (W.t rfl rfl) (Pu.pickT (.tmp rfl) (.tmp (v:=.bool _) rfl)) ?_
                          refine G.pu (W.t rfl rfl) (Pu.pickF (.tmp rfl) (.tmp (v:=.bool _) rfl)) ?_
                          refine G.pu (W.t rfl rfl) (Pu.pickT (.tmp rfl) (.tmp (v:=.bool _) rfl)) ?_
                          refine O.pu (Pu.pickF (.tmp rfl) (.tmp (v:=.bool _) rfl)) ?_
                          refine O.pu (Pu.assign (.tmp (v:=.bool _) rfl)) ?_
                          refine O.nil ?_
                          refine X.seq ?_
                          refine X.still ?_
                          refine O.pu (U.load (.tmp rfl) rfl rfl (U.whole rfl rfl)) ?_
                          refine O.puE (v':=.op 22 ((s2.b 22).ver + 1) 0 0) (b':=⟨(s2.b 22).ver + 1, .own,(.vals [.agg [.fi .u64 []]]),_⟩) Pu.alloc rfl rfl ?_
                          refine O.ef0 (U.storeE (.tmp rfl) rfl rfl (.tmp (v:=.agg _) rfl) rfl rfl (.whole (notBad_ne rfl) rfl) .one) ?_
                          refine O.nil ?_
                          refine X.seq ?_
                          refine X.seq ?_
                          refine X.still ?_
                          refine O.pu (Pu.move (.tmp (v:=.bool _) rfl)) ?_
                          refine O.nil ?_
                          repeat (rw [chattellaw06_RoundHalves.j3_e] at h;obtain ⟨k,_,h⟩:=h;unfold chattellaw06_RoundHalves.j3 at h;try dsimp only at h)
                          refine X.cond (.tmp rfl) (fun c=>?_) (fun c=>?_)
                          · rw [if_pos c] at h
                            refine X.still ?_
                            refine O.pu (U.load (.tmp rfl) rfl rfl (U.whole rfl rfl)) ?_
                            refine O.pu (U.load (.tmp rfl) rfl rfl (U.whole rfl rfl)) ?_
                            obtain ⟨q31,Hq31,h⟩:=Option.bind_eq_some_iff.1 h
                            refine O.pu (U.call (ss:=[]) (.cons (.tmp (v:=.agg _) rfl) (.cons (.tmp (v:=.agg _) rfl) .nil)) (.cons (.cl (.aggL (.cons .fi .nil))) (.cons (.cl (.aggL (.cons .fi .nil))) .nil)) (nat_Nat_Add.cs Hq31) (.inl rfl) (.aggL (.cons .fi .nil))) ?_
                            refine O.ef0 (U.storeE (.tmp rfl) rfl rfl (.tmp (v:=.agg _) rfl) rfl rfl (.whole (notBad_ne rfl) rfl) .one) ?_
                            refine O.nil ?_
                            refine X.seq ?_
                            refine X.still ?_
                            refine O.pu (U.load (.tmp rfl) rfl rfl (U.whole rfl rfl)) ?_
                            refine O.pu (Pu.move (.tmp (v:=.int _ _) rfl)) ?_
                            repeat (rw [chattellaw06_RoundHalves.j4_e] at h;obtain ⟨k,_,h⟩:=h;unfold chattellaw06_RoundHalves.j4 at h;try dsimp only at h)
                            obtain ⟨q32,Hq32,h⟩:=Option.bind_eq_some_iff.1 h
                            refine O.pu (U.call (ss:=[]) (.cons (.tmp (v:=.agg _) rfl) (.cons (.tmp (v:=.int _ _) rfl) .nil)) (.cons (.cl (.aggL (.cons .fi (.cons .bool (.cons .fi .nil))))) (.cons (.cl .int) .nil)) (round_Whole.cs Hq32) (.inl rfl) (.tupL (.cons (.aggL (.cons .fi (.cons .bool .nil))) (.cons .int .nil)))) ?_
                            refine O.pu (Pu.move (.tmp (v:=.tup _) rfl)) ?_
                            refine O.pu (Pu.extract (.tmp rfl) rfl) ?_
                            refine O.pu (Pu.extract (.tmp rfl) rfl) ?_
                            refine O.puE (v':=.op 23 ((s2.b 23).ver + 1) 0 0) (b':=⟨(s2.b 23).ver + 1, .own,(.vals [.agg [.fi .u64 [], .bool false]]),_⟩) Pu.alloc rfl rfl ?_
                            refine O.ef0 (U.storeE (.tmp rfl) rfl rfl (.tmp (v:=.agg _) rfl) rfl rfl (.whole (notBad_ne rfl) rfl) .one) ?_
                            refine O.pu (Pu.assign (.tmp (v:=.int _ _) rfl)) ?_
                            refine O.nil ?_
                            refine X.seq ?_
                            refine X.drawn ?_
                            refine D.pu (Pu.move (.tmp (v:=.int _ _) rfl)) ?_
                            refine D.pu (Pu.bin (.tmp rfl) .int .neq) ?_
                            refine D.pu (Pu.move (.tmp (v:=.bool _) rfl)) ?_
                            refine D.splitN (fun c=>?_) (fun c=>?_)
                            · rw [if_neg c] at h
                              refine D.gskip (W.f rfl rfl rfl) ?_
                              refine D.gskip (W.f rfl rfl rfl) ?_
                              refine D.gskip (W.f rfl rfl rfl) ?_
                              refine D.gskip (W.f rfl rfl rfl) ?_
                              refine D.gskip (W.f rfl rfl rfl) ?_
                              refine D.gskip (W.f rfl rfl rfl) ?_
                              refine D.pu (Pu.pickT (.tmp rfl) .bool) ?_
                              refine D.nil (by kernel_rfl) ?_
                              refine X.condT (.tmp rfl) ?_
                              refine X.seq ?_
                              refine X.still ?_
                              refine O.pu (Pu.assign .bool) ?_
                              refine O.nil ?_
                              refine X.ret ?_
                              cases h
                              exact E.fin [] (.tmp (v:=.bool _) rfl .nil) (.cons (.cl .bool) .nil)
                            · rw [if_pos c] at h
                              refine D.gpu (W.t rfl rfl) (U.load (.tmp rfl) rfl rfl (U.whole rfl rfl)) ?_
                              refine D.gpu (W.t rfl rfl) (U.load (.tmp rfl) rfl rfl (U.whole rfl rfl)) ?_
                              refine D.gpu (W.t rfl rfl) (Pu.move (.tmp (v:=.bool _) rfl)) ?_
                              obtain ⟨q33,Hq33,h⟩:=Option.bind_eq_some_iff.1 h
                              refine D.gpu (W.t rfl rfl) (U.call (ss:=[]) (.cons (.tmp (v:=.agg _) rfl) (.cons (.tmp (v:=.bool _) rfl) .nil)) (.cons (.cl (.aggL (.cons .fi .nil))) (.cons (.cl .bool) .nil)) (whole_Of.cs Hq33) (.inl rfl) (.aggL (.cons .fi (.cons .bool .nil)))) ?_
                              obtain ⟨q34,Hq34,h⟩:=Option.bind_eq_some_iff.1 h
                              refine D.gpu (W.t rfl rfl) (U.call (ss:=[]) (.cons (.tmp (v:=.agg _) rfl) (.cons (.tmp (v:=.agg _) rfl) .nil)) (.cons (.cl (.aggL (.cons .fi (.cons .bool .nil)))) (.cons (.cl (.aggL (.cons .fi (.cons .bool .nil)))) .nil)) (whole_Int_Cmp.cs Hq34) (.inl rfl) (.int)) ?_
                              refine D.gpu (W.t rfl rfl) (Pu.bin (.tmp rfl) .int .neq) ?_
                              refine D.pu (Pu.pickF (.tmp rfl) (.tmp (v:=.bool _) rfl)) ?_
                              refine D.nil (by kernel_rfl) ?_
                              refine X.condN (.tmp rfl) (fun c=>?_) (fun c=>?_)
                              · rw [if_neg c] at h
                                refine X.seq ?_
                                refine X.still ?_
                                refine O.pu (Pu.assign .bool) ?_
                                refine O.nil ?_
                                refine X.ret ?_
                                cases h
                                exact E.fin [] (.tmp (v:=.bool _) rfl .nil) (.cons (.cl .bool) .nil)
                              · rw [if_pos c] at h
                                refine X.skip ?_
                                refine X.still ?_
                                refine O.pu (Pu.bin (.tmp rfl) .int U.add64) ?_
                                refine O.pu (Pu.move (.tmp (v:=.int _ _) rfl)) ?_
                                refine O.nil ?_
                                exact ⟨_,(by omega),(by omega),_,_,_,_,_,_,_,_,_,_,_,_,_,_,_,_,_,_,_,_,_,_,_,_,_,_,_,_,_,rfl,rfl,rfl,rfl,rfl,(by first|rfl|(simp only [List.length_set];done)|(simp only [List.length_drop,List.length_take,List.length_append,List.length_set] at *;omega)),rfl,rfl,rfl,rfl,rfl,rfl,rfl,rfl,rfl,rfl,rfl,rfl,rfl,rfl,rfl,rfl,rfl,rfl,rfl,rfl,rfl,h⟩
                          · rw [if_neg (bf c)] at h
                            refine X.skip ?_
                            refine X.seq ?_
                            refine X.still ?_
                            refine O.pu (U.load (.tmp rfl) rfl rfl (U.whole rfl rfl)) ?_
                            refine O.pu (Pu.move (.tmp (v:=.int _ _) rfl)) ?_
                            repeat (rw [chattellaw06_RoundHalves.j4_e] at h;obtain ⟨k,_,h⟩:=h;unfold chattellaw06_RoundHalves.j4 at h;try dsimp only at h)
                            obtain ⟨q35,Hq35,h⟩:=Option.bind_eq_some_iff.1 h
                            refine O.pu (U.call (ss:=[]) (.cons (.tmp (v:=.agg _) rfl) (.cons (.tmp (v:=.int _ _) rfl) .nil)) (.cons (.cl (.aggL (.cons .fi (.cons .bool (.cons .fi .nil))))) (.cons (.cl .int) .nil)) (round_Whole.cs Hq35) (.inl rfl) (.tupL (.cons (.aggL (.cons .fi (.cons .bool .nil))) (.cons .int .nil)))) ?_
                            refine O.pu (Pu.move (.tmp (v:=.tup _) rfl)) ?_
                            refine O.pu (Pu.extract (.tmp rfl) rfl) ?_
                            refine O.pu (Pu.extract (.tmp rfl) rfl) ?_
                            refine O.puE (v':=.op 23 ((s2.b 23).ver + 1) 0 0) (b':=⟨(s2.b 23).ver + 1, .own,(.vals [.agg [.fi .u64 [], .bool false]]),_⟩) Pu.alloc rfl rfl ?_
                            refine O.ef0 (U.storeE (.tmp rfl) rfl rfl (.tmp (v:=.agg _) rfl) rfl rfl (.whole (notBad_ne rfl) rfl) .one) ?_
                            refine O.pu (Pu.assign (.tmp (v:=.int _ _) rfl)) ?_
                            refine O.nil ?_
                            refine X.seq ?_
                            refine X.drawn ?_
                            refine D.pu (Pu.move (.tmp (v:=.int _ _) rfl)) ?_
                            refine D.pu (Pu.bin (.tmp rfl) .int .neq) ?_
                            refine D.pu (Pu.move (.tmp (v:=.bool _) rfl)) ?_
                            refine D.splitN (fun c=>?_) (fun c=>?_)
                            · rw [if_neg c] at h
                              refine D.gskip (W.f rfl rfl rfl) ?_
                              refine D.gskip (W.f rfl rfl rfl) ?_
                              refine D.gskip (W.f rfl rfl rfl) ?_
                              refine D.gskip (W.f rfl rfl rfl) ?_
                              refine D.gskip (W.f rfl rfl rfl) ?_
                              refine D.gskip (W.f rfl rfl rfl) ?_
                              refine D.pu (Pu.pickT (.tmp rfl) .bool) ?_
                              refine D.nil (by kernel_rfl) ?_
                              refine X.condT (.tmp rfl) ?_
                              refine X.seq ?_
                              refine X.still ?_
                              refine O.pu (Pu.assign .bool) ?_
                              refine O.nil ?_
                              refine X.ret ?_
                              cases h
                              exact E.fin [] (.tmp (v:=.bool _) rfl .nil) (.cons (.cl .bool) .nil)
                            · rw [if_pos c] at h
                              refine D.gpu (W.t rfl rfl) (U.load (.tmp rfl) rfl rfl (U.whole rfl rfl)) ?_
                              refine D.gpu (W.t rfl rfl) (U.load (.tmp rfl) rfl rfl (U.whole rfl rfl)) ?_
                              refine D.gpu (W.t rfl rfl) (Pu.move (.tmp (v:=.bool _) rfl)) ?_
                              obtain ⟨q36,Hq36,h⟩:=Option.bind_eq_some_iff.1 h
                              refine D.gpu (W.t rfl rfl) (U.call (ss:=[]) (.cons (.tmp (v:=.agg _) rfl) (.cons (.tmp (v:=.bool _) rfl) .nil)) (.cons (.cl (.aggL (.cons .fi .nil))) (.cons (.cl .bool) .nil)) (whole_Of.cs Hq36) (.inl rfl) (.aggL (.cons .fi (.cons .bool .nil)))) ?_
                              obtain ⟨q37,Hq37,h⟩:=Option.bind_eq_some_iff.1 h
                              refine D.gpu (W.t rfl rfl) (U.call (ss:=[]) (.cons (.tmp (v:=.agg _) rfl) (.cons (.tmp (v:=.agg _) rfl) .nil)) (.cons (.cl (.aggL (.cons .fi (.cons .bool .nil)))) (.cons (.cl (.aggL (.cons .fi (.cons .bool .nil)))) .nil)) (whole_Int_Cmp.cs Hq37) (.inl rfl) (.int)) ?_
                              refine D.gpu (W.t rfl rfl) (Pu.bin (.tmp rfl) .int .neq) ?_
                              refine D.pu (Pu.pickF (.tmp rfl) (.tmp (v:=.bool _) rfl)) ?_
                              refine D.nil (by kernel_rfl) ?_
                              refine X.condN (.tmp rfl) (fun c=>?_) (fun c=>?_)
                              · rw [if_neg c] at h
                                refine X.seq ?_
                                refine X.still ?_
                                refine O.pu (Pu.assign .bool) ?_
                                refine O.nil ?_
                                refine X.ret ?_
                                cases h
                                exact E.fin [] (.tmp (v:=.bool _) rfl .nil) (.cons (.cl .bool) .nil)
                              · rw [if_pos c] at h
                                refine X.skip ?_
                                refine X.still ?_
                                refine O.pu (Pu.bin (.tmp rfl) .int U.add64) ?_
                                refine O.pu (Pu.move (.tmp (v:=.int _ _) rfl)) ?_
                                refine O.nil ?_
                                exact ⟨_,(by omega),(by omega),_,_,_,_,_,_,_,_,_,_,_,_,_,_,_,_,_,_,_,_,_,_,_,_,_,_,_,_,_,rfl,rfl,rfl,rfl,rfl,(by first|rfl|(simp only [List.length_set];done)|(simp only [List.length_drop,List.length_take,List.length_append,List.length_set] at *;omega)),rfl,rfl,rfl,rfl,rfl,rfl,rfl,rfl,rfl,rfl,rfl,rfl,rfl,rfl,rfl,rfl,rfl,rfl,rfl,rfl,rfl,h⟩
                        · rw [if_neg c] at h
                          refine G.skip (W.f rfl rfl rfl) ?_
                          refine G.pu (W.t rfl rfl) (Pu.pickF (.tmp rfl) .bool) ?_
                          refine G.pu (W.t rfl rfl) (Pu.pickF (.tmp rfl) (.tmp (v:=.bool _) rfl)) ?_
                          refine G.pu (W.t rfl rfl) (Pu.pickT (.tmp rfl) (.tmp (v:=.bool _) rfl)) ?_
                          refine O.pu (Pu.pickF (.tmp rfl) (.tmp (v:=.bool _) rfl)) ?_
                          refine O.pu (Pu.assign (.tmp (v:=.bool _) rfl)) ?_
                          refine O.nil ?_
                          refine X.seq ?_
                          refine X.still ?_
                          refine O.pu (U.load (.tmp rfl) rfl rfl (U.whole rfl rfl)) ?_
                          refine O.puE (v':=.op 22 ((s2.b 22).ver + 1) 0 0) (b':=⟨(s2.b 22).ver + 1, .own,(.vals [.agg [.fi .u64 []]]),_⟩) Pu.alloc rfl rfl ?_
                          refine O.ef0 (U.storeE (.tmp rfl) rfl rfl (.tmp (v:=.agg _) rfl) rfl rfl (.whole (notBad_ne rfl) rfl) .one) ?_
                          refine O.nil ?_
                          refine X.seq ?_
                          refine X.seq ?_
                          refine X.still ?_
                          refine O.pu (Pu.move (.tmp (v:=.bool _) rfl)) ?_
                          refine O.nil ?_
                          repeat (rw [chattellaw06_RoundHalves.j3_e] at h;obtain ⟨k,_,h⟩:=h;unfold chattellaw06_RoundHalves.j3 at h;try dsimp only at h)
                          rw [if_neg Bool.false_ne_true] at h
                          refine X.condF (.tmp rfl) ?_
                          refine X.skip ?_
                          refine X.seq ?_
                          refine X.still ?_
                          refine O.pu (U.load (.tmp rfl) rfl rfl (U.whole rfl rfl)) ?_
                          refine O.pu (Pu.move (.tmp (v:=.int _ _) rfl)) ?_
                          repeat (rw [chattellaw06_RoundHalves.j4_e] at h;obtain ⟨k,_,h⟩:=h;unfold chattellaw06_RoundHalves.j4 at h;try dsimp only at h)
                          obtain ⟨q38,Hq38,h⟩:=Option.bind_eq_some_iff.1 h
                          refine O.pu (U.call (ss:=[]) (.cons (.tmp (v:=.agg _) rfl) (.cons (.tmp (v:=.int _ _) rfl) .nil)) (.cons (.cl (.aggL (.cons .fi (.cons .bool (.cons .fi .nil))))) (.cons (.cl .int) .nil)) (round_Whole.cs Hq38) (.inl rfl) (.tupL (.cons (.aggL (.cons .fi (.cons .bool .nil))) (.cons .int .nil)))) ?_
                          refine O.pu (Pu.move (.tmp (v:=.tup _) rfl)) ?_
                          refine O.pu (Pu.extract (.tmp rfl) rfl) ?_
                          refine O.pu (Pu.extract (.tmp rfl) rfl) ?_
                          refine O.puE (v':=.op 23 ((s2.b 23).ver + 1) 0 0) (b':=⟨(s2.b 23).ver + 1, .own,(.vals [.agg [.fi .u64 [], .bool false]]),_⟩) Pu.alloc rfl rfl ?_
                          refine O.ef0 (U.storeE (.tmp rfl) rfl rfl (.tmp (v:=.agg _) rfl) rfl rfl (.whole (notBad_ne rfl) rfl) .one) ?_
                          refine O.pu (Pu.assign (.tmp (v:=.int _ _) rfl)) ?_
                          refine O.nil ?_
                          refine X.seq ?_
                          refine X.drawn ?_
                          refine D.pu (Pu.move (.tmp (v:=.int _ _) rfl)) ?_
                          refine D.pu (Pu.bin (.tmp rfl) .int .neq) ?_
                          refine D.pu (Pu.move (.tmp (v:=.bool _) rfl)) ?_
                          refine D.splitN (fun c=>?_) (fun c=>?_)
                          · rw [if_neg c] at h
                            refine D.gskip (W.f rfl rfl rfl) ?_
                            refine D.gskip (W.f rfl rfl rfl) ?_
                            refine D.gskip (W.f rfl rfl rfl) ?_
                            refine D.gskip (W.f rfl rfl rfl) ?_
                            refine D.gskip (W.f rfl rfl rfl) ?_
                            refine D.gskip (W.f rfl rfl rfl) ?_
                            refine D.pu (Pu.pickT (.tmp rfl) .bool) ?_
                            refine D.nil (by kernel_rfl) ?_
                            refine X.condT (.tmp rfl) ?_
                            refine X.seq ?_
                            refine X.still ?_
                            refine O.pu (Pu.assign .bool) ?_
                            refine O.nil ?_
                            refine X.ret ?_
                            cases h
                            exact E.fin [] (.tmp (v:=.bool _) rfl .nil) (.cons (.cl .bool) .nil)
                          · rw [if_pos c] at h
                            refine D.gpu (W.t rfl rfl) (U.load (.tmp rfl) rfl rfl (U.whole rfl rfl)) ?_
                            refine D.gpu (W.t rfl rfl) (U.load (.tmp rfl) rfl rfl (U.whole rfl rfl)) ?_
                            refine D.gpu (W.t rfl rfl) (Pu.move (.tmp (v:=.bool _) rfl)) ?_
                            obtain ⟨q39,Hq39,h⟩:=Option.bind_eq_some_iff.1 h
                            refine D.gpu (W.t rfl rfl) (U.call (ss:=[]) (.cons (.tmp (v:=.agg _) rfl) (.cons (.tmp (v:=.bool _) rfl) .nil)) (.cons (.cl (.aggL (.cons .fi .nil))) (.cons (.cl .bool) .nil)) (whole_Of.cs Hq39) (.inl rfl) (.aggL (.cons .fi (.cons .bool .nil)))) ?_
                            obtain ⟨q40,Hq40,h⟩:=Option.bind_eq_some_iff.1 h
                            refine D.gpu (W.t rfl rfl) (U.call (ss:=[]) (.cons (.tmp (v:=.agg _) rfl) (.cons (.tmp (v:=.agg _) rfl) .nil)) (.cons (.cl (.aggL (.cons .fi (.cons .bool .nil)))) (.cons (.cl (.aggL (.cons .fi (.cons .bool .nil)))) .nil)) (whole_Int_Cmp.cs Hq40) (.inl rfl) (.int)) ?_
                            refine D.gpu (W.t rfl rfl) (Pu.bin (.tmp rfl) .int .neq) ?_
                            refine D.pu (Pu.pickF (.tmp rfl) (.tmp (v:=.bool _) rfl)) ?_
                            refine D.nil (by kernel_rfl) ?_
                            refine X.condN (.tmp rfl) (fun c=>?_) (fun c=>?_)
                            · rw [if_neg c] at h
                              refine X.seq ?_
                              refine X.still ?_
                              refine O.pu (Pu.assign .bool) ?_
                              refine O.nil ?_
                              refine X.ret ?_
                              cases h
                              exact E.fin [] (.tmp (v:=.bool _) rfl .nil) (.cons (.cl .bool) .nil)
                            · rw [if_pos c] at h
                              refine X.skip ?_
                              refine X.still ?_
                              refine O.pu (Pu.bin (.tmp rfl) .int U.add64) ?_
                              refine O.pu (Pu.move (.tmp (v:=.int _ _) rfl)) ?_
                              refine O.nil ?_
                              exact ⟨_,(by omega),(by omega),_,_,_,_,_,_,_,_,_,_,_,_,_,_,_,_,_,_,_,_,_,_,_,_,_,_,_,_,_,rfl,rfl,rfl,rfl,rfl,(by first|rfl|(simp only [List.length_set];done)|(simp only [List.length_drop,List.length_take,List.length_append,List.length_set] at *;omega)),rfl,rfl,rfl,rfl,rfl,rfl,rfl,rfl,rfl,rfl,rfl,rfl,rfl,rfl,rfl,rfl,rfl,rfl,rfl,rfl,rfl,h⟩
                    · rw [if_neg c] at h
                      refine G.skip (W.f rfl rfl rfl) ?_
                      refine G.skip (W.f rfl rfl rfl) ?_
                      refine G.skipN (b:=false) (W.f rfl rfl rfl) ?_
                      refine G.skip (W.n rfl rfl) ?_
                      refine G.skip (W.n rfl rfl) ?_
                      refine G.skipN (b:=true) (W.n rfl rfl) ?_
                      refine G.skip (W.n rfl rfl) ?_
                      refine G.skip (W.n rfl rfl) ?_
                      refine G.skip (W.f rfl rfl rfl) ?_
                      refine G.pu (W.t rfl rfl) (Pu.pickF (.tmp rfl) .bool) ?_
                      refine O.pu (Pu.pickF (.tmp rfl) (.tmp (v:=.bool _) rfl)) ?_
                      refine O.pu (Pu.assign (.tmp (v:=.bool _) rfl)) ?_
                      refine O.nil ?_
                      refine X.seq ?_
                      refine X.still ?_
                      refine O.pu (U.load (.tmp rfl) rfl rfl (U.whole rfl rfl)) ?_
                      refine O.puE (v':=.op 22 ((s2.b 22).ver + 1) 0 0) (b':=⟨(s2.b 22).ver + 1, .own,(.vals [.agg [.fi .u64 []]]),_⟩) Pu.alloc rfl rfl ?_
                      refine O.ef0 (U.storeE (.tmp rfl) rfl rfl (.tmp (v:=.agg _) rfl) rfl rfl (.whole (notBad_ne rfl) rfl) .one) ?_
                      refine O.nil ?_
                      refine X.seq ?_
                      refine X.seq ?_
                      refine X.still ?_
                      refine O.pu (Pu.move (.tmp (v:=.bool _) rfl)) ?_
                      refine O.nil ?_
                      repeat (rw [chattellaw06_RoundHalves.j3_e] at h;obtain ⟨k,_,h⟩:=h;unfold chattellaw06_RoundHalves.j3 at h;try dsimp only at h)
                      rw [if_neg Bool.false_ne_true] at h
                      refine X.condF (.tmp rfl) ?_
                      refine X.skip ?_
                      refine X.seq ?_
                      refine X.still ?_
                      refine O.pu (U.load (.tmp rfl) rfl rfl (U.whole rfl rfl)) ?_
                      refine O.pu (Pu.move (.tmp (v:=.int _ _) rfl)) ?_
                      repeat (rw [chattellaw06_RoundHalves.j4_e] at h;obtain ⟨k,_,h⟩:=h;unfold chattellaw06_RoundHalves.j4 at h;try dsimp only at h)
                      obtain ⟨q41,Hq41,h⟩:=Option.bind_eq_some_iff.1 h
                      refine O.pu (U.call (ss:=[]) (.cons (.tmp (v:=.agg _) rfl) (.cons (.tmp (v:=.int _ _) rfl) .nil)) (.cons (.cl (.aggL (.cons .fi (.cons .bool (.cons .fi .nil))))) (.cons (.cl .int) .nil)) (round_Whole.cs Hq41) (.inl rfl) (.tupL (.cons (.aggL (.cons .fi (.cons .bool .nil))) (.cons .int .nil)))) ?_
                      refine O.pu (Pu.move (.tmp (v:=.tup _) rfl)) ?_
                      refine O.pu (Pu.extract (.tmp rfl) rfl) ?_
                      refine O.pu (Pu.extract (.tmp rfl) rfl) ?_
                      refine O.puE (v':=.op 23 ((s2.b 23).ver + 1) 0 0) (b':=⟨(s2.b 23).ver + 1, .own,(.vals [.agg [.fi .u64 [], .bool false]]),_⟩) Pu.alloc rfl rfl ?_
                      refine O.ef0 (U.storeE (.tmp rfl) rfl rfl (.tmp (v:=.agg _) rfl) rfl rfl (.whole (notBad_ne rfl) rfl) .one) ?_
                      refine O.pu (Pu.assign (.tmp (v:=.int _ _) rfl)) ?_
                      refine O.nil ?_
                      refine X.seq ?_
                      refine X.drawn ?_
                      refine D.pu (Pu.move (.tmp (v:=.int _ _) rfl)) ?_
                      refine D.pu (Pu.bin (.tmp rfl) .int .neq) ?_
                      refine D.pu (Pu.move (.tmp (v:=.bool _) rfl)) ?_
                      refine D.splitN (fun c=>?_) (fun c=>?_)
                      · rw [if_neg c] at h
                        refine D.gskip (W.f rfl rfl rfl) ?_
                        refine D.gskip (W.f rfl rfl rfl) ?_
                        refine D.gskip (W.f rfl rfl rfl) ?_
                        refine D.gskip (W.f rfl rfl rfl) ?_
                        refine D.gskip (W.f rfl rfl rfl) ?_
                        refine D.gskip (W.f rfl rfl rfl) ?_
                        refine D.pu (Pu.pickT (.tmp rfl) .bool) ?_
                        refine D.nil (by kernel_rfl) ?_
                        refine X.condT (.tmp rfl) ?_
                        refine X.seq ?_
                        refine X.still ?_
                        refine O.pu (Pu.assign .bool) ?_
                        refine O.nil ?_
                        refine X.ret ?_
                        cases h
                        exact E.fin [] (.tmp (v:=.bool _) rfl .nil) (.cons (.cl .bool) .nil)
                      · rw [if_pos c] at h
                        refine D.gpu (W.t rfl rfl) (U.load (.tmp rfl) rfl rfl (U.whole rfl rfl)) ?_
                        refine D.gpu (W.t rfl rfl) (U.load (.tmp rfl) rfl rfl (U.whole rfl rfl)) ?_
                        refine D.gpu (W.t rfl rfl) (Pu.move (.tmp (v:=.bool _) rfl)) ?_
                        obtain ⟨q42,Hq42,h⟩:=Option.bind_eq_some_iff.1 h
                        refine D.gpu (W.t rfl rfl) (U.call (ss:=[]) (.cons (.tmp (v:=.agg _) rfl) (.cons (.tmp (v:=.bool _) rfl) .nil)) (.cons (.cl (.aggL (.cons .fi .nil))) (.cons (.cl .bool) .nil)) (whole_Of.cs Hq42) (.inl rfl) (.aggL (.cons .fi (.cons .bool .nil)))) ?_
                        obtain ⟨q43,Hq43,h⟩:=Option.bind_eq_some_iff.1 h
                        refine D.gpu (W.t rfl rfl) (U.call (ss:=[]) (.cons (.tmp (v:=.agg _) rfl) (.cons (.tmp (v:=.agg _) rfl) .nil)) (.cons (.cl (.aggL (.cons .fi (.cons .bool .nil)))) (.cons (.cl (.aggL (.cons .fi (.cons .bool .nil)))) .nil)) (whole_Int_Cmp.cs Hq43) (.inl rfl) (.int)) ?_
                        refine D.gpu (W.t rfl rfl) (Pu.bin (.tmp rfl) .int .neq) ?_
                        refine D.pu (Pu.pickF (.tmp rfl) (.tmp (v:=.bool _) rfl)) ?_
                        refine D.nil (by kernel_rfl) ?_
                        refine X.condN (.tmp rfl) (fun c=>?_) (fun c=>?_)
                        · rw [if_neg c] at h
                          refine X.seq ?_
                          refine X.still ?_
                          refine O.pu (Pu.assign .bool) ?_
                          refine O.nil ?_
                          refine X.ret ?_
                          cases h
                          exact E.fin [] (.tmp (v:=.bool _) rfl .nil) (.cons (.cl .bool) .nil)
                        · rw [if_pos c] at h
                          refine X.skip ?_
                          refine X.still ?_
                          refine O.pu (Pu.bin (.tmp rfl) .int U.add64) ?_
                          refine O.pu (Pu.move (.tmp (v:=.int _ _) rfl)) ?_
                          refine O.nil ?_
                          exact ⟨_,(by omega),(by omega),_,_,_,_,_,_,_,_,_,_,_,_,_,_,_,_,_,_,_,_,_,_,_,_,_,_,_,_,_,rfl,rfl,rfl,rfl,rfl,(by first|rfl|(simp only [List.length_set];done)|(simp only [List.length_drop,List.length_take,List.length_append,List.length_set] at *;omega)),rfl,rfl,rfl,rfl,rfl,rfl,rfl,rfl,rfl,rfl,rfl,rfl,rfl,rfl,rfl,rfl,rfl,rfl,rfl,rfl,rfl,h⟩
                · rw [if_pos c] at h
                  refine G.skip (W.f rfl rfl rfl) ?_
                  refine G.skip (W.f rfl rfl rfl) ?_
                  refine G.pu (W.t rfl rfl) (Pu.pickF (.tmp rfl) .bool) ?_
                  refine O.pu (Pu.pickF (.tmp rfl) (.tmp (v:=.bool _) rfl)) ?_
                  refine O.pu (Pu.move (.tmp (v:=.bool _) rfl)) ?_
                  refine G.pu (W.t rfl rfl) (Pu.move (.tmp (v:=.int _ _) rfl)) ?_
                  refine G.pu (W.t rfl rfl) (Pu.bin (.tmp rfl) .int .eql) ?_
                  refine G.pu (W.t rfl rfl) (Pu.move (.tmp (v:=.bool _) rfl)) ?_
                  refine O.splitE (fun c=>?_) (fun c=>?_)
                  · rw [if_pos c] at h
                    refine G.pu (W.t rfl rfl) (Pu.move (.tmp (v:=.int _ _) rfl)) ?_
                    refine G.pu (W.t rfl rfl) (Pu.bin (.tmp rfl) .int .eql) ?_
                    refine G.pu (W.t rfl rfl) (Pu.move (.tmp (v:=.bool _) rfl)) ?_
                    refine O.splitE (fun c=>?_) (fun c=>?_)
                    · rw [if_pos c] at h
                      refine G.skip (W.f rfl rfl rfl) ?_
                      refine G.skip (W.f rfl rfl rfl) ?_
                      refine G.skipN (b:=true) (W.f rfl rfl rfl) ?_
                      refine G.skip (W.n rfl rfl) ?_
                      refine G.skip (W.f rfl rfl rfl) ?_
                      refine G.pu (W.t rfl rfl) (Pu.pickT (.tmp rfl) .bool) ?_
                      refine G.pu (W.t rfl rfl) (Pu.pickT (.tmp rfl) (.tmp (v:=.bool _) rfl)) ?_
                      refine O.pu (Pu.pickF (.tmp rfl) (.tmp (v:=.bool _) rfl)) ?_
                      refine O.pu (Pu.assign (.tmp (v:=.bool _) rfl)) ?_
                      refine O.nil ?_
                      refine X.seq ?_
                      refine X.still ?_
                      refine O.pu (U.load (.tmp rfl) rfl rfl (U.whole rfl rfl)) ?_
                      refine O.puE (v':=.op 22 ((s2.b 22).ver + 1) 0 0) (b':=⟨(s2.b 22).ver + 1, .own,(.vals [.agg [.fi .u64 []]]),_⟩) Pu.alloc rfl rfl ?_
                      refine O.ef0 (U.storeE (.tmp rfl) rfl rfl (.tmp (v:=.agg _) rfl) rfl rfl (.whole (notBad_ne rfl) rfl) .one) ?_
                      refine O.nil ?_
                      refine X.seq ?_
                      refine X.seq ?_
                      refine X.still ?_
                      refine O.pu (Pu.move (.tmp (v:=.bool _) rfl)) ?_
                      refine O.nil ?_
                      repeat (rw [chattellaw06_RoundHalves.j3_e] at h;obtain ⟨k,_,h⟩:=h;unfold chattellaw06_RoundHalves.j3 at h;try dsimp only at h)
                      rw [if_pos rfl] at h
                      refine X.condT (.tmp rfl) ?_
                      refine X.still ?_
                      refine O.pu (U.load (.tmp rfl) rfl rfl (U.whole rfl rfl)) ?_
                      refine O.pu (U.load (.tmp rfl) rfl rfl (U.whole rfl rfl)) ?_
                      obtain ⟨q44,Hq44,h⟩:=Option.bind_eq_some_iff.1 h
                      refine O.pu (U.call (ss:=[]) (.cons (.tmp (v:=.agg _) rfl) (.cons (.tmp (v:=.agg _) rfl) .nil)) (.cons (.cl (.aggL (.cons .fi .nil))) (.cons (.cl (.aggL (.cons .fi .nil))) .nil)) (nat_Nat_Add.cs Hq44) (.inl rfl) (.aggL (.cons .fi .nil))) ?_
                      refine O.ef0 (U.storeE (.tmp rfl) rfl rfl (.tmp (v:=.agg _) rfl) rfl rfl (.whole (notBad_ne rfl) rfl) .one) ?_
                      refine O.nil ?_
                      refine X.seq ?_
                      refine X.still ?_
                      refine O.pu (U.load (.tmp rfl) rfl rfl (U.whole rfl rfl)) ?_
                      refine O.pu (Pu.move (.tmp (v:=.int _ _) rfl)) ?_
                      repeat (rw [chattellaw06_RoundHalves.j4_e] at h;obtain ⟨k,_,h⟩:=h;unfold chattellaw06_RoundHalves.j4 at h;try dsimp only at h)
                      obtain ⟨q45,Hq45,h⟩:=Option.bind_eq_some_iff.1 h
                      refine O.pu (U.call (ss:=[]) (.cons (.tmp (v:=.agg _) rfl) (.cons (.tmp (v:=.int _ _) rfl) .nil)) (.cons (.cl (.aggL (.cons .fi (.cons .bool (.cons .fi .nil))))) (.cons (.cl .int) .nil)) (round_Whole.cs Hq45) (.inl rfl) (.tupL (.cons (.aggL (.cons .fi (.cons .bool .nil))) (.cons .int .nil)))) ?_
                      refine O.pu (Pu.move (.tmp (v:=.tup _) rfl)) ?_
                      refine O.pu (Pu.extract (.tmp rfl) rfl) ?_
                      refine O.pu (Pu.extract (.tmp rfl) rfl) ?_
                      refine O.puE (v':=.op 23 ((s2.b 23).ver + 1) 0 0) (b':=⟨(s2.b 23).ver + 1, .own,(.vals [.agg [.fi .u64 [], .bool false]]),_⟩) Pu.alloc rfl rfl ?_
                      refine O.ef0 (U.storeE (.tmp rfl) rfl rfl (.tmp (v:=.agg _) rfl) rfl rfl (.whole (notBad_ne rfl) rfl) .one) ?_
                      refine O.pu (Pu.assign (.tmp (v:=.int _ _) rfl)) ?_
                      refine O.nil ?_
                      refine X.seq ?_
                      refine X.drawn ?_
                      refine D.pu (Pu.move (.tmp (v:=.int _ _) rfl)) ?_
                      refine D.pu (Pu.bin (.tmp rfl) .int .neq) ?_
                      refine D.pu (Pu.move (.tmp (v:=.bool _) rfl)) ?_
                      refine D.splitN (fun c=>?_) (fun c=>?_)
                      · rw [if_neg c] at h
                        refine D.gskip (W.f rfl rfl rfl) ?_
                        refine D.gskip (W.f rfl rfl rfl) ?_
                        refine D.gskip (W.f rfl rfl rfl) ?_
                        refine D.gskip (W.f rfl rfl rfl) ?_
                        refine D.gskip (W.f rfl rfl rfl) ?_
                        refine D.gskip (W.f rfl rfl rfl) ?_
                        refine D.pu (Pu.pickT (.tmp rfl) .bool) ?_
                        refine D.nil (by kernel_rfl) ?_
                        refine X.condT (.tmp rfl) ?_
                        refine X.seq ?_
                        refine X.still ?_
                        refine O.pu (Pu.assign .bool) ?_
                        refine O.nil ?_
                        refine X.ret ?_
                        cases h
                        exact E.fin [] (.tmp (v:=.bool _) rfl .nil) (.cons (.cl .bool) .nil)
                      · rw [if_pos c] at h
                        refine D.gpu (W.t rfl rfl) (U.load (.tmp rfl) rfl rfl (U.whole rfl rfl)) ?_
                        refine D.gpu (W.t rfl rfl) (U.load (.tmp rfl) rfl rfl (U.whole rfl rfl)) ?_
                        refine D.gpu (W.t rfl rfl) (Pu.move (.tmp (v:=.bool _) rfl)) ?_
                        obtain ⟨q46,Hq46,h⟩:=Option.bind_eq_some_iff.1 h
                        refine D.gpu (W.t rfl rfl) (U.call (ss:=[]) (.cons (.tmp (v:=.agg _) rfl) (.cons (.tmp (v:=.bool _) rfl) .nil)) (.cons (.cl (.aggL (.cons .fi .nil))) (.cons (.cl .bool) .nil)) (whole_Of.cs Hq46) (.inl rfl) (.aggL (.cons .fi (.cons .bool .nil)))) ?_
                        obtain ⟨q47,Hq47,h⟩:=Option.bind_eq_some_iff.1 h
                        refine D.gpu (W.t rfl rfl) (U.call (ss:=[]) (.cons (.tmp (v:=.agg _) rfl) (.cons (.tmp (v:=.agg _) rfl) .nil)) (.cons (.cl (.aggL (.cons .fi (.cons .bool .nil)))) (.cons (.cl (.aggL (.cons .fi (.cons .bool .nil)))) .nil)) (whole_Int_Cmp.cs Hq47) (.inl rfl) (.int)) ?_
                        refine D.gpu (W.t rfl rfl) (Pu.bin (.tmp rfl) .int .neq) ?_
                        refine D.pu (Pu.pickF (.tmp rfl) (.tmp (v:=.bool _) rfl)) ?_
                        refine D.nil (by kernel_rfl) ?_
                        refine X.condN (.tmp rfl) (fun c=>?_) (fun c=>?_)
                        · rw [if_neg c] at h
                          refine X.seq ?_
                          refine X.still ?_
                          refine O.pu (Pu.assign .bool) ?_
                          refine O.nil ?_
                          refine X.ret ?_
                          cases h
                          exact E.fin [] (.tmp (v:=.bool _) rfl .nil) (.cons (.cl .bool) .nil)
                        · rw [if_pos c] at h
                          refine X.skip ?_
                          refine X.still ?_
                          refine O.pu (Pu.bin (.tmp rfl) .int U.add64) ?_
                          refine O.pu (Pu.move (.tmp (v:=.int _ _) rfl)) ?_
                          refine O.nil ?_
                          exact ⟨_,(by omega),(by omega),_,_,_,_,_,_,_,_,_,_,_,_,_,_,_,_,_,_,_,_,_,_,_,_,_,_,_,_,_,rfl,rfl,rfl,rfl,rfl,(by first|rfl|(simp only [List.length_set];done)|(simp only [List.length_drop,List.length_take,List.length_append,List.length_set] at *;omega)),rfl,rfl,rfl,rfl,rfl,rfl,rfl,rfl,rfl,rfl,rfl,rfl,rfl,rfl,rfl,rfl,rfl,rfl,rfl,rfl,rfl,h⟩
                    · rw [if_neg c] at h
                      refine G.pu (W.t rfl rfl) (Pu.move (.tmp (v:=.int _ _) rfl)) ?_
                      refine G.pu (W.t rfl rfl) (Pu.bin (.tmp rfl) .int .eql) ?_
                      refine G.pu (W.t rfl rfl) (Pu.move (.tmp (v:=.bool _) rfl)) ?_
                      refine O.splitE (fun c=>?_) (fun c=>?_)
                      · rw [if_pos c] at h
                        refine G.pu (W.t rfl rfl) (Pu.move (.tmp (v:=.bool _) rfl)) ?_
                        refine G.pu (W.t rfl rfl) (Pu.pickT (.tmp rfl) (.tmp (v:=.bool _) rfl)) ?_
                        refine G.pu (W.t rfl rfl) (Pu.pickF (.tmp rfl) (.tmp (v:=.bool _) rfl)) ?_
                        refine G.pu (W.t rfl rfl) (Pu.pickT (.tmp rfl) (.tmp (v:=.bool _) rfl)) ?_
                        refine O.pu (Pu.pickF (.tmp rfl) (.tmp (v:=.bool _) rfl)) ?_
                        refine O.pu (Pu.assign (.tmp (v:=.bool _) rfl)) ?_
                        refine O.nil ?_
                        refine X.seq ?_
                        refine X.still ?_
                        refine O.pu (U.load (.tmp rfl) rfl rfl (U.whole rfl rfl)) ?_
                        refine O.puE (v':=.op 22 ((s2.b 22).ver + 1) 0 0) (b':=⟨(s2.b 22).ver + 1, .own,(.vals [.agg [.fi .u64 []]]),_⟩) Pu.alloc rfl rfl ?_
                        refine O.ef0 (U.storeE (.tmp rfl) rfl rfl (.tmp (v:=.agg _) rfl) rfl rfl (.whole (notBad_ne rfl) rfl) .one) ?_
                        refine O.nil ?_
                        refine X.seq ?_
                        refine X.seq ?_
                        refine X.still ?_
                        refine O.pu (Pu.move (.tmp (v:=.bool _) rfl)) ?_
                        refine O.nil ?_
                        repeat (rw [chattellaw06_RoundHalves.j3_e] at h;obtain ⟨k,_,h⟩:=h;unfold chattellaw06_RoundHalves.j3 at h;try dsimp only at h)
                        refine X.cond (.tmp rfl) (fun c=>?_) (fun c=>?_)
                        · rw [if_pos c] at h
                          refine X.still ?_
                          refine O.pu (U.load (.tmp rfl) rfl rfl (U.whole rfl rfl)) ?_
                          refine O.pu (U.load (.tmp rfl) rfl rfl (U.whole rfl rfl)) ?_
                          obtain ⟨q48,Hq48,h⟩:=Option.bind_eq_some_iff.1 h
                          refine O.pu (U.call (ss:=[]) (.cons (.tmp (v:=.agg _) rfl) (.cons (.tmp (v:=.agg _) rfl) .nil)) (.cons (.cl (.aggL (.cons .fi .nil))) (.cons (.cl (.aggL (.cons .fi .nil))) .nil)) (nat_Nat_Add.cs Hq48) (.inl rfl) (.aggL (.cons .fi .nil))) ?_
                          refine O.ef0 (U.storeE (.tmp rfl) rfl rfl (.tmp (v:=.agg _) rfl) rfl rfl (.whole (notBad_ne rfl) rfl) .one) ?_
                          refine O.nil ?_
                          refine X.seq ?_
                          refine X.still ?_
                          refine O.pu (U.load (.tmp rfl) rfl rfl (U.whole rfl rfl)) ?_
                          refine O.pu (Pu.move (.tmp (v:=.int _ _) rfl)) ?_
                          repeat (rw [chattellaw06_RoundHalves.j4_e] at h;obtain ⟨k,_,h⟩:=h;unfold chattellaw06_RoundHalves.j4 at h;try dsimp only at h)
                          obtain ⟨q49,Hq49,h⟩:=Option.bind_eq_some_iff.1 h
                          refine O.pu (U.call (ss:=[]) (.cons (.tmp (v:=.agg _) rfl) (.cons (.tmp (v:=.int _ _) rfl) .nil)) (.cons (.cl (.aggL (.cons .fi (.cons .bool (.cons .fi .nil))))) (.cons (.cl .int) .nil)) (round_Whole.cs Hq49) (.inl rfl) (.tupL (.cons (.aggL (.cons .fi (.cons .bool .nil))) (.cons .int .nil)))) ?_
                          refine O.pu (Pu.move (.tmp (v:=.tup _) rfl)) ?_
                          refine O.pu (Pu.extract (.tmp rfl) rfl) ?_
                          refine O.pu (Pu.extract (.tmp rfl) rfl) ?_
                          refine O.puE (v':=.op 23 ((s2.b 23).ver + 1) 0 0) (b':=⟨(s2.b 23).ver + 1, .own,(.vals [.agg [.fi .u64 [], .bool false]]),_⟩) Pu.alloc rfl rfl ?_
                          refine O.ef0 (U.storeE (.tmp rfl) rfl rfl (.tmp (v:=.agg _) rfl) rfl rfl (.whole (notBad_ne rfl) rfl) .one) ?_
                          refine O.pu (Pu.assign (.tmp (v:=.int _ _) rfl)) ?_
                          refine O.nil ?_
                          refine X.seq ?_
                          refine X.drawn ?_
                          refine D.pu (Pu.move (.tmp (v:=.int _ _) rfl)) ?_
                          refine D.pu (Pu.bin (.tmp rfl) .int .neq) ?_
                          refine D.pu (Pu.move (.tmp (v:=.bool _) rfl)) ?_
                          refine D.splitN (fun c=>?_) (fun c=>?_)
                          · rw [if_neg c] at h
                            refine D.gskip (W.f rfl rfl rfl) ?_
                            refine D.gskip (W.f rfl rfl rfl) ?_
                            refine D.gskip (W.f rfl rfl rfl) ?_
                            refine D.gskip (W.f rfl rfl rfl) ?_
                            refine D.gskip (W.f rfl rfl rfl) ?_
                            refine D.gskip (W.f rfl rfl rfl) ?_
                            refine D.pu (Pu.pickT (.tmp rfl) .bool) ?_
                            refine D.nil (by kernel_rfl) ?_
                            refine X.condT (.tmp rfl) ?_
                            refine X.seq ?_
                            refine X.still ?_
                            refine O.pu (Pu.assign .bool) ?_
                            refine O.nil ?_
                            refine X.ret ?_
                            cases h
                            exact E.fin [] (.tmp (v:=.bool _) rfl .nil) (.cons (.cl .bool) .nil)
                          · rw [if_pos c] at h
                            refine D.gpu (W.t rfl rfl) (U.load (.tmp rfl) rfl rfl (U.whole rfl rfl)) ?_
                            refine D.gpu (W.t rfl rfl) (U.load (.tmp rfl) rfl rfl (U.whole rfl rfl)) ?_
                            refine D.gpu (W.t rfl rfl) (Pu.move (.tmp (v:=.bool _) rfl)) ?_
                            obtain ⟨q50,Hq50,h⟩:=Option.bind_eq_some_iff.1 h
                            refine D.gpu (W.t rfl rfl) (U.call (ss:=[]) (.cons (.tmp (v:=.agg _) rfl) (.cons (.tmp (v:=.bool _) rfl) .nil)) (.cons (.cl (.aggL (.cons .fi .nil))) (.cons (.cl .bool) .nil)) (whole_Of.cs Hq50) (.inl rfl) (.aggL (.cons .fi (.cons .bool .nil)))) ?_
                            obtain ⟨q51,Hq51,h⟩:=Option.bind_eq_some_iff.1 h
                            refine D.gpu (W.t rfl rfl) (U.call (ss:=[]) (.cons (.tmp (v:=.agg _) rfl) (.cons (.tmp (v:=.agg _) rfl) .nil)) (.cons (.cl (.aggL (.cons .fi (.cons .bool .nil)))) (.cons (.cl (.aggL (.cons .fi (.cons .bool .nil)))) .nil)) (whole_Int_Cmp.cs Hq51) (.inl rfl) (.int)) ?_
                            refine D.gpu (W.t rfl rfl) (Pu.bin (.tmp rfl) .int .neq) ?_
                            refine D.pu (Pu.pickF (.tmp rfl) (.tmp (v:=.bool _) rfl)) ?_
                            refine D.nil (by kernel_rfl) ?_
                            refine X.condN (.tmp rfl) (fun c=>?_) (fun c=>?_)
                            · rw [if_neg c] at h
                              refine X.seq ?_
                              refine X.still ?_
                              refine O.pu (Pu.assign .bool) ?_
                              refine O.nil ?_
                              refine X.ret ?_
                              cases h
                              exact E.fin [] (.tmp (v:=.bool _) rfl .nil) (.cons (.cl .bool) .nil)
                            · rw [if_pos c] at h
                              refine X.skip ?_
                              refine X.still ?_
                              refine O.pu (Pu.bin (.tmp rfl) .int U.add64) ?_
                              refine O.pu (Pu.move (.tmp (v:=.int _ _) rfl)) ?_
                              refine O.nil ?_
                              exact ⟨_,(by omega),(by omega),_,_,_,_,_,_,_,_,_,_,_,_,_,_,_,_,_,_,_,_,_,_,_,_,_,_,_,_,_,rfl,rfl,rfl,rfl,rfl,(by first|rfl|(simp only [List.length_set];done)|(simp only [List.length_drop,List.length_take,List.length_append,List.length_set] at *;omega)),rfl,rfl,rfl,rfl,rfl,rfl,rfl,rfl,rfl,rfl,rfl,rfl,rfl,rfl,rfl,rfl,rfl,rfl,rfl,rfl,rfl,h⟩
                        · rw [if_neg (bf c)] at h
                          refine X.skip ?_
                          refine X.seq ?_
                          refine X.still ?_
                          refine O.pu (U.load (.tmp rfl) rfl rfl (U.whole rfl rfl)) ?_
                          refine O.pu (Pu.move (.tmp (v:=.int _ _) rfl)) ?_
                          repeat (rw [chattellaw06_RoundHalves.j4_e] at h;obtain ⟨k,_,h⟩:=h;unfold chattellaw06_RoundHalves.j4 at h;try dsimp only at h)
                          obtain ⟨q52,Hq52,h⟩:=Option.bind_eq_some_iff.1 h
                          refine O.pu (U.call (ss:=[]) (.cons (.tmp (v:=.agg _) rfl) (.cons (.tmp (v:=.int _ _) rfl) .nil)) (.cons (.cl (.aggL (.cons .fi (.cons .bool (.cons .fi .nil))))) (.cons (.cl .int) .nil)) (round_Whole.cs Hq52) (.inl rfl) (.tupL (.cons (.aggL (.cons .fi (.cons .bool .nil))) (.cons .int .nil)))) ?_
                          refine O.pu (Pu.move (.tmp (v:=.tup _) rfl)) ?_
                          refine O.pu (Pu.extract (.tmp rfl) rfl) ?_
                          refine O.pu (Pu.extract (.tmp rfl) rfl) ?_
                          refine O.puE (v':=.op 23 ((s2.b 23).ver + 1) 0 0) (b':=⟨(s2.b 23).ver + 1, .own,(.vals [.agg [.fi .u64 [], .bool false]]),_⟩) Pu.alloc rfl rfl ?_
                          refine O.ef0 (U.storeE (.tmp rfl) rfl rfl (.tmp (v:=.agg _) rfl) rfl rfl (.whole (notBad_ne rfl) rfl) .one) ?_
                          refine O.pu (Pu.assign (.tmp (v:=.int _ _) rfl)) ?_
                          refine O.nil ?_
                          refine X.seq ?_
                          refine X.drawn ?_
                          refine D.pu (Pu.move (.tmp (v:=.int _ _) rfl)) ?_
                          refine D.pu (Pu.bin (.tmp rfl) .int .neq) ?_
                          refine D.pu (Pu.move (.tmp (v:=.bool _) rfl)) ?_
                          refine D.splitN (fun c=>?_) (fun c=>?_)
                          · rw [if_neg c] at h
                            refine D.gskip (W.f rfl rfl rfl) ?_
                            refine D.gskip (W.f rfl rfl rfl) ?_
                            refine D.gskip (W.f rfl rfl rfl) ?_
                            refine D.gskip (W.f rfl rfl rfl) ?_
                            refine D.gskip (W.f rfl rfl rfl) ?_
                            refine D.gskip (W.f rfl rfl rfl) ?_
                            refine D.pu (Pu.pickT (.tmp rfl) .bool) ?_
                            refine D.nil (by kernel_rfl) ?_
                            refine X.condT (.tmp rfl) ?_
                            refine X.seq ?_
                            refine X.still ?_
                            refine O.pu (Pu.assign .bool) ?_
                            refine O.nil ?_
                            refine X.ret ?_
                            cases h
                            exact E.fin [] (.tmp (v:=.bool _) rfl .nil) (.cons (.cl .bool) .nil)
                          · rw [if_pos c] at h
                            refine D.gpu (W.t rfl rfl) (U.load (.tmp rfl) rfl rfl (U.whole rfl rfl)) ?_
                            refine D.gpu (W.t rfl rfl) (U.load (.tmp rfl) rfl rfl (U.whole rfl rfl)) ?_
                            refine D.gpu (W.t rfl rfl) (Pu.move (.tmp (v:=.bool _) rfl)) ?_
                            obtain ⟨q53,Hq53,h⟩:=Option.bind_eq_some_iff.1 h
                            refine D.gpu (W.t rfl rfl) (U.call (ss:=[]) (.cons (.tmp (v:=.agg _) rfl) (.cons (.tmp (v:=.bool _) rfl) .nil)) (.cons (.cl (.aggL (.cons .fi .nil))) (.cons (.cl .bool) .nil)) (whole_Of.cs Hq53) (.inl rfl) (.aggL (.cons .fi (.cons .bool .nil)))) ?_
                            obtain ⟨q54,Hq54,h⟩:=Option.bind_eq_some_iff.1 h
                            refine D.gpu (W.t rfl rfl) (U.call (ss:=[]) (.cons (.tmp (v:=.agg _) rfl) (.cons (.tmp (v:=.agg _) rfl) .nil)) (.cons (.cl (.aggL (.cons .fi (.cons .bool .nil)))) (.cons (.cl (.aggL (.cons .fi (.cons .bool .nil)))) .nil)) (whole_Int_Cmp.cs Hq54) (.inl rfl) (.int)) ?_
                            refine D.gpu (W.t rfl rfl) (Pu.bin (.tmp rfl) .int .neq) ?_
                            refine D.pu (Pu.pickF (.tmp rfl) (.tmp (v:=.bool _) rfl)) ?_
                            refine D.nil (by kernel_rfl) ?_
                            refine X.condN (.tmp rfl) (fun c=>?_) (fun c=>?_)
                            · rw [if_neg c] at h
                              refine X.seq ?_
                              refine X.still ?_
                              refine O.pu (Pu.assign .bool) ?_
                              refine O.nil ?_
                              refine X.ret ?_
                              cases h
                              exact E.fin [] (.tmp (v:=.bool _) rfl .nil) (.cons (.cl .bool) .nil)
                            · rw [if_pos c] at h
                              refine X.skip ?_
                              refine X.still ?_
                              refine O.pu (Pu.bin (.tmp rfl) .int U.add64) ?_
                              refine O.pu (Pu.move (.tmp (v:=.int _ _) rfl)) ?_
                              refine O.nil ?_
                              exact ⟨_,(by omega),(by omega),_,_,_,_,_,_,_,_,_,_,_,_,_,_,_,_,_,_,_,_,_,_,_,_,_,_,_,_,_,rfl,rfl,rfl,rfl,rfl,(by first|rfl|(simp only [List.length_set];done)|(simp only [List.length_drop,List.length_take,List.length_append,List.length_set] at *;omega)),rfl,rfl,rfl,rfl,rfl,rfl,rfl,rfl,rfl,rfl,rfl,rfl,rfl,rfl,rfl,rfl,rfl,rfl,rfl,rfl,rfl,h⟩
                      · rw [if_neg c] at h
                        refine G.skip (W.f rfl rfl rfl) ?_
                        refine G.pu (W.t rfl rfl) (Pu.pickF (.tmp rfl) .bool) ?_
                        refine G.pu (W.t rfl rfl) (Pu.pickF (.tmp rfl) (.tmp (v:=.bool _) rfl)) ?_
                        refine G.pu (W.t rfl rfl) (Pu.pickT (.tmp rfl) (.tmp (v:=.bool _) rfl)) ?_
                        refine O.pu (Pu.pickF (.tmp rfl) (.tmp (v:=.bool _) rfl)) ?_
                        refine O.pu (Pu.assign (.tmp (v:=.bool _) rfl)) ?_
                        refine O.nil ?_
                        refine X.seq ?_
                        refine X.still ?_
                        refine O.pu (U.load (.tmp rfl) rfl rfl (U.whole rfl rfl)) ?_
                        refine O.puE (v':=.op 22 ((s2.b 22).ver + 1) 0 0) (b':=⟨(s2.b 22).ver + 1, .own,(.vals [.agg [.fi .u64 []]]),_⟩) Pu.alloc rfl rfl ?_
                        refine O.ef0 (U.storeE (.tmp rfl) rfl rfl (.tmp (v:=.agg _) rfl) rfl rfl (.whole (notBad_ne rfl) rfl) .one) ?_
                        refine O.nil ?_
                        refine X.seq ?_
                        refine X.seq ?_
                        refine X.still ?_
                        refine O.pu (Pu.move (.tmp (v:=.bool _) rfl)) ?_
                        refine O.nil ?_
                        repeat (rw [chattellaw06_RoundHalves.j3_e] at h;obtain ⟨k,_,h⟩:=h;unfold chattellaw06_RoundHalves.j3 at h;try dsimp only at h)
                        rw [if_neg Bool.false_ne_true] at h
                        refine X.condF (.tmp rfl) ?_
                        refine X.skip ?_
                        refine X.seq ?_
                        refine X.still ?_
                        refine O.pu (U.load (.tmp rfl) rfl rfl (U.whole rfl rfl)) ?_
                        refine O.pu (Pu.move (.tmp (v:=.int _ _) rfl)) ?_
                        repeat (rw [chattellaw06_RoundHalves.j4_e] at h;obtain ⟨k,_,h⟩:=h;unfold chattellaw06_RoundHalves.j4 at h;try dsimp only at h)
                        obtain ⟨q55,Hq55,h⟩:=Option.bind_eq_some_iff.1 h
                        refine O.pu (U.call (ss:=[]) (.cons (.tmp (v:=.agg _) rfl) (.cons (.tmp (v:=.int _ _) rfl) .nil)) (.cons (.cl (.aggL (.cons .fi (.cons .bool (.cons .fi .nil))))) (.cons (.cl .int) .nil)) (round_Whole.cs Hq55) (.inl rfl) (.tupL (.cons (.aggL (.cons .fi (.cons .bool .nil))) (.cons .int .nil)))) ?_
                        refine O.pu (Pu.move (.tmp (v:=.tup _) rfl)) ?_
                        refine O.pu (Pu.extract (.tmp rfl) rfl) ?_
                        refine O.pu (Pu.extract (.tmp rfl) rfl) ?_
                        refine O.puE (v':=.op 23 ((s2.b 23).ver + 1) 0 0) (b':=⟨(s2.b 23).ver + 1, .own,(.vals [.agg [.fi .u64 [], .bool false]]),_⟩) Pu.alloc rfl rfl ?_
                        refine O.ef0 (U.storeE (.tmp rfl) rfl rfl (.tmp (v:=.agg _) rfl) rfl rfl (.whole (notBad_ne rfl) rfl) .one) ?_
                        refine O.pu (Pu.assign (.tmp (v:=.int _ _) rfl)) ?_
                        refine O.nil ?_
                        refine X.seq ?_
                        refine X.drawn ?_
                        refine D.pu (Pu.move (.tmp (v:=.int _ _) rfl)) ?_
                        refine D.pu (Pu.bin (.tmp rfl) .int .neq) ?_
                        refine D.pu (Pu.move (.tmp (v:=.bool _) rfl)) ?_
                        refine D.splitN (fun c=>?_) (fun c=>?_)
                        · rw [if_neg c] at h
                          refine D.gskip (W.f rfl rfl rfl) ?_
                          refine D.gskip (W.f rfl rfl rfl) ?_
                          refine D.gskip (W.f rfl rfl rfl) ?_
                          refine D.gskip (W.f rfl rfl rfl) ?_
                          refine D.gskip (W.f rfl rfl rfl) ?_
                          refine D.gskip (W.f rfl rfl rfl) ?_
                          refine D.pu (Pu.pickT (.tmp rfl) .bool) ?_
                          refine D.nil (by kernel_rfl) ?_
                          refine X.condT (.tmp rfl) ?_
                          refine X.seq ?_
                          refine X.still ?_
                          refine O.pu (Pu.assign .bool) ?_
                          refine O.nil ?_
                          refine X.ret ?_
                          cases h
                          exact E.fin [] (.tmp (v:=.bool _) rfl .nil) (.cons (.cl .bool) .nil)
                        · rw [if_pos c] at h
                          refine D.gpu (W.t rfl rfl) (U.load (.tmp rfl) rfl rfl (U.whole rfl rfl)) ?_
                          refine D.gpu (W.t rfl rfl) (U.load (.tmp rfl) rfl rfl (U.whole rfl rfl)) ?_
                          refine D.gpu (W.t rfl rfl) (Pu.move (.tmp (v:=.bool _) rfl)) ?_
                          obtain ⟨q56,Hq56,h⟩:=Option.bind_eq_some_iff.1 h
                          refine D.gpu (W.t rfl rfl) (U.call (ss:=[]) (.cons (.tmp (v:=.agg _) rfl) (.cons (.tmp (v:=.bool _) rfl) .nil)) (.cons (.cl (.aggL (.cons .fi .nil))) (.cons (.cl .bool) .nil)) (whole_Of.cs Hq56) (.inl rfl) (.aggL (.cons .fi (.cons .bool .nil)))) ?_
                          obtain ⟨q57,Hq57,h⟩:=Option.bind_eq_some_iff.1 h
                          refine D.gpu (W.t rfl rfl) (U.call (ss:=[]) (.cons (.tmp (v:=.agg _) rfl) (.cons (.tmp (v:=.agg _) rfl) .nil)) (.cons (.cl (.aggL (.cons .fi (.cons .bool .nil)))) (.cons (.cl (.aggL (.cons .fi (.cons .bool .nil)))) .nil)) (whole_Int_Cmp.cs Hq57) (.inl rfl) (.int)) ?_
                          refine D.gpu (W.t rfl rfl) (Pu.bin (.tmp rfl) .int .neq) ?_
                          refine D.pu (Pu.pickF (.tmp rfl) (.tmp (v:=.bool _) rfl)) ?_
                          refine D.nil (by kernel_rfl) ?_
                          refine X.condN (.tmp rfl) (fun c=>?_) (fun c=>?_)
                          · rw [if_neg c] at h
                            refine X.seq ?_
                            refine X.still ?_
                            refine O.pu (Pu.assign .bool) ?_
                            refine O.nil ?_
                            refine X.ret ?_
                            cases h
                            exact E.fin [] (.tmp (v:=.bool _) rfl .nil) (.cons (.cl .bool) .nil)
                          · rw [if_pos c] at h
                            refine X.skip ?_
                            refine X.still ?_
                            refine O.pu (Pu.bin (.tmp rfl) .int U.add64) ?_
                            refine O.pu (Pu.move (.tmp (v:=.int _ _) rfl)) ?_
                            refine O.nil ?_
                            exact ⟨_,(by omega),(by omega),_,_,_,_,_,_,_,_,_,_,_,_,_,_,_,_,_,_,_,_,_,_,_,_,_,_,_,_,_,rfl,rfl,rfl,rfl,rfl,(by first|rfl|(simp only [List.length_set];done)|(simp only [List.length_drop,List.length_take,List.length_append,List.length_set] at *;omega)),rfl,rfl,rfl,rfl,rfl,rfl,rfl,rfl,rfl,rfl,rfl,rfl,rfl,rfl,rfl,rfl,rfl,rfl,rfl,rfl,rfl,h⟩
                  · rw [if_neg c] at h
                    refine G.skip (W.f rfl rfl rfl) ?_
                    refine G.skip (W.f rfl rfl rfl) ?_
                    refine G.skipN (b:=false) (W.f rfl rfl rfl) ?_
                    refine G.skip (W.n rfl rfl) ?_
                    refine G.skip (W.n rfl rfl) ?_
                    refine G.skipN (b:=true) (W.n rfl rfl) ?_
                    refine G.skip (W.n rfl rfl) ?_
                    refine G.skip (W.n rfl rfl) ?_
                    refine G.skip (W.f rfl rfl rfl) ?_
                    refine G.pu (W.t rfl rfl) (Pu.pickF (.tmp rfl) .bool) ?_
                    refine O.pu (Pu.pickF (.tmp rfl) (.tmp (v:=.bool _) rfl)) ?_
                    refine O.pu (Pu.assign (.tmp (v:=.bool _) rfl)) ?_
                    refine O.nil ?_
                    refine X.seq ?_
                    refine X.still ?_
                    refine O.pu (U.load (.tmp rfl) rfl rfl (U.whole rfl rfl)) ?_
                    refine O.puE (v':=.op 22 ((s2.b 22).ver + 1) 0 0) (b':=⟨(s2.b 22).ver + 1, .own,(.vals [.agg [.fi .u64 []]]),_⟩) Pu.alloc rfl rfl ?_
                    refine O.ef0 (U.storeE (.tmp rfl) rfl rfl (.tmp (v:=.agg _) rfl) rfl rfl (.whole (notBad_ne rfl) rfl) .one) ?_
                    refine O.nil ?_
                    refine X.seq ?_
                    refine X.seq ?_
                    refine X.still ?_
                    refine O.pu (Pu.move (.tmp (v:=.bool _) rfl)) ?_
                    refine O.nil ?_
                    repeat (rw [chattellaw06_RoundHalves.j3_e] at h;obtain ⟨k,_,h⟩:=h;unfold chattellaw06_RoundHalves.j3 at h;try dsimp only at h)
                    rw [if_neg Bool.false_ne_true] at h
                    refine X.condF (.tmp rfl) ?_
                    refine X.skip ?_
                    refine X.seq ?_
                    refine X.still ?_
                    refine O.pu (U.load (.tmp rfl) rfl rfl (U.whole rfl rfl)) ?_
                    refine O.pu (Pu.move (.tmp (v:=.int _ _) rfl)) ?_
                    repeat (rw [chattellaw06_RoundHalves.j4_e] at h;obtain ⟨k,_,h⟩:=h;unfold chattellaw06_RoundHalves.j4 at h;try dsimp only at h)
                    obtain ⟨q58,Hq58,h⟩:=Option.bind_eq_some_iff.1 h
                    refine O.pu (U.call (ss:=[]) (.cons (.tmp (v:=.agg _) rfl) (.cons (.tmp (v:=.int _ _) rfl) .nil)) (.cons (.cl (.aggL (.cons .fi (.cons .bool (.cons .fi .nil))))) (.cons (.cl .int) .nil)) (round_Whole.cs Hq58) (.inl rfl) (.tupL (.cons (.aggL (.cons .fi (.cons .bool .nil))) (.cons .int .nil)))) ?_
                    refine O.pu (Pu.move (.tmp (v:=.tup _) rfl)) ?_
                    refine O.pu (Pu.extract (.tmp rfl) rfl) ?_
                    refine O.pu (Pu.extract (.tmp rfl) rfl) ?_
                    refine O.puE (v':=.op 23 ((s2.b 23).ver + 1) 0 0) (b':=⟨(s2.b 23).ver + 1, .own,(.vals [.agg [.fi .u64 [], .bool false]]),_⟩) Pu.alloc rfl rfl ?_
                    refine O.ef0 (U.storeE (.tmp rfl) rfl rfl (.tmp (v:=.agg _) rfl) rfl rfl (.whole (notBad_ne rfl) rfl) .one) ?_
                    refine O.pu (Pu.assign (.tmp (v:=.int _ _) rfl)) ?_
                    refine O.nil ?_
                    refine X.seq ?_
                    refine X.drawn ?_
                    refine D.pu (Pu.move (.tmp (v:=.int _ _) rfl)) ?_
                    refine D.pu (Pu.bin (.tmp rfl) .int .neq) ?_
                    refine D.pu (Pu.move (.tmp (v:=.bool _) rfl)) ?_
                    refine D.splitN (fun c=>?_) (fun c=>?_)
                    · rw [if_neg c] at h
                      refine D.gskip (W.f rfl rfl rfl) ?_
                      refine D.gskip (W.f rfl rfl rfl) ?_
                      refine D.gskip (W.f rfl rfl rfl) ?_
                      refine D.gskip (W.f rfl rfl rfl) ?_
                      refine D.gskip (W.f rfl rfl rfl) ?_
                      refine D.gskip (W.f rfl rfl rfl) ?_
                      refine D.pu (Pu.pickT (.tmp rfl) .bool) ?_
                      refine D.nil (by kernel_rfl) ?_
                      refine X.condT (.tmp rfl) ?_
                      refine X.seq ?_
                      refine X.still ?_
                      refine O.pu (Pu.assign .bool) ?_
                      refine O.nil ?_
                      refine X.ret ?_
                      cases h
                      exact E.fin [] (.tmp (v:=.bool _) rfl .nil) (.cons (.cl .bool) .nil)
                    · rw [if_pos c] at h
                      refine D.gpu (W.t rfl rfl) (U.load (.tmp rfl) rfl rfl (U.whole rfl rfl)) ?_
                      refine D.gpu (W.t rfl rfl) (U.load (.tmp rfl) rfl rfl (U.whole rfl rfl)) ?_
                      refine D.gpu (W.t rfl rfl) (Pu.move (.tmp (v:=.bool _) rfl)) ?_
                      obtain ⟨q59,Hq59,h⟩:=Option.bind_eq_some_iff.1 h
                      refine D.gpu (W.t rfl rfl) (U.call (ss:=[]) (.cons (.tmp (v:=.agg _) rfl) (.cons (.tmp (v:=.bool _) rfl) .nil)) (.cons (.cl (.aggL (.cons .fi .nil))) (.cons (.cl .bool) .nil)) (whole_Of.cs Hq59) (.inl rfl) (.aggL (.cons .fi (.cons .bool .nil)))) ?_
                      obtain ⟨q60,Hq60,h⟩:=Option.bind_eq_some_iff.1 h
                      refine D.gpu (W.t rfl rfl) (U.call (ss:=[]) (.cons (.tmp (v:=.agg _) rfl) (.cons (.tmp (v:=.agg _) rfl) .nil)) (.cons (.cl (.aggL (.cons .fi (.cons .bool .nil)))) (.cons (.cl (.aggL (.cons .fi (.cons .bool .nil)))) .nil)) (whole_Int_Cmp.cs Hq60) (.inl rfl) (.int)) ?_
                      refine D.gpu (W.t rfl rfl) (Pu.bin (.tmp rfl) .int .neq) ?_
                      refine D.pu (Pu.pickF (.tmp rfl) (.tmp (v:=.bool _) rfl)) ?_
                      refine D.nil (by kernel_rfl) ?_
                      refine X.condN (.tmp rfl) (fun c=>?_) (fun c=>?_)
                      · rw [if_neg c] at h
                        refine X.seq ?_
                        refine X.still ?_
                        refine O.pu (Pu.assign .bool) ?_
                        refine O.nil ?_
                        refine X.ret ?_
                        cases h
                        exact E.fin [] (.tmp (v:=.bool _) rfl .nil) (.cons (.cl .bool) .nil)
                      · rw [if_pos c] at h
                        refine X.skip ?_
                        refine X.still ?_
                        refine O.pu (Pu.bin (.tmp rfl) .int U.add64) ?_
                        refine O.pu (Pu.move (.tmp (v:=.int _ _) rfl)) ?_
                        refine O.nil ?_
                        exact ⟨_,(by omega),(by omega),_,_,_,_,_,_,_,_,_,_,_,_,_,_,_,_,_,_,_,_,_,_,_,_,_,_,_,_,_,rfl,rfl,rfl,rfl,rfl,(by first|rfl|(simp only [List.length_set];done)|(simp only [List.length_drop,List.length_take,List.length_append,List.length_set] at *;omega)),rfl,rfl,rfl,rfl,rfl,rfl,rfl,rfl,rfl,rfl,rfl,rfl,rfl,rfl,rfl,rfl,rfl,rfl,rfl,rfl,rfl,h⟩
            · rw [if_neg c] at h
              refine X.exit (B.out ?_)
              refine X.still ?_
              refine O.pu (Pu.bin (.tmp rfl) .int U.add64) ?_
              refine O.pu (Pu.move (.tmp (v:=.int _ _) rfl)) ?_
              refine O.nil ?_
              exact ⟨_,(by omega),_,_,_,_,_,_,_,_,_,_,_,_,_,_,_,_,_,_,_,_,_,rfl,rfl,rfl,rfl,(by first|rfl|(simp only [List.length_set];done)|(simp only [List.length_drop,List.length_take,List.length_append,List.length_set] at *;omega)),rfl,rfl,rfl,rfl,rfl,rfl,rfl,rfl,rfl,rfl,rfl,rfl,rfl,rfl,rfl,rfl,h⟩
      · rw [if_neg c] at h
        refine X.exit (B.out ?_)
        refine X.seq ?_
        refine X.still ?_
        obtain ⟨q61,Hq61,h⟩:=Option.bind_eq_some_iff.1 h
        refine O.pu (U.call (ss:=[]) .nil .nil (chattellaw06_wakes.cs Hq61) (.inl rfl) (.bool)) ?_
        refine O.pu (Pu.assign (.tmp (v:=.bool _) rfl)) ?_
        refine O.nil ?_
        refine X.ret ?_
        cases h
        exact E.fin [] (.tmp (v:=.bool _) rfl .nil) (.cons (.cl .bool) .nil)
  · rw [if_neg c] at h
    refine G.skip (W.f rfl rfl rfl) ?_
    refine G.skip (W.f rfl rfl rfl) ?_
    refine G.skip (W.f rfl rfl rfl) ?_
    refine G.skip (W.f rfl rfl rfl) ?_
    refine G.skip (W.f rfl rfl rfl) ?_
    refine G.skip (W.f rfl rfl rfl) ?_
    refine O.pu (Pu.pickF (.tmp rfl) .bool) ?_
    refine O.pu (Pu.assign (.tmp (v:=.bool _) rfl)) ?_
    refine O.nil ?_
    refine X.seq ?_
    refine X.seq ?_
    refine X.drawn ?_
    refine D.pu (U.load (.tmp rfl) rfl rfl (U.whole rfl rfl)) ?_
    refine D.pu (U.load (.tmp rfl) rfl rfl (U.whole rfl rfl)) ?_
    refine D.pu (U.load (.tmp rfl) rfl rfl (U.whole rfl rfl)) ?_
    refine D.pu (U.load (.tmp rfl) rfl rfl (U.whole rfl rfl)) ?_
    repeat (rw [chattellaw06_RoundHalves.j0_e] at h;obtain ⟨k,_,h⟩:=h;unfold chattellaw06_RoundHalves.j0 at h;try dsimp only at h)
    obtain ⟨q62,Hq62,h⟩:=Option.bind_eq_some_iff.1 h
    refine D.pu (U.call (ss:=[]) (.cons (.tmp (v:=.agg _) rfl) (.cons (.tmp (v:=.agg _) rfl) .nil)) (.cons (.cl (.aggL (.cons .fi .nil))) (.cons (.cl (.aggL (.cons .fi .nil))) .nil)) (nat_Nat_Add.cs Hq62) (.inl rfl) (.aggL (.cons .fi .nil))) ?_
    refine D.puE (v':=.os 79 (1) 0 _ true) (b':=⟨1, .own,_,_⟩) (U.litS (en:=en26) (l:=[⟨_⟩,⟨_⟩,⟨_⟩]) rfl (.cons (.tmp (v:=.agg _) rfl) rfl (.cons (.tmp (v:=.agg _) rfl) rfl (.cons (.tmp (v:=.agg _) rfl) rfl .nil))) rfl rfl rfl (fun _=>rfl)) rfl rfl ?_
    refine D.pu (Pu.lenO rfl (.tmp rfl)) ?_
    refine D.pu (Pu.move .int) ?_
    refine D.nil (by kernel_rfl) ?_
    refine X.block ?_
    repeat rw [bdff] at h
    refine X.inv (fun k s=>∃ x2 x15 x79 x80 x81 x2254000 x2281000 x2289000 n79 u10 u11 u12 u13 u7 u79 u8 u9 z10_0 z12_0 z13_0 z8_0,s.t 2 = .bool x2∧s.t 15 = .bool x15∧s.b 79=⟨u79, .own, .vals (List.map en26 x79),26⟩∧s.t 79 = .os 79 u79 0 n79 true∧x79.length=n79∧s.t 80 = .int .i64 x80∧s.t 81 = .int .i64 x81∧s.t 7 = .op 7 u7 0 0∧s.b 7=⟨u7, .own, .vals [.agg [.fi .u64 x2254000]],26⟩∧s.t 8 = .op 8 u8 0 0∧s.b 8=⟨u8, .own, .vals [.agg [.fi .u64 z8_0]],26⟩∧s.t 9 = .op 9 u9 0 0∧s.b 9=⟨u9, .own, .vals [.agg [.fi .u64 x2281000]],26⟩∧s.t 10 = .op 10 u10 0 0∧s.b 10=⟨u10, .own, .vals [.agg [.fi .u64 z10_0]],26⟩∧s.t 11 = .op 11 u11 0 0∧s.b 11=⟨u11, .own, .vals [.agg [.fi .u64 x2289000]],26⟩∧s.t 12 = .op 12 u12 0 0∧s.b 12=⟨u12, .own, .vals [.agg [.fi .u64 z12_0]],26⟩∧s.t 13 = .op 13 u13 0 0∧s.b 13=⟨u13, .own, .vals [.agg [.fi .u64 z13_0]],26⟩∧chattellaw06_RoundHalves.l0 k x2 x15 x79 x80 x81 x2254000 x2281000 x2289000=some r) ?_ ?_ ⟨_,_,_,_,_,_,_,_,_,_,_,_,_,_,_,_,_,_,_,_,_,rfl,rfl,rfl,rfl,rfl,rfl,rfl,rfl,rfl,rfl,rfl,rfl,rfl,rfl,rfl,rfl,rfl,rfl,rfl,rfl,rfl,h⟩
    · rintro s ⟨_,_,_,_,_,_,_,_,_,_,_,_,_,_,_,_,_,_,_,_,_,_,_,_,_,_,_,_,_,_,_,_,_,_,_,_,_,_,_,_,_,_,h⟩;unfold chattellaw06_RoundHalves.l0 at h;cases h
    · rintro k1 s1 ⟨x2,x15,x79,x80,x81,x2254000,x2281000,x2289000,n79,u10,u11,u12,u13,u7,u79,u8,u9,z10_0,z12_0,z13_0,z8_0,e0,e1,e2,e3,rfl,e5,e6,e7,e8,e9,e10,e11,e12,e13,e14,e15,e16,e17,e18,e19,e20,h⟩
      unfold chattellaw06_RoundHalves.l0 at h
      rw [St.fixT e0,St.fixT e1,St.fixB e2,St.fixT e3,St.fixT e5,St.fixT e6,St.fixT e7,St.fixB e8,St.fixT e9,St.fixB e10,St.fixT e11,St.fixB e12,St.fixT e13,St.fixB e14,St.fixT e15,St.fixB e16,St.fixT e17,St.fixB e18,St.fixT e19,St.fixB e20]
      refine X.seq ?_
      refine X.still ?_
      refine O.pu (Pu.bin (.tmp rfl) (.tmp rfl) .lss) ?_
      refine O.nil ?_
      refine X.seq ?_
      refine X.condP (.tmp rfl) (fun c=>?_) (fun c=>?_)
      · rw [if_pos c] at h
        refine X.skip ?_
        refine X.seq ?_
        refine X.block ?_
        refine X.seq ?_
        refine X.still ?_
        refine O.pu (Pu.move (.tmp (v:=.int _ _) rfl)) ?_
        repeat (rw [giff] at h;obtain ⟨_,h⟩:=h)
        refine O.pu (U.indexVG z26 rfl (.tmp rfl) rfl (.tmp rfl) (by omega) (by omega) (by first|rfl|(simp only [List.length_set];done)|(simp only [List.length_drop,List.length_take,List.length_append,List.length_set] at *;omega)) (fun _=>⟨rfl,rfl⟩)) ?_
        refine O.pu (U.rdVG z26 (.tmp rfl) rfl (fun _=>U.whole rfl rfl) (by omega) (by omega)) ?_
        refine O.puE (v':=.op 17 ((s1.b 17).ver + 1) 0 0) (b':=⟨(s1.b 17).ver + 1, .own,(.vals [.agg [.fi .u64 []]]),_⟩) Pu.alloc rfl rfl ?_
        refine O.pu (Pu.assign (.tmp (v:=.int _ _) rfl)) ?_
        refine O.ef0 (U.storeE (.tmp rfl) rfl rfl (.tmp (v:=.agg _) rfl) rfl rfl (.whole (notBad_ne rfl) rfl) .one) ?_
        refine O.nil ?_
        refine X.seq ?_
        refine X.drawn ?_
        refine D.pu (U.load (.tmp rfl) rfl rfl (U.whole rfl rfl)) ?_
        refine D.pu (Pu.move (.tmp (v:=.bool _) rfl)) ?_
        obtain ⟨q63,Hq63,h⟩:=Option.bind_eq_some_iff.1 h
        refine D.pu (U.call (ss:=[]) (.cons (.tmp (v:=.agg _) rfl) (.cons (.tmp (v:=.bool _) rfl) .nil)) (.cons (.cl (.aggL (.cons .fi .nil))) (.cons (.cl .bool) .nil)) (whole_Of.cs Hq63) (.inl rfl) (.aggL (.cons .fi (.cons .bool .nil)))) ?_
        refine D.pu (U.load (.tmp rfl) rfl rfl (U.whole rfl rfl)) ?_
        obtain ⟨q64,Hq64,h⟩:=Option.bind_eq_some_iff.1 h
        refine D.pu (U.call (ss:=[]) (.cons (.tmp (v:=.agg _) rfl) (.cons .bool .nil)) (.cons (.cl (.aggL (.cons .fi .nil))) (.cons (.cl .bool) .nil)) (whole_Of.cs Hq64) (.inl rfl) (.aggL (.cons .fi (.cons .bool .nil)))) ?_
        obtain ⟨q65,Hq65,h⟩:=Option.bind_eq_some_iff.1 h
        refine D.pu (U.call (ss:=[]) (.cons (.tmp (v:=.agg _) rfl) (.cons (.tmp (v:=.agg _) rfl) .nil)) (.cons (.cl (.aggL (.cons .fi (.cons .bool .nil)))) (.cons (.cl (.aggL (.cons .fi (.cons .bool .nil)))) .nil)) (frac_Of.cs Hq65) (.inl rfl) (.tupL (.cons (.aggL (.cons .fi (.cons .bool (.cons .fi .nil)))) (.cons .int .nil)))) ?_
        refine D.pu (Pu.move (.tmp (v:=.tup _) rfl)) ?_
        refine D.pu (Pu.extract (.tmp rfl) rfl) ?_
        refine D.pu (Pu.extract (.tmp rfl) rfl) ?_
        refine D.puE (v':=.op 18 ((s1.b 18).ver + 1) 0 0) (b':=⟨(s1.b 18).ver + 1, .own,(.vals [.agg [.fi .u64 [], .bool false, .fi .u64 []]]),_⟩) Pu.alloc rfl rfl ?_
        refine D.ef0 (C.storeE (.tmp rfl) rfl rfl (.tmp (v:=.agg _) rfl) rfl rfl (.whole (notBad_ne rfl) rfl) .one) ?_
        refine D.pu (Pu.assign (.tmp (v:=.int _ _) rfl)) ?_
        refine D.nil (by kernel_rfl) ?_
        refine X.seq ?_
        refine X.seq ?_
        refine X.still ?_
        refine O.pu (Pu.move (.tmp (v:=.int _ _) rfl)) ?_
        refine O.pu (Pu.bin (.tmp rfl) .int .neq) ?_
        refine O.nil ?_
        refine X.condN (.tmp rfl) (fun c=>?_) (fun c=>?_)
        · rw [if_neg c] at h
          refine X.seq ?_
          refine X.still ?_
          refine O.pu (Pu.assign .bool) ?_
          refine O.nil ?_
          refine X.ret ?_
          cases h
          exact E.fin [] (.tmp (v:=.bool _) rfl .nil) (.cons (.cl .bool) .nil)
        · rw [if_pos c] at h
          refine X.skip ?_
          refine X.seq ?_
          refine X.still ?_
          refine O.pu (Pu.move .int) ?_
          refine O.nil ?_
          refine X.block ?_
          refine X.inv (fun k s=>k≤k1∧∃ x2 x15 x16 x79 x80 x81 x97 x2254000 x2281000 x2289000 x2337000 x2337001 x2337002 n79 u10 u11 u12 u13 u17 u18 u7 u79 u8 u9 z10_0 z12_0 z13_0 z17_0 z8_0,s.t 2 = .bool x2∧s.t 15 = .bool x15∧s.t 16 = .int .i64 x16∧s.b 79=⟨u79, .own, .vals (List.map en26 x79),26⟩∧s.t 79 = .os 79 u79 0 n79 true∧x79.length=n79∧s.t 80 = .int .i64 x80∧s.t 81 = .int .i64 x81∧s.t 97 = .int .i64 x97∧s.t 7 = .op 7 u7 0 0∧s.b 7=⟨u7, .own, .vals [.agg [.fi .u64 x2254000]],26⟩∧s.t 8 = .op 8 u8 0 0∧s.b 8=⟨u8, .own, .vals [.agg [.fi .u64 z8_0]],26⟩∧s.t 9 = .op 9 u9 0 0∧s.b 9=⟨u9, .own, .vals [.agg [.fi .u64 x2281000]],26⟩∧s.t 10 = .op 10 u10 0 0∧s.b 10=⟨u10, .own, .vals [.agg [.fi .u64 z10_0]],26⟩∧s.t 11 = .op 11 u11 0 0∧s.b 11=⟨u11, .own, .vals [.agg [.fi .u64 x2289000]],26⟩∧s.t 12 = .op 12 u12 0 0∧s.b 12=⟨u12, .own, .vals [.agg [.fi .u64 z12_0]],26⟩∧s.t 13 = .op 13 u13 0 0∧s.b 13=⟨u13, .own, .vals [.agg [.fi .u64 z13_0]],26⟩∧s.t 17 = .op 17 u17 0 0∧s.b 17=⟨u17, .own, .vals [.agg [.fi .u64 z17_0]],26⟩∧s.t 18 = .op 18 u18 0 0∧s.b 18=⟨u18, .own, .vals [.agg [.fi .u64 x2337000, .bool x2337001, .fi .u64 x2337002]],30⟩∧chattellaw06_RoundHalves.l1 k x2 x15 x16 x79 x80 x81 x97 x2254000 x2281000 x2289000 x2337000 x2337001 x2337002=some r) ?_ ?_ ⟨(by omega),_,_,_,_,_,_,_,_,_,_,_,_,_,_,_,_,_,_,_,_,_,_,_,_,_,_,_,_,_,rfl,rfl,rfl,rfl,rfl,(by first|rfl|(simp only [List.length_set];done)|(simp only [List.length_drop,List.length_take,List.length_append,List.length_set] at *;omega)),rfl,rfl,rfl,rfl,rfl,rfl,rfl,rfl,rfl,rfl,rfl,rfl,rfl,rfl,rfl,rfl,rfl,rfl,rfl,rfl,rfl,h⟩
          · rintro s ⟨_,_,_,_,_,_,_,_,_,_,_,_,_,_,_,_,_,_,_,_,_,_,_,_,_,_,_,_,_,_,_,_,_,_,_,_,_,_,_,_,_,_,_,_,_,_,_,_,_,_,_,_,_,_,_,_,_,h⟩;unfold chattellaw06_RoundHalves.l1 at h;cases h
          · rintro k2 s2 ⟨kl2,x2,x15,x16,x79,x80,x81,x97,x2254000,x2281000,x2289000,x2337000,x2337001,x2337002,n79,u10,u11,u12,u13,u17,u18,u7,u79,u8,u9,z10_0,z12_0,z13_0,z17_0,z8_0,e0,e1,e2,e3,e4,rfl,e6,e7,e8,e9,e10,e11,e12,e13,e14,e15,e16,e17,e18,e19,e20,e21,e22,e23,e24,e25,e26,h⟩
            unfold chattellaw06_RoundHalves.l1 at h
            rw [St.fixT e0,St.fixT e1,St.fixT e2,St.fixB e3,St.fixT e4,St.fixT e6,St.fixT e7,St.fixT e8,St.fixT e9,St.fixB e10,St.fixT e11,St.fixB e12,St.fixT e13,St.fixB e14,St.fixT e15,St.fixB e16,St.fixT e17,St.fixB e18,St.fixT e19,St.fixB e20,St.fixT e21,St.fixB e22,St.fixT e23,St.fixB e24,St.fixT e25,St.fixB e26]
            refine X.seq ?_
            refine X.still ?_
            refine O.pu (Pu.bin (.tmp rfl) .int .lss) ?_
            refine O.nil ?_
            refine X.seq ?_
            refine X.condP (.tmp rfl) (fun c=>?_) (fun c=>?_)
            · rw [if_pos c] at h
              refine X.skip ?_
              refine X.seq ?_
              refine X.block ?_
              refine X.seq ?_
              refine X.still ?_
              refine O.pu (Pu.move (.tmp (v:=.int _ _) rfl)) ?_
              refine O.pu (Pu.assign (.tmp (v:=.int _ _) rfl)) ?_
              refine O.nil ?_
              refine X.seq ?_
              refine X.still ?_
              refine O.pu (Pu.move (.tmp (v:=.int _ _) rfl)) ?_
              refine O.pu (Pu.bin (.tmp rfl) .int .eql) ?_
              refine O.pu (Pu.move (.tmp (v:=.bool _) rfl)) ?_
              refine O.splitE (fun c=>?_) (fun c=>?_)
              · rw [if_pos c] at h
                refine G.skip (W.f rfl rfl rfl) ?_
                refine G.skip (W.f rfl rfl rfl) ?_
                refine G.skipN (b:=true) (W.f rfl rfl rfl) ?_
                refine G.skip (W.n rfl rfl) ?_
                refine G.skip (W.n rfl rfl) ?_
                refine G.skip (W.f rfl rfl rfl) ?_
                refine O.pu (Pu.pickT (.tmp rfl) .bool) ?_
                refine O.pu (Pu.move (.tmp (v:=.bool _) rfl)) ?_
                refine G.skip (W.f rfl rfl rfl) ?_
                refine G.skip (W.f rfl rfl rfl) ?_
                refine G.skipN (b:=true) (W.f rfl rfl rfl) ?_
                refine G.skip (W.n rfl rfl) ?_
                refine G.skip (W.n rfl rfl) ?_
                refine G.skipN (b:=false) (W.n rfl rfl) ?_
                refine G.skip (W.n rfl rfl) ?_
                refine G.skip (W.n rfl rfl) ?_
                refine G.skipN (b:=true) (W.n rfl rfl) ?_
                refine G.skip (W.n rfl rfl) ?_
                refine G.skip (W.n rfl rfl) ?_
                refine G.skip (W.n rfl rfl) ?_
                refine G.skip (W.f rfl rfl rfl) ?_
                refine O.pu (Pu.pickT (.tmp rfl) .bool) ?_
                refine O.pu (Pu.assign (.tmp (v:=.bool _) rfl)) ?_
                refine O.nil ?_
                refine X.seq ?_
                refine X.still ?_
                refine O.pu (U.load (.tmp rfl) rfl rfl (U.whole rfl rfl)) ?_
                refine O.puE (v':=.op 22 ((s2.b 22).ver + 1) 0 0) (b':=⟨(s2.b 22).ver + 1, .own,(.vals [.agg [.fi .u64 []]]),_⟩) Pu.alloc rfl rfl ?_
                refine O.ef0 (U.storeE (.tmp rfl) rfl rfl (.tmp (v:=.agg _) rfl) rfl rfl (.whole (notBad_ne rfl) rfl) .one) ?_
                refine O.nil ?_
                refine X.seq ?_
                refine X.seq ?_
                refine X.still ?_
                refine O.pu (Pu.move (.tmp (v:=.bool _) rfl)) ?_
                refine O.nil ?_
                repeat (rw [chattellaw06_RoundHalves.j3_e] at h;obtain ⟨k,_,h⟩:=h;unfold chattellaw06_RoundHalves.j3 at h;try dsimp only at h)
                rw [if_pos rfl] at h
                refine X.condT (.tmp rfl) ?_
                refine X.still ?_
                refine O.pu (U.load (.tmp rfl) rfl rfl (U.whole rfl rfl)) ?_
                refine O.pu (U.load (.tmp rfl) rfl rfl (U.whole rfl rfl)) ?_
                obtain ⟨q66,Hq66,h⟩:=Option.bind_eq_some_iff.1 h
                refine O.pu (U.call (ss:=[]) (.cons (.tmp (v:=.agg _) rfl) (.cons (.tmp (v:=.agg _) rfl) .nil)) (.cons (.cl (.aggL (.cons .fi .nil))) (.cons (.cl (.aggL (.cons .fi .nil))) .nil)) (nat_Nat_Add.cs Hq66) (.inl rfl) (.aggL (.cons .fi .nil))) ?_
                refine O.ef0 (U.storeE (.tmp rfl) rfl rfl (.tmp (v:=.agg _) rfl) rfl rfl (.whole (notBad_ne rfl) rfl) .one) ?_
                refine O.nil ?_
                refine X.seq ?_
                refine X.still ?_
                refine O.pu (U.load (.tmp rfl) rfl rfl (U.whole rfl rfl)) ?_
                refine O.pu (Pu.move (.tmp (v:=.int _ _) rfl)) ?_
                repeat (rw [chattellaw06_RoundHalves.j4_e] at h;obtain ⟨k,_,h⟩:=h;unfold chattellaw06_RoundHalves.j4 at h;try dsimp only at h)
                obtain ⟨q67,Hq67,h⟩:=Option.bind_eq_some_iff.1 h
                refine O.pu (U.call (ss:=[]) (.cons (.tmp (v:=.agg _) rfl) (.cons (.tmp (v:=.int _ _) rfl) .nil)) (.cons (.cl (.aggL (.cons .fi (.cons .bool (.cons .fi .nil))))) (.cons (.cl .int) .nil)) (round_Whole.cs Hq67) (.inl rfl) (.tupL (.cons (.aggL (.cons .fi (.cons .bool .nil))) (.cons .int .nil)))) ?_
                refine O.pu (Pu.move (.tmp (v:=.tup _) rfl)) ?_
                refine O.pu (Pu.extract (.tmp rfl) rfl) ?_
                refine O.pu (Pu.extract (.tmp rfl) rfl) ?_
                refine O.puE (v':=.op 23 ((s2.b 23).ver + 1) 0 0) (b':=⟨(s2.b 23).ver + 1, .own,(.vals [.agg [.fi .u64 [], .bool false]]),_⟩) Pu.alloc rfl rfl ?_
                refine O.ef0 (U.storeE (.tmp rfl) rfl rfl (.tmp (v:=.agg _) rfl) rfl rfl (.whole (notBad_ne rfl) rfl) .one) ?_
                refine O.pu (Pu.assign (.tmp (v:=.int _ _) rfl)) ?_
                refine O.nil ?_
                refine X.seq ?_
                refine X.drawn ?_
                refine D.pu (Pu.move (.tmp (v:=.int _ _) rfl)) ?_
                refine D.pu (Pu.bin (.tmp rfl) .int .neq) ?_
                refine D.pu (Pu.move (.tmp (v:=.bool _) rfl)) ?_
                refine D.splitN (fun c=>?_) (fun c=>?_)
                · rw [if_neg c] at h
                  refine D.gskip (W.f rfl rfl rfl) ?_
                  refine D.gskip (W.f rfl rfl rfl) ?_
                  refine D.gskip (W.f rfl rfl rfl) ?_
                  refine D.gskip (W.f rfl rfl rfl) ?_
                  refine D.gskip (W.f rfl rfl rfl) ?_
                  refine D.gskip (W.f rfl rfl rfl) ?_
                  refine D.pu (Pu.pickT (.tmp rfl) .bool) ?_
                  refine D.nil (by kernel_rfl) ?_
                  refine X.condT (.tmp rfl) ?_
                  refine X.seq ?_
                  refine X.still ?_
                  refine O.pu (Pu.assign .bool) ?_
                  refine O.nil ?_
                  refine X.ret ?_
                  cases h
                  exact E.fin [] (.tmp (v:=.bool _) rfl .nil) (.cons (.cl .bool) .nil)
                · rw [if_pos c] at h
                  refine D.gpu (W.t rfl rfl) (U.load (.tmp rfl) rfl rfl (U.whole rfl rfl)) ?_
                  refine D.gpu (W.t rfl rfl) (U.load (.tmp rfl) rfl rfl (U.whole rfl rfl)) ?_
                  refine D.gpu (W.t rfl rfl) (Pu.move (.tmp (v:=.bool _) rfl)) ?_
                  obtain ⟨q68,Hq68,h⟩:=Option.bind_eq_some_iff.1 h
                  refine D.gpu (W.t rfl rfl) (U.call (ss:=[]) (.cons (.tmp (v:=.agg _) rfl) (.cons (.tmp (v:=.bool _) rfl) .nil)) (.cons (.cl (.aggL (.cons .fi .nil))) (.cons (.cl .bool) .nil)) (whole_Of.cs Hq68) (.inl rfl) (.aggL (.cons .fi (.cons .bool .nil)))) ?_
                  obtain ⟨q69,Hq69,h⟩:=Option.bind_eq_some_iff.1 h
                  refine D.gpu (W.t rfl rfl) (U.call (ss:=[]) (.cons (.tmp (v:=.agg _) rfl) (.cons (.tmp (v:=.agg _) rfl) .nil)) (.cons (.cl (.aggL (.cons .fi (.cons .bool .nil)))) (.cons (.cl (.aggL (.cons .fi (.cons .bool .nil)))) .nil)) (whole_Int_Cmp.cs Hq69) (.inl rfl) (.int)) ?_
                  refine D.gpu (W.t rfl rfl) (Pu.bin (.tmp rfl) .int .neq) ?_
                  refine D.pu (Pu.pickF (.tmp rfl) (.tmp (v:=.bool _) rfl)) ?_
                  refine D.nil (by kernel_rfl) ?_
                  refine X.condN (.tmp rfl) (fun c=>?_) (fun c=>?_)
                  · rw [if_neg c] at h
                    refine X.seq ?_
                    refine X.still ?_
                    refine O.pu (Pu.assign .bool) ?_
                    refine O.nil ?_
                    refine X.ret ?_
                    cases h
                    exact E.fin [] (.tmp (v:=.bool _) rfl .nil) (.cons (.cl .bool) .nil)
                  · rw [if_pos c] at h
                    refine X.skip ?_
                    refine X.still ?_
                    refine O.pu (Pu.bin (.tmp rfl) .int U.add64) ?_
                    refine O.pu (Pu.move (.tmp (v:=.int _ _) rfl)) ?_
                    refine O.nil ?_
                    exact ⟨_,(by omega),(by omega),_,_,_,_,_,_,_,_,_,_,_,_,_,_,_,_,_,_,_,_,_,_,_,_,_,_,_,_,_,rfl,rfl,rfl,rfl,rfl,(by first|rfl|(simp only [List.length_set];done)|(simp only [List.length_drop,List.length_take,List.length_append,List.length_set] at *;omega)),rfl,rfl,rfl,rfl,rfl,rfl,rfl,rfl,rfl,rfl,rfl,rfl,rfl,rfl,rfl,rfl,rfl,rfl,rfl,rfl,rfl,h⟩
              · rw [if_neg c] at h
                refine G.pu (W.t rfl rfl) (Pu.move (.tmp (v:=.int _ _) rfl)) ?_
                refine G.pu (W.t rfl rfl) (Pu.bin (.tmp rfl) .int .neq) ?_
                refine G.pu (W.t rfl rfl) (Pu.move (.tmp (v:=.bool _) rfl)) ?_
                refine O.splitN (fun c=>?_) (fun c=>?_)
                · rw [if_neg c] at h
                  refine G.pu (W.t rfl rfl) (Pu.move (.tmp (v:=.int _ _) rfl)) ?_
                  refine G.pu (W.t rfl rfl) (Pu.bin (.tmp rfl) .int .eql) ?_
                  refine G.pu (W.t rfl rfl) (Pu.pickT (.tmp rfl) (.tmp (v:=.bool _) rfl)) ?_
                  refine O.pu (Pu.pickF (.tmp rfl) (.tmp (v:=.bool _) rfl)) ?_
                  refine O.pu (Pu.move (.tmp (v:=.bool _) rfl)) ?_
                  refine O.splitE (fun c=>?_) (fun c=>?_)
                  · rw [if_pos c] at h
                    refine G.skip (W.f rfl rfl rfl) ?_
                    refine G.skip (W.f rfl rfl rfl) ?_
                    refine G.skipN (b:=true) (W.f rfl rfl rfl) ?_
                    refine G.skip (W.n rfl rfl) ?_
                    refine G.skip (W.n rfl rfl) ?_
                    refine G.skipN (b:=false) (W.n rfl rfl) ?_
                    refine G.skip (W.n rfl rfl) ?_
                    refine G.skip (W.n rfl rfl) ?_
                    refine G.skipN (b:=true) (W.n rfl rfl) ?_
                    refine G.skip (W.n rfl rfl) ?_
                    refine G.skip (W.n rfl rfl) ?_
                    refine G.skip (W.n rfl rfl) ?_
                    refine G.skip (W.f rfl rfl rfl) ?_
                    refine O.pu (Pu.pickT (.tmp rfl) .bool) ?_
                    refine O.pu (Pu.assign (.tmp (v:=.bool _) rfl)) ?_
                    refine O.nil ?_
                    refine X.seq ?_
                    refine X.still ?_
                    refine O.pu (U.load (.tmp rfl) rfl rfl (U.whole rfl rfl)) ?_
                    refine O.puE (v':=.op 22 ((s2.b 22).ver + 1) 0 0) (b':=⟨(s2.b 22).ver + 1, .own,(.vals [.agg [.fi .u64 []]]),_⟩) Pu.alloc rfl rfl ?_
                    refine O.ef0 (U.storeE (.tmp rfl) rfl rfl (.tmp (v:=.agg _) rfl) rfl rfl (.whole (notBad_ne rfl) rfl) .one) ?_
                    refine O.nil ?_
                    refine X.seq ?_
                    refine X.seq ?_
                    refine X.still ?_
                    refine O.pu (Pu.move (.tmp (v:=.bool _) rfl)) ?_
                    refine O.nil ?_
                    repeat (rw [chattellaw06_RoundHalves.j3_e] at h;obtain ⟨k,_,h⟩:=h;unfold chattellaw06_RoundHalves.j3 at h;try dsimp only at h)
                    rw [if_pos rfl] at h
                    refine X.condT (.tmp rfl) ?_
                    refine X.still ?_
                    refine O.pu (U.load (.tmp rfl) rfl rfl (U.whole rfl rfl)) ?_
                    refine O.pu (U.load (.tmp rfl) rfl rfl (U.whole rfl rfl)) ?_
                    obtain ⟨q70,Hq70,h⟩:=Option.bind_eq_some_iff.1 h
                    refine O.pu (U.call (ss:=[]) (.cons (.tmp (v:=.agg _) rfl) (.cons (.tmp (v:=.agg _) rfl) .nil)) (.cons (.cl (.aggL (.cons .fi .nil))) (.cons (.cl (.aggL (.cons .fi .nil))) .nil)) (nat_Nat_Add.cs Hq70) (.inl rfl) (.aggL (.cons .fi .nil))) ?_
                    refine O.ef0 (U.storeE (.tmp rfl) rfl rfl (.tmp (v:=.agg _) rfl) rfl rfl (.whole (notBad_ne rfl) rfl) .one) ?_
                    refine O.nil ?_
                    refine X.seq ?_
                    refine X.still ?_
                    refine O.pu (U.load (.tmp rfl) rfl rfl (U.whole rfl rfl)) ?_
                    refine O.pu (Pu.move (.tmp (v:=.int _ _) rfl)) ?_
                    repeat (rw [chattellaw06_RoundHalves.j4_e] at h;obtain ⟨k,_,h⟩:=h;unfold chattellaw06_RoundHalves.j4 at h;try dsimp only at h)
                    obtain ⟨q71,Hq71,h⟩:=Option.bind_eq_some_iff.1 h
                    refine O.pu (U.call (ss:=[]) (.cons (.tmp (v:=.agg _) rfl) (.cons (.tmp (v:=.int _ _) rfl) .nil)) (.cons (.cl (.aggL (.cons .fi (.cons .bool (.cons .fi .nil))))) (.cons (.cl .int) .nil)) (round_Whole.cs Hq71) (.inl rfl) (.tupL (.cons (.aggL (.cons .fi (.cons .bool .nil))) (.cons .int .nil)))) ?_
                    refine O.pu (Pu.move (.tmp (v:=.tup _) rfl)) ?_
                    refine O.pu (Pu.extract (.tmp rfl) rfl) ?_
                    refine O.pu (Pu.extract (.tmp rfl) rfl) ?_
                    refine O.puE (v':=.op 23 ((s2.b 23).ver + 1) 0 0) (b':=⟨(s2.b 23).ver + 1, .own,(.vals [.agg [.fi .u64 [], .bool false]]),_⟩) Pu.alloc rfl rfl ?_
                    refine O.ef0 (U.storeE (.tmp rfl) rfl rfl (.tmp (v:=.agg _) rfl) rfl rfl (.whole (notBad_ne rfl) rfl) .one) ?_
                    refine O.pu (Pu.assign (.tmp (v:=.int _ _) rfl)) ?_
                    refine O.nil ?_
                    refine X.seq ?_
                    refine X.drawn ?_
                    refine D.pu (Pu.move (.tmp (v:=.int _ _) rfl)) ?_
                    refine D.pu (Pu.bin (.tmp rfl) .int .neq) ?_
                    refine D.pu (Pu.move (.tmp (v:=.bool _) rfl)) ?_
                    refine D.splitN (fun c=>?_) (fun c=>?_)
                    · rw [if_neg c] at h
                      refine D.gskip (W.f rfl rfl rfl) ?_
                      refine D.gskip (W.f rfl rfl rfl) ?_
                      refine D.gskip (W.f rfl rfl rfl) ?_
                      refine D.gskip (W.f rfl rfl rfl) ?_
                      refine D.gskip (W.f rfl rfl rfl) ?_
                      refine D.gskip (W.f rfl rfl rfl) ?_
                      refine D.pu (Pu.pickT (.tmp rfl) .bool) ?_
                      refine D.nil (by kernel_rfl) ?_
                      refine X.condT (.tmp rfl) ?_
                      refine X.seq ?_
                      refine X.still ?_
                      refine O.pu (Pu.assign .bool) ?_
                      refine O.nil ?_
                      refine X.ret ?_
                      cases h
                      exact E.fin [] (.tmp (v:=.bool _) rfl .nil) (.cons (.cl .bool) .nil)
                    · rw [if_pos c] at h
                      refine D.gpu (W.t rfl rfl) (U.load (.tmp rfl) rfl rfl (U.whole rfl rfl)) ?_
                      refine D.gpu (W.t rfl rfl) (U.load (.tmp rfl) rfl rfl (U.whole rfl rfl)) ?_
                      refine D.gpu (W.t rfl rfl) (Pu.move (.tmp (v:=.bool _) rfl)) ?_
                      obtain ⟨q72,Hq72,h⟩:=Option.bind_eq_some_iff.1 h
                      refine D.gpu (W.t rfl rfl) (U.call (ss:=[]) (.cons (.tmp (v:=.agg _) rfl) (.cons (.tmp (v:=.bool _) rfl) .nil)) (.cons (.cl (.aggL (.cons .fi .nil))) (.cons (.cl .bool) .nil)) (whole_Of.cs Hq72) (.inl rfl) (.aggL (.cons .fi (.cons .bool .nil)))) ?_
                      obtain ⟨q73,Hq73,h⟩:=Option.bind_eq_some_iff.1 h
                      refine D.gpu (W.t rfl rfl) (U.call (ss:=[]) (.cons (.tmp (v:=.agg _) rfl) (.cons (.tmp (v:=.agg _) rfl) .nil)) (.cons (.cl (.aggL (.cons .fi (.cons .bool .nil)))) (.cons (.cl (.aggL (.cons .fi (.cons .bool .nil)))) .nil)) (whole_Int_Cmp.cs Hq73) (.inl rfl) (.int)) ?_
                      refine D.gpu (W.t rfl rfl) (Pu.bin (.tmp rfl) .int .neq) ?_
                      refine D.pu (Pu.pickF (.tmp rfl) (.tmp (v:=.bool _) rfl)) ?_
                      refine D.nil (by kernel_rfl) ?_
                      refine X.condN (.tmp rfl) (fun c=>?_) (fun c=>?_)
                      · rw [if_neg c] at h
                        refine X.seq ?_
                        refine X.still ?_
                        refine O.pu (Pu.assign .bool) ?_
                        refine O.nil ?_
                        refine X.ret ?_
                        cases h
                        exact E.fin [] (.tmp (v:=.bool _) rfl .nil) (.cons (.cl .bool) .nil)
                      · rw [if_pos c] at h
                        refine X.skip ?_
                        refine X.still ?_
                        refine O.pu (Pu.bin (.tmp rfl) .int U.add64) ?_
                        refine O.pu (Pu.move (.tmp (v:=.int _ _) rfl)) ?_
                        refine O.nil ?_
                        exact ⟨_,(by omega),(by omega),_,_,_,_,_,_,_,_,_,_,_,_,_,_,_,_,_,_,_,_,_,_,_,_,_,_,_,_,_,rfl,rfl,rfl,rfl,rfl,(by first|rfl|(simp only [List.length_set];done)|(simp only [List.length_drop,List.length_take,List.length_append,List.length_set] at *;omega)),rfl,rfl,rfl,rfl,rfl,rfl,rfl,rfl,rfl,rfl,rfl,rfl,rfl,rfl,rfl,rfl,rfl,rfl,rfl,rfl,rfl,h⟩
                  · rw [if_neg c] at h
                    refine G.pu (W.t rfl rfl) (Pu.move (.tmp (v:=.int _ _) rfl)) ?_
                    refine G.pu (W.t rfl rfl) (Pu.bin (.tmp rfl) .int .eql) ?_
                    refine G.pu (W.t rfl rfl) (Pu.move (.tmp (v:=.bool _) rfl)) ?_
                    refine O.splitE (fun c=>?_) (fun c=>?_)
                    · rw [if_pos c] at h
                      refine G.pu (W.t rfl rfl) (Pu.move (.tmp (v:=.int _ _) rfl)) ?_
                      refine G.pu (W.t rfl rfl) (Pu.bin (.tmp rfl) .int .eql) ?_
                      refine G.pu (W.t rfl rfl) (Pu.move (.tmp (v:=.bool _) rfl)) ?_
                      refine O.splitE (fun c=>?_) (fun c=>?_)
                      · rw [if_pos c] at h
                        refine G.skip (W.f rfl rfl rfl) ?_
                        refine G.skip (W.f rfl rfl rfl) ?_
                        refine G.skipN (b:=true) (W.f rfl rfl rfl) ?_
                        refine G.skip (W.n rfl rfl) ?_
                        refine G.skip (W.f rfl rfl rfl) ?_
                        refine G.pu (W.t rfl rfl) (Pu.pickT (.tmp rfl) .bool) ?_
                        refine G.pu (W.t rfl rfl) (Pu.pickT (.tmp rfl) (.tmp (v:=.bool _) rfl)) ?_
                        refine O.pu (Pu.pickF (.tmp rfl) (.tmp (v:=.bool _) rfl)) ?_
                        refine O.pu (Pu.assign (.tmp (v:=.bool _) rfl)) ?_
                        refine O.nil ?_
                        refine X.seq ?_
                        refine X.still ?_
                        refine O.pu (U.load (.tmp rfl) rfl rfl (U.whole rfl rfl)) ?_
                        refine O.puE (v':=.op 22 ((s2.b 22).ver + 1) 0 0) (b':=⟨(s2.b 22).ver + 1, .own,(.vals [.agg [.fi .u64 []]]),_⟩) Pu.alloc rfl rfl ?_
                        refine O.ef0 (U.storeE (.tmp rfl) rfl rfl (.tmp (v:=.agg _) rfl) rfl rfl (.whole (notBad_ne rfl) rfl) .one) ?_
                        refine O.nil ?_
                        refine X.seq ?_
                        refine X.seq ?_
                        refine X.still ?_
                        refine O.pu (Pu.move (.tmp (v:=.bool _) rfl)) ?_
                        refine O.nil ?_
                        repeat (rw [chattellaw06_RoundHalves.j3_e] at h;obtain ⟨k,_,h⟩:=h;unfold chattellaw06_RoundHalves.j3 at h;try dsimp only at h)
                        rw [if_pos rfl] at h
                        refine X.condT (.tmp rfl) ?_
                        refine X.still ?_
                        refine O.pu (U.load (.tmp rfl) rfl rfl (U.whole rfl rfl)) ?_
                        refine O.pu (U.load (.tmp rfl) rfl rfl (U.whole rfl rfl)) ?_
                        obtain ⟨q74,Hq74,h⟩:=Option.bind_eq_some_iff.1 h
                        refine O.pu (U.call (ss:=[]) (.cons (.tmp (v:=.agg _) rfl) (.cons (.tmp (v:=.agg _) rfl) .nil)) (.cons (.cl (.aggL (.cons .fi .nil))) (.cons (.cl (.aggL (.cons .fi .nil))) .nil)) (nat_Nat_Add.cs Hq74) (.inl rfl) (.aggL (.cons .fi .nil))) ?_
                        refine O.ef0 (U.storeE (.tmp rfl) rfl rfl (.tmp (v:=.agg _) rfl) rfl rfl (.whole (notBad_ne rfl) rfl) .one) ?_
                        refine O.nil ?_
                        refine X.seq ?_
                        refine X.still ?_
                        refine O.pu (U.load (.tmp rfl) rfl rfl (U.whole rfl rfl)) ?_
                        refine O.pu (Pu.move (.tmp (v:=.int _ _) rfl)) ?_
                        repeat (rw [chattellaw06_RoundHalves.j4_e] at h;obtain ⟨k,_,h⟩:=h;unfold chattellaw06_RoundHalves.j4 at h;try dsimp only at h)
                        obtain ⟨q75,Hq75,h⟩:=Option.bind_eq_some_iff.1 h
                        refine O.pu (U.call (ss:=[]) (.cons (.tmp (v:=.agg _) rfl) (.cons (.tmp (v:=.int _ _) rfl) .nil)) (.cons (.cl (.aggL (.cons .fi (.cons .bool (.cons .fi .nil))))) (.cons (.cl .int) .nil)) (round_Whole.cs Hq75) (.inl rfl) (.tupL (.cons (.aggL (.cons .fi (.cons .bool .nil))) (.cons .int .nil)))) ?_
                        refine O.pu (Pu.move (.tmp (v:=.tup _) rfl)) ?_
                        refine O.pu (Pu.extract (.tmp rfl) rfl) ?_
                        refine O.pu (Pu.extract (.tmp rfl) rfl) ?_
                        refine O.puE (v':=.op 23 ((s2.b 23).ver + 1) 0 0) (b':=⟨(s2.b 23).ver + 1, .own,(.vals [.agg [.fi .u64 [], .bool false]]),_⟩) Pu.alloc rfl rfl ?_
                        refine O.ef0 (U.storeE (.tmp rfl) rfl rfl (.tmp (v:=.agg _) rfl) rfl rfl (.whole (notBad_ne rfl) rfl) .one) ?_
                        refine O.pu (Pu.assign (.tmp (v:=.int _ _) rfl)) ?_
                        refine O.nil ?_
                        refine X.seq ?_
                        refine X.drawn ?_
                        refine D.pu (Pu.move (.tmp (v:=.int _ _) rfl)) ?_
                        refine D.pu (Pu.bin (.tmp rfl) .int .neq) ?_
                        refine D.pu (Pu.move (.tmp (v:=.bool _) rfl)) ?_
                        refine D.splitN (fun c=>?_) (fun c=>?_)
                        · rw [if_neg c] at h
                          refine D.gskip (W.f rfl rfl rfl) ?_
                          refine D.gskip (W.f rfl rfl rfl) ?_
                          refine D.gskip (W.f rfl rfl rfl) ?_
                          refine D.gskip (W.f rfl rfl rfl) ?_
                          refine D.gskip (W.f rfl rfl rfl) ?_
                          refine D.gskip (W.f rfl rfl rfl) ?_
                          refine D.pu (Pu.pickT (.tmp rfl) .bool) ?_
                          refine D.nil (by kernel_rfl) ?_
                          refine X.condT (.tmp rfl) ?_
                          refine X.seq ?_
                          refine X.still ?_
                          refine O.pu (Pu.assign .bool) ?_
                          refine O.nil ?_
                          refine X.ret ?_
                          cases h
                          exact E.fin [] (.tmp (v:=.bool _) rfl .nil) (.cons (.cl .bool) .nil)
                        · rw [if_pos c] at h
                          refine D.gpu (W.t rfl rfl) (U.load (.tmp rfl) rfl rfl (U.whole rfl rfl)) ?_
                          refine D.gpu (W.t rfl rfl) (U.load (.tmp rfl) rfl rfl (U.whole rfl rfl)) ?_
                          refine D.gpu (W.t rfl rfl) (Pu.move (.tmp (v:=.bool _) rfl)) ?_
                          obtain ⟨q76,Hq76,h⟩:=Option.bind_eq_some_iff.1 h
                          refine D.gpu (W.t rfl rfl) (U.call (ss:=[]) (.cons (.tmp (v:=.agg _) rfl) (.cons (.tmp (v:=.bool _) rfl) .nil)) (.cons (.cl (.aggL (.cons .fi .nil))) (.cons (.cl .bool) .nil)) (whole_Of.cs Hq76) (.inl rfl) (.aggL (.cons .fi (.cons .bool .nil)))) ?_
                          obtain ⟨q77,Hq77,h⟩:=Option.bind_eq_some_iff.1 h
                          refine D.gpu (W.t rfl rfl) (U.call (ss:=[]) (.cons (.tmp (v:=.agg _) rfl) (.cons (.tmp (v:=.agg _) rfl) .nil)) (.cons (.cl (.aggL (.cons .fi (.cons .bool .nil)))) (.cons (.cl (.aggL (.cons .fi (.cons .bool .nil)))) .nil)) (whole_Int_Cmp.cs Hq77) (.inl rfl) (.int)) ?_
                          refine D.gpu (W.t rfl rfl) (Pu.bin (.tmp rfl) .int .neq) ?_
                          refine D.pu (Pu.pickF (.tmp rfl) (.tmp (v:=.bool _) rfl)) ?_
                          refine D.nil (by kernel_rfl) ?_
                          refine X.condN (.tmp rfl) (fun c=>?_) (fun c=>?_)
                          · rw [if_neg c] at h
                            refine X.seq ?_
                            refine X.still ?_
                            refine O.pu (Pu.assign .bool) ?_
                            refine O.nil ?_
                            refine X.ret ?_
                            cases h
                            exact E.fin [] (.tmp (v:=.bool _) rfl .nil) (.cons (.cl .bool) .nil)
                          · rw [if_pos c] at h
                            refine X.skip ?_
                            refine X.still ?_
                            refine O.pu (Pu.bin (.tmp rfl) .int U.add64) ?_
                            refine O.pu (Pu.move (.tmp (v:=.int _ _) rfl)) ?_
                            refine O.nil ?_
                            exact ⟨_,(by omega),(by omega),_,_,_,_,_,_,_,_,_,_,_,_,_,_,_,_,_,_,_,_,_,_,_,_,_,_,_,_,_,rfl,rfl,rfl,rfl,rfl,(by first|rfl|(simp only [List.length_set];done)|(simp only [List.length_drop,List.length_take,List.length_append,List.length_set] at *;omega)),rfl,rfl,rfl,rfl,rfl,rfl,rfl,rfl,rfl,rfl,rfl,rfl,rfl,rfl,rfl,rfl,rfl,rfl,rfl,rfl,rfl,h⟩
                      · rw [if_neg c] at h
                        refine G.pu (W.t rfl rfl) (Pu.move (.tmp (v:=.int _ _) rfl)) ?_
                        refine G.pu (W.t rfl rfl) (Pu.bin (.tmp rfl) .int .eql) ?_
                        refine G.pu (W.t rfl rfl) (Pu.move (.tmp (v:=.bool _) rfl)) ?_
                        refine O.splitE (fun c=>?_) (fun c=>?_)
                        · rw [if_pos c] at h
                          refine G.pu (W.t rfl rfl) (Pu.move (.tmp (v:=.bool _) rfl)) ?_
                          refine G.pu (W.t rfl rfl) (Pu.pickT (.tmp rfl) (.tmp (v:=.bool _) rfl)) ?_
                          refine G.pu (W.t rfl rfl) (Pu.pickF (.tmp rfl) (.tmp (v:=.bool _) rfl)) ?_
                          refine G.pu (W.t rfl rfl) (Pu.pickT (.tmp rfl) (.tmp (v:=.bool _) rfl)) ?_
                          refine O.pu (Pu.pickF (.tmp rfl) (.tmp (v:=.bool _) rfl)) ?_
                          refine O.pu (Pu.assign (.tmp (v:=.bool _) rfl)) ?_
                          refine O.nil ?_
                          refine X.seq ?_
                          refine X.still ?_
                          refine O.pu (U.load (.tmp rfl) rfl rfl (U.whole rfl rfl)) ?_
                          refine O.puE (v':=.op 22 ((s2.b 22).ver + 1) 0 0) (b':=⟨(s2.b 22).ver + 1, .own,(.vals [.agg [.fi .u64 []]]),_⟩) Pu.alloc rfl rfl ?_
                          refine O.ef0 (U.storeE (.tmp rfl) rfl rfl (.tmp (v:=.agg _) rfl) rfl rfl (.whole (notBad_ne rfl) rfl) .one) ?_
                          refine O.nil ?_
                          refine X.seq ?_
                          refine X.seq ?_
                          refine X.still ?_
                          refine O.pu (Pu.move (.tmp (v:=.bool _) rfl)) ?_
                          refine O.nil ?_
                          repeat (rw [chattellaw06_RoundHalves.j3_e] at h;obtain ⟨k,_,h⟩:=h;unfold chattellaw06_RoundHalves.j3 at h;try dsimp only at h)
                          refine X.cond (.tmp rfl) (fun c=>?_) (fun c=>?_)
                          · rw [if_pos c] at h
                            refine X.still ?_
                            refine O.pu (U.load (.tmp rfl) rfl rfl (U.whole rfl rfl)) ?_
                            refine O.pu (U.load (.tmp rfl) rfl rfl (U.whole rfl rfl)) ?_
                            obtain ⟨q78,Hq78,h⟩:=Option.bind_eq_some_iff.1 h
                            refine O.pu (U.call (ss:=[]) (.cons (.tmp (v:=.agg _) rfl) (.cons (.tmp (v:=.agg _) rfl) .nil)) (.cons (.cl (.aggL (.cons .fi .nil))) (.cons (.cl (.aggL (.cons .fi .nil))) .nil)) (nat_Nat_Add.cs Hq78) (.inl rfl) (.aggL (.cons .fi .nil))) ?_
                            refine O.ef0 (U.storeE (.tmp rfl) rfl rfl (.tmp (v:=.agg _) rfl) rfl rfl (.whole (notBad_ne rfl) rfl) .one) ?_
                            refine O.nil ?_
                            refine X.seq ?_
                            refine X.still ?_
                            refine O.pu (U.load (.tmp rfl) rfl rfl (U.whole rfl rfl)) ?_
                            refine O.pu (Pu.move (.tmp (v:=.int _ _) rfl)) ?_
                            repeat (rw [chattellaw06_RoundHalves.j4_e] at h;obtain ⟨k,_,h⟩:=h;unfold chattellaw06_RoundHalves.j4 at h;try dsimp only at h)
                            obtain ⟨q79,Hq79,h⟩:=Option.bind_eq_some_iff.1 h
                            refine O.pu (U.call (ss:=[]) (.cons (.tmp (v:=.agg _) rfl) (.cons (.tmp (v:=.int _ _) rfl) .nil)) (.cons (.cl (.aggL (.cons .fi (.cons .bool (.cons .fi .nil))))) (.cons (.cl .int) .nil)) (round_Whole.cs Hq79) (.inl rfl) (.tupL (.cons (.aggL (.cons .fi (.cons .bool .nil))) (.cons .int .nil)))) ?_
                            refine O.pu (Pu.move (.tmp (v:=.tup _) rfl)) ?_
                            refine O.pu (Pu.extract (.tmp rfl) rfl) ?_
                            refine O.pu (Pu.extract (.tmp rfl) rfl) ?_
                            refine O.puE (v':=.op 23 ((s2.b 23).ver + 1) 0 0) (b':=⟨(s2.b 23).ver + 1, .own,(.vals [.agg [.fi .u64 [], .bool false]]),_⟩) Pu.alloc rfl rfl ?_
                            refine O.ef0 (U.storeE (.tmp rfl) rfl rfl (.tmp (v:=.agg _) rfl) rfl rfl (.whole (notBad_ne rfl) rfl) .one) ?_
                            refine O.pu (Pu.assign (.tmp (v:=.int _ _) rfl)) ?_
                            refine O.nil ?_
                            refine X.seq ?_
                            refine X.drawn ?_
                            refine D.pu (Pu.move (.tmp (v:=.int _ _) rfl)) ?_
                            refine D.pu (Pu.bin (.tmp rfl) .int .neq) ?_
                            refine D.pu (Pu.move (.tmp (v:=.bool _) rfl)) ?_
                            refine D.splitN (fun c=>?_) (fun c=>?_)
                            · rw [if_neg c] at h
                              refine D.gskip (W.f rfl rfl rfl) ?_
                              refine D.gskip (W.f rfl rfl rfl) ?_
                              refine D.gskip (W.f rfl rfl rfl) ?_
                              refine D.gskip (W.f rfl rfl rfl) ?_
                              refine D.gskip (W.f rfl rfl rfl) ?_
                              refine D.gskip (W.f rfl rfl rfl) ?_
                              refine D.pu (Pu.pickT (.tmp rfl) .bool) ?_
                              refine D.nil (by kernel_rfl) ?_
                              refine X.condT (.tmp rfl) ?_
                              refine X.seq ?_
                              refine X.still ?_
                              refine O.pu (Pu.assign .bool) ?_
                              refine O.nil ?_
                              refine X.ret ?_
                              cases h
                              exact E.fin [] (.tmp (v:=.bool _) rfl .nil) (.cons (.cl .bool) .nil)
                            · rw [if_pos c] at h
                              refine D.gpu (W.t rfl rfl) (U.load (.tmp rfl) rfl rfl (U.whole rfl rfl)) ?_
                              refine D.gpu (W.t rfl rfl) (U.load (.tmp rfl) rfl rfl (U.whole rfl rfl)) ?_
                              refine D.gpu (W.t rfl rfl) (Pu.move (.tmp (v:=.bool _) rfl)) ?_
                              obtain ⟨q80,Hq80,h⟩:=Option.bind_eq_some_iff.1 h
                              refine D.gpu (W.t rfl rfl) (U.call (ss:=[]) (.cons (.tmp (v:=.agg _) rfl) (.cons (.tmp (v:=.bool _) rfl) .nil)) (.cons (.cl (.aggL (.cons .fi .nil))) (.cons (.cl .bool) .nil)) (whole_Of.cs Hq80) (.inl rfl) (.aggL (.cons .fi (.cons .bool .nil)))) ?_
                              obtain ⟨q81,Hq81,h⟩:=Option.bind_eq_some_iff.1 h
                              refine D.gpu (W.t rfl rfl) (U.call (ss:=[]) (.cons (.tmp (v:=.agg _) rfl) (.cons (.tmp (v:=.agg _) rfl) .nil)) (.cons (.cl (.aggL (.cons .fi (.cons .bool .nil)))) (.cons (.cl (.aggL (.cons .fi (.cons .bool .nil)))) .nil)) (whole_Int_Cmp.cs Hq81) (.inl rfl) (.int)) ?_
                              refine D.gpu (W.t rfl rfl) (Pu.bin (.tmp rfl) .int .neq) ?_
                              refine D.pu (Pu.pickF (.tmp rfl) (.tmp (v:=.bool _) rfl)) ?_
                              refine D.nil (by kernel_rfl) ?_
                              refine X.condN (.tmp rfl) (fun c=>?_) (fun c=>?_)
                              · rw [if_neg c] at h
                                refine X.seq ?_
                                refine X.still ?_
                                refine O.pu (Pu.assign .bool) ?_
                                refine O.nil ?_
                                refine X.ret ?_
                                cases h
                                exact E.fin [] (.tmp (v:=.bool _) rfl .nil) (.cons (.cl .bool) .nil)
                              · rw [if_pos c] at h
                                refine X.skip ?_
                                refine X.still ?_
                                refine O.pu (Pu.bin (.tmp rfl) .int U.add64) ?_
                                refine O.pu (Pu.move (.tmp (v:=.int _ _) rfl)) ?_
                                refine O.nil ?_
                                exact ⟨_,(by omega),(by omega),_,_,_,_,_,_,_,_,_,_,_,_,_,_,_,_,_,_,_,_,_,_,_,_,_,_,_,_,_,rfl,rfl,rfl,rfl,rfl,(by first|rfl|(simp only [List.length_set];done)|(simp only [List.length_drop,List.length_take,List.length_append,List.length_set] at *;omega)),rfl,rfl,rfl,rfl,rfl,rfl,rfl,rfl,rfl,rfl,rfl,rfl,rfl,rfl,rfl,rfl,rfl,rfl,rfl,rfl,rfl,h⟩
                          · rw [if_neg (bf c)] at h
                            refine X.skip ?_
                            refine X.seq ?_
                            refine X.still ?_
                            refine O.pu (U.load (.tmp rfl) rfl rfl (U.whole rfl rfl)) ?_
                            refine O.pu (Pu.move (.tmp (v:=.int _ _) rfl)) ?_
                            repeat (rw [chattellaw06_RoundHalves.j4_e] at h;obtain ⟨k,_,h⟩:=h;unfold chattellaw06_RoundHalves.j4 at h;try dsimp only at h)
                            obtain ⟨q82,Hq82,h⟩:=Option.bind_eq_some_iff.1 h
                            refine O.pu (U.call (ss:=[]) (.cons (.tmp (v:=.agg _) rfl) (.cons (.tmp (v:=.int _ _) rfl) .nil)) (.cons (.cl (.aggL (.cons .fi (.cons .bool (.cons .fi .nil))))) (.cons (.cl .int) .nil)) (round_Whole.cs Hq82) (.inl rfl) (.tupL (.cons (.aggL (.cons .fi (.cons .bool .nil))) (.cons .int .nil)))) ?_
                            refine O.pu (Pu.move (.tmp (v:=.tup _) rfl)) ?_
                            refine O.pu (Pu.extract (.tmp rfl) rfl) ?_
                            refine O.pu (Pu.extract (.tmp rfl) rfl) ?_
                            refine O.puE (v':=.op 23 ((s2.b 23).ver + 1) 0 0) (b':=⟨(s2.b 23).ver + 1, .own,(.vals [.agg [.fi .u64 [], .bool false]]),_⟩) Pu.alloc rfl rfl ?_
                            refine O.ef0 (U.storeE (.tmp rfl) rfl rfl (.tmp (v:=.agg _) rfl) rfl rfl (.whole (notBad_ne rfl) rfl) .one) ?_
                            refine O.pu (Pu.assign (.tmp (v:=.int _ _) rfl)) ?_
                            refine O.nil ?_
                            refine X.seq ?_
                            refine X.drawn ?_
                            refine D.pu (Pu.move (.tmp (v:=.int _ _) rfl)) ?_
                            refine D.pu (Pu.bin (.tmp rfl) .int .neq) ?_
                            refine D.pu (Pu.move (.tmp (v:=.bool _) rfl)) ?_
                            refine D.splitN (fun c=>?_) (fun c=>?_)
                            · rw [if_neg c] at h
                              refine D.gskip (W.f rfl rfl rfl) ?_
                              refine D.gskip (W.f rfl rfl rfl) ?_
                              refine D.gskip (W.f rfl rfl rfl) ?_
                              refine D.gskip (W.f rfl rfl rfl) ?_
                              refine D.gskip (W.f rfl rfl rfl) ?_
                              refine D.gskip (W.f rfl rfl rfl) ?_
                              refine D.pu (Pu.pickT (.tmp rfl) .bool) ?_
                              refine D.nil (by kernel_rfl) ?_
                              refine X.condT (.tmp rfl) ?_
                              refine X.seq ?_
                              refine X.still ?_
                              refine O.pu (Pu.assign .bool) ?_
                              refine O.nil ?_
                              refine X.ret ?_
                              cases h
                              exact E.fin [] (.tmp (v:=.bool _) rfl .nil) (.cons (.cl .bool) .nil)
                            · rw [if_pos c] at h
                              refine D.gpu (W.t rfl rfl) (U.load (.tmp rfl) rfl rfl (U.whole rfl rfl)) ?_
                              refine D.gpu (W.t rfl rfl) (U.load (.tmp rfl) rfl rfl (U.whole rfl rfl)) ?_
                              refine D.gpu (W.t rfl rfl) (Pu.move (.tmp (v:=.bool _) rfl)) ?_
                              obtain ⟨q83,Hq83,h⟩:=Option.bind_eq_some_iff.1 h
                              refine D.gpu (W.t rfl rfl) (U.call (ss:=[]) (.cons (.tmp (v:=.agg _) rfl) (.cons (.tmp (v:=.bool _) rfl) .nil)) (.cons (.cl (.aggL (.cons .fi .nil))) (.cons (.cl .bool) .nil)) (whole_Of.cs Hq83) (.inl rfl) (.aggL (.cons .fi (.cons .bool .nil)))) ?_
                              obtain ⟨q84,Hq84,h⟩:=Option.bind_eq_some_iff.1 h
                              refine D.gpu (W.t rfl rfl) (U.call (ss:=[]) (.cons (.tmp (v:=.agg _) rfl) (.cons (.tmp (v:=.agg _) rfl) .nil)) (.cons (.cl (.aggL (.cons .fi (.cons .bool .nil)))) (.cons (.cl (.aggL (.cons .fi (.cons .bool .nil)))) .nil)) (whole_Int_Cmp.cs Hq84) (.inl rfl) (.int)) ?_
                              refine D.gpu (W.t rfl rfl) (Pu.bin (.tmp rfl) .int .neq) ?_
                              refine D.pu (Pu.pickF (.tmp rfl) (.tmp (v:=.bool _) rfl)) ?_
                              refine D.nil (by kernel_rfl) ?_
                              refine X.condN (.tmp rfl) (fun c=>?_) (fun c=>?_)
                              · rw [if_neg c] at h
                                refine X.seq ?_
                                refine X.still ?_
                                refine O.pu (Pu.assign .bool) ?_
                                refine O.nil ?_
                                refine X.ret ?_
                                cases h
                                exact E.fin [] (.tmp (v:=.bool _) rfl .nil) (.cons (.cl .bool) .nil)
                              · rw [if_pos c] at h
                                refine X.skip ?_
                                refine X.still ?_
                                refine O.pu (Pu.bin (.tmp rfl) .int U.add64) ?_
                                refine O.pu (Pu.move (.tmp (v:=.int _ _) rfl)) ?_
                                refine O.nil ?_
                                exact ⟨_,(by omega),(by omega),_,_,_,_,_,_,_,_,_,_,_,_,_,_,_,_,_,_,_,_,_,_,_,_,_,_,_,_,_,rfl,rfl,rfl,rfl,rfl,(by first|rfl|(simp only [List.length_set];done)|(simp only [List.length_drop,List.length_take,List.length_append,List.length_set] at *;omega)),rfl,rfl,rfl,rfl,rfl,rfl,rfl,rfl,rfl,rfl,rfl,rfl,rfl,rfl,rfl,rfl,rfl,rfl,rfl,rfl,rfl,h⟩
                        · rw [if_neg c] at h
                          refine G.skip (W.f rfl rfl rfl) ?_
                          refine G.pu (W.t rfl rfl) (Pu.pickF (.tmp rfl) .bool) ?_
                          refine G.pu (W.t rfl rfl) (Pu.pickF (.tmp rfl) (.tmp (v:=.bool _) rfl)) ?_
                          refine G.pu (W.t rfl rfl) (Pu.pickT (.tmp rfl) (.tmp (v:=.bool _) rfl)) ?_
                          refine O.pu (Pu.pickF (.tmp rfl) (.tmp (v:=.bool _) rfl)) ?_
                          refine O.pu (Pu.assign (.tmp (v:=.bool _) rfl)) ?_
                          refine O.nil ?_
                          refine X.seq ?_
                          refine X.still ?_
                          refine O.pu (U.load (.tmp rfl) rfl rfl (U.whole rfl rfl)) ?_
                          refine O.puE (v':=.op 22 ((s2.b 22).ver + 1) 0 0) (b':=⟨(s2.b 22).ver + 1, .own,(.vals [.agg [.fi .u64 []]]),_⟩) Pu.alloc rfl rfl ?_
                          refine O.ef0 (U.storeE (.tmp rfl) rfl rfl (.tmp (v:=.agg _) rfl) rfl rfl (.whole (notBad_ne rfl) rfl) .one) ?_
                          refine O.nil ?_
                          refine X.seq ?_
                          refine X.seq ?_
                          refine X.still ?_
                          refine O.pu (Pu.move (.tmp (v:=.bool _) rfl)) ?_
                          refine O.nil ?_
                          repeat (rw [chattellaw06_RoundHalves.j3_e] at h;obtain ⟨k,_,h⟩:=h;unfold chattellaw06_RoundHalves.j3 at h;try dsimp only at h)
                          rw [if_neg Bool.false_ne_true] at h
                          refine X.condF (.tmp rfl) ?_
                          refine X.skip ?_
                          refine X.seq ?_
                          refine X.still ?_
                          refine O.pu (U.load (.tmp rfl) rfl rfl (U.whole rfl rfl)) ?_
                          refine O.pu (Pu.move (.tmp (v:=.int _ _) rfl)) ?_
                          repeat (rw [chattellaw06_RoundHalves.j4_e] at h;obtain ⟨k,_,h⟩:=h;unfold chattellaw06_RoundHalves.j4 at h;try dsimp only at h)
                          obtain ⟨q85,Hq85,h⟩:=Option.bind_eq_some_iff.1 h
                          refine O.pu (U.call (ss:=[]) (.cons (.tmp (v:=.agg _) rfl) (.cons (.tmp (v:=.int _ _) rfl) .nil)) (.cons (.cl (.aggL (.cons .fi (.cons .bool (.cons .fi .nil))))) (.cons (.cl .int) .nil)) (round_Whole.cs Hq85) (.inl rfl) (.tupL (.cons (.aggL (.cons .fi (.cons .bool .nil))) (.cons .int .nil)))) ?_
                          refine O.pu (Pu.move (.tmp (v:=.tup _) rfl)) ?_
                          refine O.pu (Pu.extract (.tmp rfl) rfl) ?_
                          refine O.pu (Pu.extract (.tmp rfl) rfl) ?_
                          refine O.puE (v':=.op 23 ((s2.b 23).ver + 1) 0 0) (b':=⟨(s2.b 23).ver + 1, .own,(.vals [.agg [.fi .u64 [], .bool false]]),_⟩) Pu.alloc rfl rfl ?_
                          refine O.ef0 (U.storeE (.tmp rfl) rfl rfl (.tmp (v:=.agg _) rfl) rfl rfl (.whole (notBad_ne rfl) rfl) .one) ?_
                          refine O.pu (Pu.assign (.tmp (v:=.int _ _) rfl)) ?_
                          refine O.nil ?_
                          refine X.seq ?_
                          refine X.drawn ?_
                          refine D.pu (Pu.move (.tmp (v:=.int _ _) rfl)) ?_
                          refine D.pu (Pu.bin (.tmp rfl) .int .neq) ?_
                          refine D.pu (Pu.move (.tmp (v:=.bool _) rfl)) ?_
                          refine D.splitN (fun c=>?_) (fun c=>?_)
                          · rw [if_neg c] at h
                            refine D.gskip (W.f rfl rfl rfl) ?_
                            refine D.gskip (W.f rfl rfl rfl) ?_
                            refine D.gskip (W.f rfl rfl rfl) ?_
                            refine D.gskip (W.f rfl rfl rfl) ?_
                            refine D.gskip (W.f rfl rfl rfl) ?_
                            refine D.gskip (W.f rfl rfl rfl) ?_
                            refine D.pu (Pu.pickT (.tmp rfl) .bool) ?_
                            refine D.nil (by kernel_rfl) ?_
                            refine X.condT (.tmp rfl) ?_
                            refine X.seq ?_
                            refine X.still ?_
                            refine O.pu (Pu.assign .bool) ?_
                            refine O.nil ?_
                            refine X.ret ?_
                            cases h
                            exact E.fin [] (.tmp (v:=.bool _) rfl .nil) (.cons (.cl .bool) .nil)
                          · rw [if_pos c] at h
                            refine D.gpu (W.t rfl rfl) (U.load (.tmp rfl) rfl rfl (U.whole rfl rfl)) ?_
                            refine D.gpu (W.t rfl rfl) (U.load (.tmp rfl) rfl rfl (U.whole rfl rfl)) ?_
                            refine D.gpu (W.t rfl rfl) (Pu.move (.tmp (v:=.bool _) rfl)) ?_
                            obtain ⟨q86,Hq86,h⟩:=Option.bind_eq_some_iff.1 h
                            refine D.gpu (W.t rfl rfl) (U.call (ss:=[]) (.cons (.tmp (v:=.agg _) rfl) (.cons (.tmp (v:=.bool _) rfl) .nil)) (.cons (.cl (.aggL (.cons .fi .nil))) (.cons (.cl .bool) .nil)) (whole_Of.cs Hq86) (.inl rfl) (.aggL (.cons .fi (.cons .bool .nil)))) ?_
                            obtain ⟨q87,Hq87,h⟩:=Option.bind_eq_some_iff.1 h
                            refine D.gpu (W.t rfl rfl) (U.call (ss:=[]) (.cons (.tmp (v:=.agg _) rfl) (.cons (.tmp (v:=.agg _) rfl) .nil)) (.cons (.cl (.aggL (.cons .fi (.cons .bool .nil)))) (.cons (.cl (.aggL (.cons .fi (.cons .bool .nil)))) .nil)) (whole_Int_Cmp.cs Hq87) (.inl rfl) (.int)) ?_
                            refine D.gpu (W.t rfl rfl) (Pu.bin (.tmp rfl) .int .neq) ?_
                            refine D.pu (Pu.pickF (.tmp rfl) (.tmp (v:=.bool _) rfl)) ?_
                            refine D.nil (by kernel_rfl) ?_
                            refine X.condN (.tmp rfl) (fun c=>?_) (fun c=>?_)
                            · rw [if_neg c] at h
                              refine X.seq ?_
                              refine X.still ?_
                              refine O.pu (Pu.assign .bool) ?_
                              refine O.nil ?_
                              refine X.ret ?_
                              cases h
                              exact E.fin [] (.tmp (v:=.bool _) rfl .nil) (.cons (.cl .bool) .nil)
                            · rw [if_pos c] at h
                              refine X.skip ?_
                              refine X.still ?_
                              refine O.pu (Pu.bin (.tmp rfl) .int U.add64) ?_
                              refine O.pu (Pu.move (.tmp (v:=.int _ _) rfl)) ?_
                              refine O.nil ?_
                              exact ⟨_,(by omega),(by omega),_,_,_,_,_,_,_,_,_,_,_,_,_,_,_,_,_,_,_,_,_,_,_,_,_,_,_,_,_,rfl,rfl,rfl,rfl,rfl,(by first|rfl|(simp only [List.length_set];done)|(simp only [List.length_drop,List.length_take,List.length_append,List.length_set] at *;omega)),rfl,rfl,rfl,rfl,rfl,rfl,rfl,rfl,rfl,rfl,rfl,rfl,rfl,rfl,rfl,rfl,rfl,rfl,rfl,rfl,rfl,h⟩
                    · rw [if_neg c] at h
                      refine G.skip (W.f rfl rfl rfl) ?_
                      refine G.skip (W.f rfl rfl rfl) ?_
                      refine G.skipN (b:=false) (W.f rfl rfl rfl) ?_
                      refine G.skip (W.n rfl rfl) ?_
                      refine G.skip (W.n rfl rfl) ?_
                      refine G.skipN (b:=true) (W.n rfl rfl) ?_
                      refine G.skip (W.n rfl rfl) ?_
                      refine G.skip (W.n rfl rfl) ?_
                      refine G.skip (W.f rfl rfl rfl) ?_
                      refine G.pu (W.t rfl rfl) (Pu.pickF (.tmp rfl) .bool) ?_
                      refine O.pu (Pu.pickF (.tmp rfl) (.tmp (v:=.bool _) rfl)) ?_
                      refine O.pu (Pu.assign (.tmp (v:=.bool _) rfl)) ?_
                      refine O.nil ?_
                      refine X.seq ?_
                      refine X.still ?_
                      refine O.pu (U.load (.tmp rfl) rfl rfl (U.whole rfl rfl)) ?_
                      refine O.puE (v':=.op 22 ((s2.b 22).ver + 1) 0 0) (b':=⟨(s2.b 22).ver + 1, .own,(.vals [.agg [.fi .u64 []]]),_⟩) Pu.alloc rfl rfl ?_
                      refine O.ef0 (U.storeE (.tmp rfl) rfl rfl (.tmp (v:=.agg _) rfl) rfl rfl (.whole (notBad_ne rfl) rfl) .one) ?_
                      refine O.nil ?_
                      refine X.seq ?_
                      refine X.seq ?_
                      refine X.still ?_
                      refine O.pu (Pu.move (.tmp (v:=.bool _) rfl)) ?_
                      refine O.nil ?_
                      repeat (rw [chattellaw06_RoundHalves.j3_e] at h;obtain ⟨k,_,h⟩:=h;unfold chattellaw06_RoundHalves.j3 at h;try dsimp only at h)
                      rw [if_neg Bool.false_ne_true] at h
                      refine X.condF (.tmp rfl) ?_
                      refine X.skip ?_
                      refine X.seq ?_
                      refine X.still ?_
                      refine O.pu (U.load (.tmp rfl) rfl rfl (U.whole rfl rfl)) ?_
                      refine O.pu (Pu.move (.tmp (v:=.int _ _) rfl)) ?_
                      repeat (rw [chattellaw06_RoundHalves.j4_e] at h;obtain ⟨k,_,h⟩:=h;unfold chattellaw06_RoundHalves.j4 at h;try dsimp only at h)
                      obtain ⟨q88,Hq88,h⟩:=Option.bind_eq_some_iff.1 h
                      refine O.pu (U.call (ss:=[]) (.cons (.tmp (v:=.agg _) rfl) (.cons (.tmp (v:=.int _ _) rfl) .nil)) (.cons (.cl (.aggL (.cons .fi (.cons .bool (.cons .fi .nil))))) (.cons (.cl .int) .nil)) (round_Whole.cs Hq88) (.inl rfl) (.tupL (.cons (.aggL (.cons .fi (.cons .bool .nil))) (.cons .int .nil)))) ?_
                      refine O.pu (Pu.move (.tmp (v:=.tup _) rfl)) ?_
                      refine O.pu (Pu.extract (.tmp rfl) rfl) ?_
                      refine O.pu (Pu.extract (.tmp rfl) rfl) ?_
                      refine O.puE (v':=.op 23 ((s2.b 23).ver + 1) 0 0) (b':=⟨(s2.b 23).ver + 1, .own,(.vals [.agg [.fi .u64 [], .bool false]]),_⟩) Pu.alloc rfl rfl ?_
                      refine O.ef0 (U.storeE (.tmp rfl) rfl rfl (.tmp (v:=.agg _) rfl) rfl rfl (.whole (notBad_ne rfl) rfl) .one) ?_
                      refine O.pu (Pu.assign (.tmp (v:=.int _ _) rfl)) ?_
                      refine O.nil ?_
                      refine X.seq ?_
                      refine X.drawn ?_
                      refine D.pu (Pu.move (.tmp (v:=.int _ _) rfl)) ?_
                      refine D.pu (Pu.bin (.tmp rfl) .int .neq) ?_
                      refine D.pu (Pu.move (.tmp (v:=.bool _) rfl)) ?_
                      refine D.splitN (fun c=>?_) (fun c=>?_)
                      · rw [if_neg c] at h
                        refine D.gskip (W.f rfl rfl rfl) ?_
                        refine D.gskip (W.f rfl rfl rfl) ?_
                        refine D.gskip (W.f rfl rfl rfl) ?_
                        refine D.gskip (W.f rfl rfl rfl) ?_
                        refine D.gskip (W.f rfl rfl rfl) ?_
                        refine D.gskip (W.f rfl rfl rfl) ?_
                        refine D.pu (Pu.pickT (.tmp rfl) .bool) ?_
                        refine D.nil (by kernel_rfl) ?_
                        refine X.condT (.tmp rfl) ?_
                        refine X.seq ?_
                        refine X.still ?_
                        refine O.pu (Pu.assign .bool) ?_
                        refine O.nil ?_
                        refine X.ret ?_
                        cases h
                        exact E.fin [] (.tmp (v:=.bool _) rfl .nil) (.cons (.cl .bool) .nil)
                      · rw [if_pos c] at h
                        refine D.gpu (W.t rfl rfl) (U.load (.tmp rfl) rfl rfl (U.whole rfl rfl)) ?_
                        refine D.gpu (W.t rfl rfl) (U.load (.tmp rfl) rfl rfl (U.whole rfl rfl)) ?_
                        refine D.gpu (W.t rfl rfl) (Pu.move (.tmp (v:=.bool _) rfl)) ?_
                        obtain ⟨q89,Hq89,h⟩:=Option.bind_eq_some_iff.1 h
                        refine D.gpu (W.t rfl rfl) (U.call (ss:=[]) (.cons (.tmp (v:=.agg _) rfl) (.cons (.tmp (v:=.bool _) rfl) .nil)) (.cons (.cl (.aggL (.cons .fi .nil))) (.cons (.cl .bool) .nil)) (whole_Of.cs Hq89) (.inl rfl) (.aggL (.cons .fi (.cons .bool .nil)))) ?_
                        obtain ⟨q90,Hq90,h⟩:=Option.bind_eq_some_iff.1 h
                        refine D.gpu (W.t rfl rfl) (U.call (ss:=[]) (.cons (.tmp (v:=.agg _) rfl) (.cons (.tmp (v:=.agg _) rfl) .nil)) (.cons (.cl (.aggL (.cons .fi (.cons .bool .nil)))) (.cons (.cl (.aggL (.cons .fi (.cons .bool .nil)))) .nil)) (whole_Int_Cmp.cs Hq90) (.inl rfl) (.int)) ?_
                        refine D.gpu (W.t rfl rfl) (Pu.bin (.tmp rfl) .int .neq) ?_
                        refine D.pu (Pu.pickF (.tmp rfl) (.tmp (v:=.bool _) rfl)) ?_
                        refine D.nil (by kernel_rfl) ?_
                        refine X.condN (.tmp rfl) (fun c=>?_) (fun c=>?_)
                        · rw [if_neg c] at h
                          refine X.seq ?_
                          refine X.still ?_
                          refine O.pu (Pu.assign .bool) ?_
                          refine O.nil ?_
                          refine X.ret ?_
                          cases h
                          exact E.fin [] (.tmp (v:=.bool _) rfl .nil) (.cons (.cl .bool) .nil)
                        · rw [if_pos c] at h
                          refine X.skip ?_
                          refine X.still ?_
                          refine O.pu (Pu.bin (.tmp rfl) .int U.add64) ?_
                          refine O.pu (Pu.move (.tmp (v:=.int _ _) rfl)) ?_
                          refine O.nil ?_
                          exact ⟨_,(by omega),(by omega),_,_,_,_,_,_,_,_,_,_,_,_,_,_,_,_,_,_,_,_,_,_,_,_,_,_,_,_,_,rfl,rfl,rfl,rfl,rfl,(by first|rfl|(simp only [List.length_set];done)|(simp only [List.length_drop,List.length_take,List.length_append,List.length_set] at *;omega)),rfl,rfl,rfl,rfl,rfl,rfl,rfl,rfl,rfl,rfl,rfl,rfl,rfl,rfl,rfl,rfl,rfl,rfl,rfl,rfl,rfl,h⟩
                · rw [if_pos c] at h
                  refine G.skip (W.f rfl rfl rfl) ?_
                  refine G.skip (W.f rfl rfl rfl) ?_
                  refine G.pu (W.t rfl rfl) (Pu.pickF (.tmp rfl) .bool) ?_
                  refine O.pu (Pu.pickF (.tmp rfl) (.tmp (v:=.bool _) rfl)) ?_
                  refine O.pu (Pu.move (.tmp (v:=.bool _) rfl)) ?_
                  refine G.pu (W.t rfl rfl) (Pu.move (.tmp (v:=.int _ _) rfl)) ?_
                  refine G.pu (W.t rfl rfl) (Pu.bin (.tmp rfl) .int .eql) ?_
                  refine G.pu (W.t rfl rfl) (Pu.move (.tmp (v:=.bool _) rfl)) ?_
                  refine O.splitE (fun c=>?_) (fun c=>?_)
                  · rw [if_pos c] at h
                    refine G.pu (W.t rfl rfl) (Pu.move (.tmp (v:=.int _ _) rfl)) ?_
                    refine G.pu (W.t rfl rfl) (Pu.bin (.tmp rfl) .int .eql) ?_
                    refine G.pu (W.t rfl rfl) (Pu.move (.tmp (v:=.bool _) rfl)) ?_
                    refine O.splitE (fun c=>?_) (fun c=>?_)
                    · rw [if_pos c] at h
                      refine G.skip (W.f rfl rfl rfl) ?_
                      refine G.skip (W.f rfl rfl rfl) ?_
                      refine G.skipN (b:=true) (W.f rfl rfl rfl) ?_
                      refine G.skip (W.n rfl rfl) ?_
                      refine G.skip (W.f rfl rfl rfl) ?_
                      refine G.pu (W.t rfl rfl) (Pu.pickT (.tmp rfl) .bool) ?_
                      refine G.pu (W.t rfl rfl) (Pu.pickT (.tmp rfl) (.tmp (v:=.bool _) rfl)) ?_
                      refine O.pu (Pu.pickF (.tmp rfl) (.tmp (v:=.bool _) rfl)) ?_
                      refine O.pu (Pu.assign (.tmp (v:=.bool _) rfl)) ?_
                      refine O.nil ?_
                      refine X.seq ?_
                      refine X.still ?_
                      refine O.pu (U.load (.tmp rfl) rfl rfl (U.whole rfl rfl)) ?_
                      refine O.puE (v':=.op 22 ((s2.b 22).ver + 1) 0 0) (b':=⟨(s2.b 22).ver + 1, .own,(.vals [.agg [.fi .u64 []]]),_⟩) Pu.alloc rfl rfl ?_
                      refine O.ef0 (U.storeE (.tmp rfl) rfl rfl (.tmp (v:=.agg _) rfl) rfl rfl (.whole (notBad_ne rfl) rfl) .one) ?_
                      refine O.nil ?_
                      refine X.seq ?_
                      refine X.seq ?_
                      refine X.still ?_
                      refine O.pu (Pu.move (.tmp (v:=.bool _) rfl)) ?_
                      refine O.nil ?_
                      repeat (rw [chattellaw06_RoundHalves.j3_e] at h;obtain ⟨k,_,h⟩:=h;unfold chattellaw06_RoundHalves.j3 at h;try dsimp only at h)
                      rw [if_pos rfl] at h
                      refine X.condT (.tmp rfl) ?_
                      refine X.still ?_
                      refine O.pu (U.load (.tmp rfl) rfl rfl (U.whole rfl rfl)) ?_
                      refine O.pu (U.load (.tmp rfl) rfl rfl (U.whole rfl rfl)) ?_
                      obtain ⟨q91,Hq91,h⟩:=Option.bind_eq_some_iff.1 h
                      refine O.pu (U.call (ss:=[]) (.cons (.tmp (v:=.agg _) rfl) (.cons (.tmp (v:=.agg _) rfl) .nil)) (.cons (.cl (.aggL (.cons .fi .nil))) (.cons (.cl (.aggL (.cons .fi .nil))) .nil)) (nat_Nat_Add.cs Hq91) (.inl rfl) (.aggL (.cons .fi .nil))) ?_
                      refine O.ef0 (U.storeE (.tmp rfl) rfl rfl (.tmp (v:=.agg _) rfl) rfl rfl (.whole (notBad_ne rfl) rfl) .one) ?_
                      refine O.nil ?_
                      refine X.seq ?_
                      refine X.still ?_
                      refine O.pu (U.load (.tmp rfl) rfl rfl (U.whole rfl rfl)) ?_
                      refine O.pu (Pu.move (.tmp (v:=.int _ _) rfl)) ?_
                      repeat (rw [chattellaw06_RoundHalves.j4_e] at h;obtain ⟨k,_,h⟩:=h;unfold chattellaw06_RoundHalves.j4 at h;try dsimp only at h)
                      obtain ⟨q92,Hq92,h⟩:=Option.bind_eq_some_iff.1 h
                      refine O.pu (U.call (ss:=[]) (.cons (.tmp (v:=.agg _) rfl) (.cons (.tmp (v:=.int _ _) rfl) .nil)) (.cons (.cl (.aggL (.cons .fi (.cons .bool (.cons .fi .nil))))) (.cons (.cl .int) .nil)) (round_Whole.cs Hq92) (.inl rfl) (.tupL (.cons (.aggL (.cons .fi (.cons .bool .nil))) (.cons .int .nil)))) ?_
                      refine O.pu (Pu.move (.tmp (v:=.tup _) rfl)) ?_
                      refine O.pu (Pu.extract (.tmp rfl) rfl) ?_
                      refine O.pu (Pu.extract (.tmp rfl) rfl) ?_
                      refine O.puE (v':=.op 23 ((s2.b 23).ver + 1) 0 0) (b':=⟨(s2.b 23).ver + 1, .own,(.vals [.agg [.fi .u64 [], .bool false]]),_⟩) Pu.alloc rfl rfl ?_
                      refine O.ef0 (U.storeE (.tmp rfl) rfl rfl (.tmp (v:=.agg _) rfl) rfl rfl (.whole (notBad_ne rfl) rfl) .one) ?_
                      refine O.pu (Pu.assign (.tmp (v:=.int _ _) rfl)) ?_
                      refine O.nil ?_
                      refine X.seq ?_
                      refine X.drawn ?_
                      refine D.pu (Pu.move (.tmp (v:=.int _ _) rfl)) ?_
                      refine D.pu (Pu.bin (.tmp rfl) .int .neq) ?_
                      refine D.pu (Pu.move (.tmp (v:=.bool _) rfl)) ?_
                      refine D.splitN (fun c=>?_) (fun c=>?_)
                      · rw [if_neg c] at h
                        refine D.gskip (W.f rfl rfl rfl) ?_
                        refine D.gskip (W.f rfl rfl rfl) ?_
                        refine D.gskip (W.f rfl rfl rfl) ?_
                        refine D.gskip (W.f rfl rfl rfl) ?_
                        refine D.gskip (W.f rfl rfl rfl) ?_
                        refine D.gskip (W.f rfl rfl rfl) ?_
                        refine D.pu (Pu.pickT (.tmp rfl) .bool) ?_
                        refine D.nil (by kernel_rfl) ?_
                        refine X.condT (.tmp rfl) ?_
                        refine X.seq ?_
                        refine X.still ?_
                        refine O.pu (Pu.assign .bool) ?_
                        refine O.nil ?_
                        refine X.ret ?_
                        cases h
                        exact E.fin [] (.tmp (v:=.bool _) rfl .nil) (.cons (.cl .bool) .nil)
                      · rw [if_pos c] at h
                        refine D.gpu (W.t rfl rfl) (U.load (.tmp rfl) rfl rfl (U.whole rfl rfl)) ?_
                        refine D.gpu (W.t rfl rfl) (U.load (.tmp rfl) rfl rfl (U.whole rfl rfl)) ?_
                        refine D.gpu (W.t rfl rfl) (Pu.move (.tmp (v:=.bool _) rfl)) ?_
                        obtain ⟨q93,Hq93,h⟩:=Option.bind_eq_some_iff.1 h
                        refine D.gpu (W.t rfl rfl) (U.call (ss:=[]) (.cons (.tmp (v:=.agg _) rfl) (.cons (.tmp (v:=.bool _) rfl) .nil)) (.cons (.cl (.aggL (.cons .fi .nil))) (.cons (.cl .bool) .nil)) (whole_Of.cs Hq93) (.inl rfl) (.aggL (.cons .fi (.cons .bool .nil)))) ?_
                        obtain ⟨q94,Hq94,h⟩:=Option.bind_eq_some_iff.1 h
                        refine D.gpu (W.t rfl rfl) (U.call (ss:=[]) (.cons (.tmp (v:=.agg _) rfl) (.cons (.tmp (v:=.agg _) rfl) .nil)) (.cons (.cl (.aggL (.cons .fi (.cons .bool .nil)))) (.cons (.cl (.aggL (.cons .fi (.cons .bool .nil)))) .nil)) (whole_Int_Cmp.cs Hq94) (.inl rfl) (.int)) ?_
                        refine D.gpu (W.t rfl rfl) (Pu.bin (.tmp rfl) .int .neq) ?_
                        refine D.pu (Pu.pickF (.tmp rfl) (.tmp (v:=.bool _) rfl)) ?_
                        refine D.nil (by kernel_rfl) ?_
                        refine X.condN (.tmp rfl) (fun c=>?_) (fun c=>?_)
                        · rw [if_neg c] at h
                          refine X.seq ?_
                          refine X.still ?_
                          refine O.pu (Pu.assign .bool) ?_
                          refine O.nil ?_
                          refine X.ret ?_
                          cases h
                          exact E.fin [] (.tmp (v:=.bool _) rfl .nil) (.cons (.cl .bool) .nil)
                        · rw [if_pos c] at h
                          refine X.skip ?_
                          refine X.still ?_
                          refine O.pu (Pu.bin (.tmp rfl) .int U.add64) ?_
                          refine O.pu (Pu.move (.tmp (v:=.int _ _) rfl)) ?_
                          refine O.nil ?_
                          exact ⟨_,(by omega),(by omega),_,_,_,_,_,_,_,_,_,_,_,_,_,_,_,_,_,_,_,_,_,_,_,_,_,_,_,_,_,rfl,rfl,rfl,rfl,rfl,(by first|rfl|(simp only [List.length_set];done)|(simp only [List.length_drop,List.length_take,List.length_append,List.length_set] at *;omega)),rfl,rfl,rfl,rfl,rfl,rfl,rfl,rfl,rfl,rfl,rfl,rfl,rfl,rfl,rfl,rfl,rfl,rfl,rfl,rfl,rfl,h⟩
                    · rw [if_neg c] at h
                      refine G.pu (W.t rfl rfl) (Pu.move (.tmp (v:=.int _ _) rfl)) ?_
                      refine G.pu (W.t rfl rfl) (Pu.bin (.tmp rfl) .int .eql) ?_
                      refine G.pu (W.t rfl rfl) (Pu.move (.tmp (v:=.bool _) rfl)) ?_
                      refine O.splitE (fun c=>?_) (fun c=>?_)
                      · rw [if_pos c] at h
                        refine G.pu (W.t rfl rfl) (Pu.move (.tmp (v:=.bool _) rfl)) ?_
                        refine G.pu (W.t rfl rfl) (Pu.pickT (.tmp rfl) (.tmp (v:=.bool _) rfl)) ?_
                        refine G.pu (W.t rfl rfl) (Pu.pickF (.tmp rfl) (.tmp (v:=.bool _) rfl)) ?_
                        refine G.pu (W.t rfl rfl) (Pu.pickT (.tmp rfl) (.tmp (v:=.bool _) rfl)) ?_
                        refine O.pu (Pu.pickF (.tmp rfl) (.tmp (v:=.bool _) rfl)) ?_
                        refine O.pu (Pu.assign (.tmp (v:=.bool _) rfl)) ?_
                        refine O.nil ?_
                        refine X.seq ?_
                        refine X.still ?_
                        refine O.pu (U.load (.tmp rfl) rfl rfl (U.whole rfl rfl)) ?_
                        refine O.puE (v':=.op 22 ((s2.b 22).ver + 1) 0 0) (b':=⟨(s2.b 22).ver + 1, .own,(.vals [.agg [.fi .u64 []]]),_⟩) Pu.alloc rfl rfl ?_
                        refine O.ef0 (U.storeE (.tmp rfl) rfl rfl (.tmp (v:=.agg _) rfl) rfl rfl (.whole (notBad_ne rfl) rfl) .one) ?_
                        refine O.nil ?_
                        refine X.seq ?_
                        refine X.seq ?_
                        refine X.still ?_
                        refine O.pu (Pu.move (.tmp (v:=.bool _) rfl)) ?_
                        refine O.nil ?_
                        repeat (rw [chattellaw06_RoundHalves.j3_e] at h;obtain ⟨k,_,h⟩:=h;unfold chattellaw06_RoundHalves.j3 at h;try dsimp only at h)
                        refine X.cond (.tmp rfl) (fun c=>?_) (fun c=>?_)
                        · rw [if_pos c] at h
                          refine X.still ?_
                          refine O.pu (U.load (.tmp rfl) rfl rfl (U.whole rfl rfl)) ?_
                          refine O.pu (U.load (.tmp rfl) rfl rfl (U.whole rfl rfl)) ?_
                          obtain ⟨q95,Hq95,h⟩:=Option.bind_eq_some_iff.1 h
                          refine O.pu (U.call (ss:=[]) (.cons (.tmp (v:=.agg _) rfl) (.cons (.tmp (v:=.agg _) rfl) .nil)) (.cons (.cl (.aggL (.cons .fi .nil))) (.cons (.cl (.aggL (.cons .fi .nil))) .nil)) (nat_Nat_Add.cs Hq95) (.inl rfl) (.aggL (.cons .fi .nil))) ?_
                          refine O.ef0 (U.storeE (.tmp rfl) rfl rfl (.tmp (v:=.agg _) rfl) rfl rfl (.whole (notBad_ne rfl) rfl) .one) ?_
                          refine O.nil ?_
                          refine X.seq ?_
                          refine X.still ?_
                          refine O.pu (U.load (.tmp rfl) rfl rfl (U.whole rfl rfl)) ?_
                          refine O.pu (Pu.move (.tmp (v:=.int _ _) rfl)) ?_
                          repeat (rw [chattellaw06_RoundHalves.j4_e] at h;obtain ⟨k,_,h⟩:=h;unfold chattellaw06_RoundHalves.j4 at h;try dsimp only at h)
                          obtain ⟨q96,Hq96,h⟩:=Option.bind_eq_some_iff.1 h
                          refine O.pu (U.call (ss:=[]) (.cons (.tmp (v:=.agg _) rfl) (.cons (.tmp (v:=.int _ _) rfl) .nil)) (.cons (.cl (.aggL (.cons .fi (.cons .bool (.cons .fi .nil))))) (.cons (.cl .int) .nil)) (round_Whole.cs Hq96) (.inl rfl) (.tupL (.cons (.aggL (.cons .fi (.cons .bool .nil))) (.cons .int .nil)))) ?_
                          refine O.pu (Pu.move (.tmp (v:=.tup _) rfl)) ?_
                          refine O.pu (Pu.extract (.tmp rfl) rfl) ?_
                          refine O.pu (Pu.extract (.tmp rfl) rfl) ?_
                          refine O.puE (v':=.op 23 ((s2.b 23).ver + 1) 0 0) (b':=⟨(s2.b 23).ver + 1, .own,(.vals [.agg [.fi .u64 [], .bool false]]),_⟩) Pu.alloc rfl rfl ?_
                          refine O.ef0 (U.storeE (.tmp rfl) rfl rfl (.tmp (v:=.agg _) rfl) rfl rfl (.whole (notBad_ne rfl) rfl) .one) ?_
                          refine O.pu (Pu.assign (.tmp (v:=.int _ _) rfl)) ?_
                          refine O.nil ?_
                          refine X.seq ?_
                          refine X.drawn ?_
                          refine D.pu (Pu.move (.tmp (v:=.int _ _) rfl)) ?_
                          refine D.pu (Pu.bin (.tmp rfl) .int .neq) ?_
                          refine D.pu (Pu.move (.tmp (v:=.bool _) rfl)) ?_
                          refine D.splitN (fun c=>?_) (fun c=>?_)
                          · rw [if_neg c] at h
                            refine D.gskip (W.f rfl rfl rfl) ?_
                            refine D.gskip (W.f rfl rfl rfl) ?_
                            refine D.gskip (W.f rfl rfl rfl) ?_
                            refine D.gskip (W.f rfl rfl rfl) ?_
                            refine D.gskip (W.f rfl rfl rfl) ?_
                            refine D.gskip (W.f rfl rfl rfl) ?_
                            refine D.pu (Pu.pickT (.tmp rfl) .bool) ?_
                            refine D.nil (by kernel_rfl) ?_
                            refine X.condT (.tmp rfl) ?_
                            refine X.seq ?_
                            refine X.still ?_
                            refine O.pu (Pu.assign .bool) ?_
                            refine O.nil ?_
                            refine X.ret ?_
                            cases h
                            exact E.fin [] (.tmp (v:=.bool _) rfl .nil) (.cons (.cl .bool) .nil)
                          · rw [if_pos c] at h
                            refine D.gpu (W.t rfl rfl) (U.load (.tmp rfl) rfl rfl (U.whole rfl rfl)) ?_
                            refine D.gpu (W.t rfl rfl) (U.load (.tmp rfl) rfl rfl (U.whole rfl rfl)) ?_
                            refine D.gpu (W.t rfl rfl) (Pu.move (.tmp (v:=.bool _) rfl)) ?_
                            obtain ⟨q97,Hq97,h⟩:=Option.bind_eq_some_iff.1 h
                            refine D.gpu (W.t rfl rfl) (U.call (ss:=[]) (.cons (.tmp (v:=.agg _) rfl) (.cons (.tmp (v:=.bool _) rfl) .nil)) (.cons (.cl (.aggL (.cons .fi .nil))) (.cons (.cl .bool) .nil)) (whole_Of.cs Hq97) (.inl rfl) (.aggL (.cons .fi (.cons .bool .nil)))) ?_
                            obtain ⟨q98,Hq98,h⟩:=Option.bind_eq_some_iff.1 h
                            refine D.gpu (W.t rfl rfl) (U.call (ss:=[]) (.cons (.tmp (v:=.agg _) rfl) (.cons (.tmp (v:=.agg _) rfl) .nil)) (.cons (.cl (.aggL (.cons .fi (.cons .bool .nil)))) (.cons (.cl (.aggL (.cons .fi (.cons .bool .nil)))) .nil)) (whole_Int_Cmp.cs Hq98) (.inl rfl) (.int)) ?_
                            refine D.gpu (W.t rfl rfl) (Pu.bin (.tmp rfl) .int .neq) ?_
                            refine D.pu (Pu.pickF (.tmp rfl) (.tmp (v:=.bool _) rfl)) ?_
                            refine D.nil (by kernel_rfl) ?_
                            refine X.condN (.tmp rfl) (fun c=>?_) (fun c=>?_)
                            · rw [if_neg c] at h
                              refine X.seq ?_
                              refine X.still ?_
                              refine O.pu (Pu.assign .bool) ?_
                              refine O.nil ?_
                              refine X.ret ?_
                              cases h
                              exact E.fin [] (.tmp (v:=.bool _) rfl .nil) (.cons (.cl .bool) .nil)
                            · rw [if_pos c] at h
                              refine X.skip ?_
                              refine X.still ?_
                              refine O.pu (Pu.bin (.tmp rfl) .int U.add64) ?_
                              refine O.pu (Pu.move (.tmp (v:=.int _ _) rfl)) ?_
                              refine O.nil ?_
                              exact ⟨_,(by omega),(by omega),_,_,_,_,_,_,_,_,_,_,_,_,_,_,_,_,_,_,_,_,_,_,_,_,_,_,_,_,_,rfl,rfl,rfl,rfl,rfl,(by first|rfl|(simp only [List.length_set];done)|(simp only [List.length_drop,List.length_take,List.length_append,List.length_set] at *;omega)),rfl,rfl,rfl,rfl,rfl,rfl,rfl,rfl,rfl,rfl,rfl,rfl,rfl,rfl,rfl,rfl,rfl,rfl,rfl,rfl,rfl,h⟩
                        · rw [if_neg (bf c)] at h
                          refine X.skip ?_
                          refine X.seq ?_
                          refine X.still ?_
                          refine O.pu (U.load (.tmp rfl) rfl rfl (U.whole rfl rfl)) ?_
                          refine O.pu (Pu.move (.tmp (v:=.int _ _) rfl)) ?_
                          repeat (rw [chattellaw06_RoundHalves.j4_e] at h;obtain ⟨k,_,h⟩:=h;unfold chattellaw06_RoundHalves.j4 at h;try dsimp only at h)
                          obtain ⟨q99,Hq99,h⟩:=Option.bind_eq_some_iff.1 h
                          refine O.pu (U.call (ss:=[]) (.cons (.tmp (v:=.agg _) rfl) (.cons (.tmp (v:=.int _ _) rfl) .nil)) (.cons (.cl (.aggL (.cons .fi (.cons .bool (.cons .fi .nil))))) (.cons (.cl .int) .nil)) (round_Whole.cs Hq99) (.inl rfl) (.tupL (.cons (.aggL (.cons .fi (.cons .bool .nil))) (.cons .int .nil)))) ?_
                          refine O.pu (Pu.move (.tmp (v:=.tup _) rfl)) ?_
                          refine O.pu (Pu.extract (.tmp rfl) rfl) ?_
                          refine O.pu (Pu.extract (.tmp rfl) rfl) ?_
                          refine O.puE (v':=.op 23 ((s2.b 23).ver + 1) 0 0) (b':=⟨(s2.b 23).ver + 1, .own,(.vals [.agg [.fi .u64 [], .bool false]]),_⟩) Pu.alloc rfl rfl ?_
                          refine O.ef0 (U.storeE (.tmp rfl) rfl rfl (.tmp (v:=.agg _) rfl) rfl rfl (.whole (notBad_ne rfl) rfl) .one) ?_
                          refine O.pu (Pu.assign (.tmp (v:=.int _ _) rfl)) ?_
                          refine O.nil ?_
                          refine X.seq ?_
                          refine X.drawn ?_
                          refine D.pu (Pu.move (.tmp (v:=.int _ _) rfl)) ?_
                          refine D.pu (Pu.bin (.tmp rfl) .int .neq) ?_
                          refine D.pu (Pu.move (.tmp (v:=.bool _) rfl)) ?_
                          refine D.splitN (fun c=>?_) (fun c=>?_)
                          · rw [if_neg c] at h
                            refine D.gskip (W.f rfl rfl rfl) ?_
                            refine D.gskip (W.f rfl rfl rfl) ?_
                            refine D.gskip (W.f rfl rfl rfl) ?_
                            refine D.gskip (W.f rfl rfl rfl) ?_
                            refine D.gskip (W.f rfl rfl rfl) ?_
                            refine D.gskip (W.f rfl rfl rfl) ?_
                            refine D.pu (Pu.pickT (.tmp rfl) .bool) ?_
                            refine D.nil (by kernel_rfl) ?_
                            refine X.condT (.tmp rfl) ?_
                            refine X.seq ?_
                            refine X.still ?_
                            refine O.pu (Pu.assign .bool) ?_
                            refine O.nil ?_
                            refine X.ret ?_
                            cases h
                            exact E.fin [] (.tmp (v:=.bool _) rfl .nil) (.cons (.cl .bool) .nil)
                          · rw [if_pos c] at h
                            refine D.gpu (W.t rfl rfl) (U.load (.tmp rfl) rfl rfl (U.whole rfl rfl)) ?_
                            refine D.gpu (W.t rfl rfl) (U.load (.tmp rfl) rfl rfl (U.whole rfl rfl)) ?_
                            refine D.gpu (W.t rfl rfl) (Pu.move (.tmp (v:=.bool _) rfl)) ?_
                            obtain ⟨q100,Hq100,h⟩:=Option.bind_eq_some_iff.1 h
                            refine D.gpu (W.t rfl rfl) (U.call (ss:=[]) (.cons (.tmp (v:=.agg _) rfl) (.cons (.tmp (v:=.bool _) rfl) .nil)) (.cons (.cl (.aggL (.cons .fi .nil))) (.cons (.cl .bool) .nil)) (whole_Of.cs Hq100) (.inl rfl) (.aggL (.cons .fi (.cons .bool .nil)))) ?_
                            obtain ⟨q101,Hq101,h⟩:=Option.bind_eq_some_iff.1 h
                            refine D.gpu (W.t rfl rfl) (U.call (ss:=[]) (.cons (.tmp (v:=.agg _) rfl) (.cons (.tmp (v:=.agg _) rfl) .nil)) (.cons (.cl (.aggL (.cons .fi (.cons .bool .nil)))) (.cons (.cl (.aggL (.cons .fi (.cons .bool .nil)))) .nil)) (whole_Int_Cmp.cs Hq101) (.inl rfl) (.int)) ?_
                            refine D.gpu (W.t rfl rfl) (Pu.bin (.tmp rfl) .int .neq) ?_
                            refine D.pu (Pu.pickF (.tmp rfl) (.tmp (v:=.bool _) rfl)) ?_
                            refine D.nil (by kernel_rfl) ?_
                            refine X.condN (.tmp rfl) (fun c=>?_) (fun c=>?_)
                            · rw [if_neg c] at h
                              refine X.seq ?_
                              refine X.still ?_
                              refine O.pu (Pu.assign .bool) ?_
                              refine O.nil ?_
                              refine X.ret ?_
                              cases h
                              exact E.fin [] (.tmp (v:=.bool _) rfl .nil) (.cons (.cl .bool) .nil)
                            · rw [if_pos c] at h
                              refine X.skip ?_
                              refine X.still ?_
                              refine O.pu (Pu.bin (.tmp rfl) .int U.add64) ?_
                              refine O.pu (Pu.move (.tmp (v:=.int _ _) rfl)) ?_
                              refine O.nil ?_
                              exact ⟨_,(by omega),(by omega),_,_,_,_,_,_,_,_,_,_,_,_,_,_,_,_,_,_,_,_,_,_,_,_,_,_,_,_,_,rfl,rfl,rfl,rfl,rfl,(by first|rfl|(simp only [List.length_set];done)|(simp only [List.length_drop,List.length_take,List.length_append,List.length_set] at *;omega)),rfl,rfl,rfl,rfl,rfl,rfl,rfl,rfl,rfl,rfl,rfl,rfl,rfl,rfl,rfl,rfl,rfl,rfl,rfl,rfl,rfl,h⟩
                      · rw [if_neg c] at h
                        refine G.skip (W.f rfl rfl rfl) ?_
                        refine G.pu (W.t rfl rfl) (Pu.pickF (.tmp rfl) .bool) ?_
                        refine G.pu (W.t rfl rfl) (Pu.pickF (.tmp rfl) (.tmp (v:=.bool _) rfl)) ?_
                        refine G.pu (W.t rfl rfl) (Pu.pickT (.tmp rfl) (.tmp (v:=.bool _) rfl)) ?_
                        refine O.pu (Pu.pickF (.tmp rfl) (.tmp (v:=.bool _) rfl)) ?_
                        refine O.pu (Pu.assign (.tmp (v:=.bool _) rfl)) ?_
                        refine O.nil ?_
                        refine X.seq ?_
                        refine X.still ?_
                        refine O.pu (U.load (.tmp rfl) rfl rfl (U.whole rfl rfl)) ?_
                        refine O.puE (v':=.op 22 ((s2.b 22).ver + 1) 0 0) (b':=⟨(s2.b 22).ver + 1, .own,(.vals [.agg [.fi .u64 []]]),_⟩) Pu.alloc rfl rfl ?_
                        refine O.ef0 (U.storeE (.tmp rfl) rfl rfl (.tmp (v:=.agg _) rfl) rfl rfl (.whole (notBad_ne rfl) rfl) .one) ?_
                        refine O.nil ?_
                        refine X.seq ?_
                        refine X.seq ?_
                        refine X.still ?_
                        refine O.pu (Pu.move (.tmp (v:=.bool _) rfl)) ?_
                        refine O.nil ?_
                        repeat (rw [chattellaw06_RoundHalves.j3_e] at h;obtain ⟨k,_,h⟩:=h;unfold chattellaw06_RoundHalves.j3 at h;try dsimp only at h)
                        rw [if_neg Bool.false_ne_true] at h
                        refine X.condF (.tmp rfl) ?_
                        refine X.skip ?_
                        refine X.seq ?_
                        refine X.still ?_
                        refine O.pu (U.load (.tmp rfl) rfl rfl (U.whole rfl rfl)) ?_
                        refine O.pu (Pu.move (.tmp (v:=.int _ _) rfl)) ?_
                        repeat (rw [chattellaw06_RoundHalves.j4_e] at h;obtain ⟨k,_,h⟩:=h;unfold chattellaw06_RoundHalves.j4 at h;try dsimp only at h)
                        obtain ⟨q102,Hq102,h⟩:=Option.bind_eq_some_iff.1 h
                        refine O.pu (U.call (ss:=[]) (.cons (.tmp (v:=.agg _) rfl) (.cons (.tmp (v:=.int _ _) rfl) .nil)) (.cons (.cl (.aggL (.cons .fi (.cons .bool (.cons .fi .nil))))) (.cons (.cl .int) .nil)) (round_Whole.cs Hq102) (.inl rfl) (.tupL (.cons (.aggL (.cons .fi (.cons .bool .nil))) (.cons .int .nil)))) ?_
                        refine O.pu (Pu.move (.tmp (v:=.tup _) rfl)) ?_
                        refine O.pu (Pu.extract (.tmp rfl) rfl) ?_
                        refine O.pu (Pu.extract (.tmp rfl) rfl) ?_
                        refine O.puE (v':=.op 23 ((s2.b 23).ver + 1) 0 0) (b':=⟨(s2.b 23).ver + 1, .own,(.vals [.agg [.fi .u64 [], .bool false]]),_⟩) Pu.alloc rfl rfl ?_
                        refine O.ef0 (U.storeE (.tmp rfl) rfl rfl (.tmp (v:=.agg _) rfl) rfl rfl (.whole (notBad_ne rfl) rfl) .one) ?_
                        refine O.pu (Pu.assign (.tmp (v:=.int _ _) rfl)) ?_
                        refine O.nil ?_
                        refine X.seq ?_
                        refine X.drawn ?_
                        refine D.pu (Pu.move (.tmp (v:=.int _ _) rfl)) ?_
                        refine D.pu (Pu.bin (.tmp rfl) .int .neq) ?_
                        refine D.pu (Pu.move (.tmp (v:=.bool _) rfl)) ?_
                        refine D.splitN (fun c=>?_) (fun c=>?_)
                        · rw [if_neg c] at h
                          refine D.gskip (W.f rfl rfl rfl) ?_
                          refine D.gskip (W.f rfl rfl rfl) ?_
                          refine D.gskip (W.f rfl rfl rfl) ?_
                          refine D.gskip (W.f rfl rfl rfl) ?_
                          refine D.gskip (W.f rfl rfl rfl) ?_
                          refine D.gskip (W.f rfl rfl rfl) ?_
                          refine D.pu (Pu.pickT (.tmp rfl) .bool) ?_
                          refine D.nil (by kernel_rfl) ?_
                          refine X.condT (.tmp rfl) ?_
                          refine X.seq ?_
                          refine X.still ?_
                          refine O.pu (Pu.assign .bool) ?_
                          refine O.nil ?_
                          refine X.ret ?_
                          cases h
                          exact E.fin [] (.tmp (v:=.bool _) rfl .nil) (.cons (.cl .bool) .nil)
                        · rw [if_pos c] at h
                          refine D.gpu (W.t rfl rfl) (U.load (.tmp rfl) rfl rfl (U.whole rfl rfl)) ?_
                          refine D.gpu (W.t rfl rfl) (U.load (.tmp rfl) rfl rfl (U.whole rfl rfl)) ?_
                          refine D.gpu (W.t rfl rfl) (Pu.move (.tmp (v:=.bool _) rfl)) ?_
                          obtain ⟨q103,Hq103,h⟩:=Option.bind_eq_some_iff.1 h
                          refine D.gpu (W.t rfl rfl) (U.call (ss:=[]) (.cons (.tmp (v:=.agg _) rfl) (.cons (.tmp (v:=.bool _) rfl) .nil)) (.cons (.cl (.aggL (.cons .fi .nil))) (.cons (.cl .bool) .nil)) (whole_Of.cs Hq103) (.inl rfl) (.aggL (.cons .fi (.cons .bool .nil)))) ?_
                          obtain ⟨q104,Hq104,h⟩:=Option.bind_eq_some_iff.1 h
                          refine D.gpu (W.t rfl rfl) (U.call (ss:=[]) (.cons (.tmp (v:=.agg _) rfl) (.cons (.tmp (v:=.agg _) rfl) .nil)) (.cons (.cl (.aggL (.cons .fi (.cons .bool .nil)))) (.cons (.cl (.aggL (.cons .fi (.cons .bool .nil)))) .nil)) (whole_Int_Cmp.cs Hq104) (.inl rfl) (.int)) ?_
                          refine D.gpu (W.t rfl rfl) (Pu.bin (.tmp rfl) .int .neq) ?_
                          refine D.pu (Pu.pickF (.tmp rfl) (.tmp (v:=.bool _) rfl)) ?_
                          refine D.nil (by kernel_rfl) ?_
                          refine X.condN (.tmp rfl) (fun c=>?_) (fun c=>?_)
                          · rw [if_neg c] at h
                            refine X.seq ?_
                            refine X.still ?_
                            refine O.pu (Pu.assign .bool) ?_
                            refine O.nil ?_
                            refine X.ret ?_
                            cases h
                            exact E.fin [] (.tmp (v:=.bool _) rfl .nil) (.cons (.cl .bool) .nil)
                          · rw [if_pos c] at h
                            refine X.skip ?_
                            refine X.still ?_
                            refine O.pu (Pu.bin (.tmp rfl) .int U.add64) ?_
                            refine O.pu (Pu.move (.tmp (v:=.int _ _) rfl)) ?_
                            refine O.nil ?_
                            exact ⟨_,(by omega),(by omega),_,_,_,_,_,_,_,_,_,_,_,_,_,_,_,_,_,_,_,_,_,_,_,_,_,_,_,_,_,rfl,rfl,rfl,rfl,rfl,(by first|rfl|(simp only [List.length_set];done)|(simp only [List.length_drop,List.length_take,List.length_append,List.length_set] at *;omega)),rfl,rfl,rfl,rfl,rfl,rfl,rfl,rfl,rfl,rfl,rfl,rfl,rfl,rfl,rfl,rfl,rfl,rfl,rfl,rfl,rfl,h⟩
                  · rw [if_neg c] at h
                    refine G.skip (W.f rfl rfl rfl) ?_
                    refine G.skip (W.f rfl rfl rfl) ?_
                    refine G.skipN (b:=false) (W.f rfl rfl rfl) ?_
                    refine G.skip (W.n rfl rfl) ?_
                    refine G.skip (W.n rfl rfl) ?_
                    refine G.skipN (b:=true) (W.n rfl rfl) ?_
                    refine G.skip (W.n rfl rfl) ?_
                    refine G.skip (W.n rfl rfl) ?_
                    refine G.skip (W.f rfl rfl rfl) ?_
                    refine G.pu (W.t rfl rfl) (Pu.pickF (.tmp rfl) .bool) ?_
                    refine O.pu (Pu.pickF (.tmp rfl) (.tmp (v:=.bool _) rfl)) ?_
                    refine O.pu (Pu.assign (.tmp (v:=.bool _) rfl)) ?_
                    refine O.nil ?_
                    refine X.seq ?_
                    refine X.still ?_
                    refine O.pu (U.load (.tmp rfl) rfl rfl (U.whole rfl rfl)) ?_
                    refine O.puE (v':=.op 22 ((s2.b 22).ver + 1) 0 0) (b':=⟨(s2.b 22).ver + 1, .own,(.vals [.agg [.fi .u64 []]]),_⟩) Pu.alloc rfl rfl ?_
                    refine O.ef0 (U.storeE (.tmp rfl) rfl rfl (.tmp (v:=.agg _) rfl) rfl rfl (.whole (notBad_ne rfl) rfl) .one) ?_
                    refine O.nil ?_
                    refine X.seq ?_
                    refine X.seq ?_
                    refine X.still ?_
                    refine O.pu (Pu.move (.tmp (v:=.bool _) rfl)) ?_
                    refine O.nil ?_
                    repeat (rw [chattellaw06_RoundHalves.j3_e] at h;obtain ⟨k,_,h⟩:=h;unfold chattellaw06_RoundHalves.j3 at h;try dsimp only at h)
                    rw [if_neg Bool.false_ne_true] at h
                    refine X.condF (.tmp rfl) ?_
                    refine X.skip ?_
                    refine X.seq ?_
                    refine X.still ?_
                    refine O.pu (U.load (.tmp rfl) rfl rfl (U.whole rfl rfl)) ?_
                    refine O.pu (Pu.move (.tmp (v:=.int _ _) rfl)) ?_
                    repeat (rw [chattellaw06_RoundHalves.j4_e] at h;obtain ⟨k,_,h⟩:=h;unfold chattellaw06_RoundHalves.j4 at h;try dsimp only at h)
                    obtain ⟨q105,Hq105,h⟩:=Option.bind_eq_some_iff.1 h
                    refine O.pu (U.call (ss:=[]) (.cons (.tmp (v:=.agg _) rfl) (.cons (.tmp (v:=.int _ _) rfl) .nil)) (.cons (.cl (.aggL (.cons .fi (.cons .bool (.cons .fi .nil))))) (.cons (.cl .int) .nil)) (round_Whole.cs Hq105) (.inl rfl) (.tupL (.cons (.aggL (.cons .fi (.cons .bool .nil))) (.cons .int .nil)))) ?_
                    refine O.pu (Pu.move (.tmp (v:=.tup _) rfl)) ?_
                    refine O.pu (Pu.extract (.tmp rfl) rfl) ?_
                    refine O.pu (Pu.extract (.tmp rfl) rfl) ?_
                    refine O.puE (v':=.op 23 ((s2.b 23).ver + 1) 0 0) (b':=⟨(s2.b 23).ver + 1, .own,(.vals [.agg [.fi .u64 [], .bool false]]),_⟩) Pu.alloc rfl rfl ?_
                    refine O.ef0 (U.storeE (.tmp rfl) rfl rfl (.tmp (v:=.agg _) rfl) rfl rfl (.whole (notBad_ne rfl) rfl) .one) ?_
                    refine O.pu (Pu.assign (.tmp (v:=.int _ _) rfl)) ?_
                    refine O.nil ?_
                    refine X.seq ?_
                    refine X.drawn ?_
                    refine D.pu (Pu.move (.tmp (v:=.int _ _) rfl)) ?_
                    refine D.pu (Pu.bin (.tmp rfl) .int .neq) ?_
                    refine D.pu (Pu.move (.tmp (v:=.bool _) rfl)) ?_
                    refine D.splitN (fun c=>?_) (fun c=>?_)
                    · rw [if_neg c] at h
                      refine D.gskip (W.f rfl rfl rfl) ?_
                      refine D.gskip (W.f rfl rfl rfl) ?_
                      refine D.gskip (W.f rfl rfl rfl) ?_
                      refine D.gskip (W.f rfl rfl rfl) ?_
                      refine D.gskip (W.f rfl rfl rfl) ?_
                      refine D.gskip (W.f rfl rfl rfl) ?_
                      refine D.pu (Pu.pickT (.tmp rfl) .bool) ?_
                      refine D.nil (by kernel_rfl) ?_
                      refine X.condT (.tmp rfl) ?_
                      refine X.seq ?_
                      refine X.still ?_
                      refine O.pu (Pu.assign .bool) ?_
                      refine O.nil ?_
                      refine X.ret ?_
                      cases h
                      exact E.fin [] (.tmp (v:=.bool _) rfl .nil) (.cons (.cl .bool) .nil)
                    · rw [if_pos c] at h
                      refine D.gpu (W.t rfl rfl) (U.load (.tmp rfl) rfl rfl (U.whole rfl rfl)) ?_
                      refine D.gpu (W.t rfl rfl) (U.load (.tmp rfl) rfl rfl (U.whole rfl rfl)) ?_
                      refine D.gpu (W.t rfl rfl) (Pu.move (.tmp (v:=.bool _) rfl)) ?_
                      obtain ⟨q106,Hq106,h⟩:=Option.bind_eq_some_iff.1 h
                      refine D.gpu (W.t rfl rfl) (U.call (ss:=[]) (.cons (.tmp (v:=.agg _) rfl) (.cons (.tmp (v:=.bool _) rfl) .nil)) (.cons (.cl (.aggL (.cons .fi .nil))) (.cons (.cl .bool) .nil)) (whole_Of.cs Hq106) (.inl rfl) (.aggL (.cons .fi (.cons .bool .nil)))) ?_
                      obtain ⟨q107,Hq107,h⟩:=Option.bind_eq_some_iff.1 h
                      refine D.gpu (W.t rfl rfl) (U.call (ss:=[]) (.cons (.tmp (v:=.agg _) rfl) (.cons (.tmp (v:=.agg _) rfl) .nil)) (.cons (.cl (.aggL (.cons .fi (.cons .bool .nil)))) (.cons (.cl (.aggL (.cons .fi (.cons .bool .nil)))) .nil)) (whole_Int_Cmp.cs Hq107) (.inl rfl) (.int)) ?_
                      refine D.gpu (W.t rfl rfl) (Pu.bin (.tmp rfl) .int .neq) ?_
                      refine D.pu (Pu.pickF (.tmp rfl) (.tmp (v:=.bool _) rfl)) ?_
                      refine D.nil (by kernel_rfl) ?_
                      refine X.condN (.tmp rfl) (fun c=>?_) (fun c=>?_)
                      · rw [if_neg c] at h
                        refine X.seq ?_
                        refine X.still ?_
                        refine O.pu (Pu.assign .bool) ?_
                        refine O.nil ?_
                        refine X.ret ?_
                        cases h
                        exact E.fin [] (.tmp (v:=.bool _) rfl .nil) (.cons (.cl .bool) .nil)
                      · rw [if_pos c] at h
                        refine X.skip ?_
                        refine X.still ?_
                        refine O.pu (Pu.bin (.tmp rfl) .int U.add64) ?_
                        refine O.pu (Pu.move (.tmp (v:=.int _ _) rfl)) ?_
                        refine O.nil ?_
                        exact ⟨_,(by omega),(by omega),_,_,_,_,_,_,_,_,_,_,_,_,_,_,_,_,_,_,_,_,_,_,_,_,_,_,_,_,_,rfl,rfl,rfl,rfl,rfl,(by first|rfl|(simp only [List.length_set];done)|(simp only [List.length_drop,List.length_take,List.length_append,List.length_set] at *;omega)),rfl,rfl,rfl,rfl,rfl,rfl,rfl,rfl,rfl,rfl,rfl,rfl,rfl,rfl,rfl,rfl,rfl,rfl,rfl,rfl,rfl,h⟩
            · rw [if_neg c] at h
              refine X.exit (B.out ?_)
              refine X.still ?_
              refine O.pu (Pu.bin (.tmp rfl) .int U.add64) ?_
              refine O.pu (Pu.move (.tmp (v:=.int _ _) rfl)) ?_
              refine O.nil ?_
              exact ⟨_,(by omega),_,_,_,_,_,_,_,_,_,_,_,_,_,_,_,_,_,_,_,_,_,rfl,rfl,rfl,rfl,(by first|rfl|(simp only [List.length_set];done)|(simp only [List.length_drop,List.length_take,List.length_append,List.length_set] at *;omega)),rfl,rfl,rfl,rfl,rfl,rfl,rfl,rfl,rfl,rfl,rfl,rfl,rfl,rfl,rfl,rfl,h⟩
      · rw [if_neg c] at h
        refine X.exit (B.out ?_)
        refine X.seq ?_
        refine X.still ?_
        obtain ⟨q108,Hq108,h⟩:=Option.bind_eq_some_iff.1 h
        refine O.pu (U.call (ss:=[]) .nil .nil (chattellaw06_wakes.cs Hq108) (.inl rfl) (.bool)) ?_
        refine O.pu (Pu.assign (.tmp (v:=.bool _) rfl)) ?_
        refine O.nil ?_
        refine X.ret ?_
        cases h
        exact E.fin [] (.tmp (v:=.bool _) rfl .nil) (.cons (.cl .bool) .nil)
end Go.Proofs.Ytkoccekiojhidaa
end
