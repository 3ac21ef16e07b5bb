import Derived.Test.YtkoccekiojhidaaC858JG6
import Derived.Test.YtkoccekiojhidaaC858JG4
import Derived.Test.YtkoccekiojhidaaC858JG3
import Derived.Test.YtkoccekiojhidaaC858JG2
namespace Go.Proofs.Ytkoccekiojhidaa
open Go.AVL Go.RowKit Go.Proofs.Ytkoccekiojhidaa.F Go.Proofs.YtkoccekiojhidaaX Go.Proofs.YtkoccekiojhidaaW.PrintWords Go.Proofs.YtkoccekiojhidaaW.PrintLast Go.Proofs.YtkoccekiojhidaaW.PrintMore
set_option linter.unusedVariables false
set_option linter.unusedSimpArgs false
set_option maxRecDepth 100000
set_option maxHeartbeats 4000000
theorem chattellaw06_RoundNear.j1_e {k y0 y1 y2 y3 y4 y5 y6 y7 y8 y9 y10 y11 y12 y13 y14 y15 y16 r}:(chattellaw06_RoundNear.j1 k y0 y1 y2 y3 y4 y5 y6 y7 y8 y9 y10 y11 y12 y13 y14 y15 y16=some r) = ∃ j,k=j + 1∧chattellaw06_RoundNear.j1 (j + 1) y0 y1 y2 y3 y4 y5 y6 y7 y8 y9 y10 y11 y12 y13 y14 y15 y16=some r:=propext ⟨fun h=>by cases k with|zero=>(unfold chattellaw06_RoundNear.j1 at h;cases h)|succ k=>exact ⟨k,rfl,h⟩,fun ⟨j,hj,h⟩=>by subst hj;exact h⟩
theorem chattellaw06_RoundNear.j2_e {k y0 y1 y2 y3 y4 y5 y6 y7 y8 y9 y10 r}:(chattellaw06_RoundNear.j2 k y0 y1 y2 y3 y4 y5 y6 y7 y8 y9 y10=some r) = ∃ j,k=j + 1∧chattellaw06_RoundNear.j2 (j + 1) y0 y1 y2 y3 y4 y5 y6 y7 y8 y9 y10=some r:=propext ⟨fun h=>by cases k with|zero=>(unfold chattellaw06_RoundNear.j2 at h;cases h)|succ k=>exact ⟨k,rfl,h⟩,fun ⟨j,hj,h⟩=>by subst hj;exact h⟩
noncomputable def c11:Code:=Try.f11.body.getD .skip
theorem fn11:FnOk Try.prog 11 Try.f11 c11:=⟨Try.func11,rfl,by kernel_rfl,by kernel_rfl,mixed⟩
theorem chattellaw06_RoundNear.cs {k:Nat} {l0_0:List Int} {l0_1:List Int} {a0_2:Bool} {r:Bool} (h:chattellaw06_RoundNear.f k l0_0 l0_1 a0_2=some r):CS Try.prog 11 [.agg [.fi .u64 l0_0, .fi .u64 l0_1, .bool a0_2]] .no [.bool r]:=by
  unfold chattellaw06_RoundNear.f at h
  refine E.pure fn11 rfl ?_
  refine X.seq ?_
  refine X.still ?_
  refine O.puE (v':=.op 1 (1) 0 0) (b':=⟨1, .own,_,_⟩) (Pu.box (.tmp (v:=.agg _) rfl) rfl rfl) rfl rfl ?_
  refine O.pu (Pu.assign .bool) ?_
  refine O.nil ?_
  refine X.seq ?_
  refine X.still ?_
  refine O.pu (U.load (.tmp rfl) rfl rfl (U.whole rfl rfl)) ?_
  obtain ⟨q1,Hq1,h⟩:=Option.bind_eq_some_iff.1 h
  refine O.pu (U.call (ss:=[]) (.cons (.tmp (v:=.agg _) rfl) .nil) (.cons (.cl (.aggL (.cons .fi (.cons .fi (.cons .bool .nil))))) .nil) (chattellaw06_num.cs Hq1) (.inl rfl) (.tupL (.cons (.aggL (.cons .fi (.cons .bool (.cons .fi .nil)))) (.cons (.aggL (.cons .fi (.cons .bool (.cons .fi .nil)))) .nil)))) ?_
  refine O.pu (Pu.move (.tmp (v:=.tup _) rfl)) ?_
  refine O.pu (Pu.extract (.tmp rfl) rfl) ?_
  refine O.pu (Pu.extract (.tmp rfl) rfl) ?_
  refine O.puE (v':=.op 3 (1) 0 0) (b':=⟨1, .own,(.vals [.agg [.fi .u64 [], .bool false, .fi .u64 []]]),_⟩) Pu.alloc rfl rfl ?_
  refine O.puE (v':=.op 4 (1) 0 0) (b':=⟨1, .own,(.vals [.agg [.fi .i64 [], .bool false, .fi .i64 []]]),_⟩) Pu.alloc rfl rfl ?_
  refine O.ef0 (U.storeE (.tmp rfl) rfl rfl (.tmp (v:=.agg _) rfl) rfl rfl (.whole (notBad_ne rfl) rfl) .one) ?_
  refine O.ef0 (U.storeE (.tmp rfl) rfl rfl (.tmp (v:=.agg _) rfl) rfl rfl (.whole (notBad_ne rfl) rfl) .one) ?_
  refine O.nil ?_
  refine X.seq ?_
  refine X.still ?_
  obtain ⟨q2,Hq2,h⟩:=Option.bind_eq_some_iff.1 h
  refine O.pu (U.call (ss:=[]) (.cons .int .nil) (.cons (.cl .int) .nil) (whole_From.cs Hq2) (.inl rfl) (.aggL (.cons .fi (.cons .bool .nil)))) ?_
  obtain ⟨q3,Hq3,h⟩:=Option.bind_eq_some_iff.1 h
  refine O.pu (U.call (ss:=[]) (.cons (.tmp (v:=.agg _) rfl) .nil) (.cons (.cl (.aggL (.cons .fi (.cons .bool .nil)))) .nil) (frac_From.cs Hq3) (.inl rfl) (.aggL (.cons .fi (.cons .bool (.cons .fi .nil))))) ?_
  refine O.puE (v':=.op 5 (1) 0 0) (b':=⟨1, .own,(.vals [.agg [.fi .u64 [], .bool false, .fi .u64 []]]),_⟩) Pu.alloc rfl rfl ?_
  refine O.ef0 (U.storeE (.tmp rfl) rfl rfl (.tmp (v:=.agg _) rfl) rfl rfl (.whole (notBad_ne rfl) rfl) .one) ?_
  refine O.nil ?_
  refine X.seq ?_
  refine X.seq ?_
  refine X.still ?_
  refine O.pu (Pu.move .int) ?_
  refine O.nil ?_
  refine X.block ?_
  refine X.inv (fun k s=>∃ x19 x2389000 x2389001 x2389002 x2402000 x2402001 x2402002 u1 u3 u4 u5 z1_0 z1_1 z1_2 z4_0 z4_1 z4_2,s.t 19 = .int .i64 x19∧s.t 1 = .op 1 u1 0 0∧s.b 1=⟨u1, .own, .vals [.agg [.fi .u64 z1_0, .fi .u64 z1_1, .bool z1_2]],70⟩∧s.t 3 = .op 3 u3 0 0∧s.b 3=⟨u3, .own, .vals [.agg [.fi .u64 x2389000, .bool x2389001, .fi .u64 x2389002]],30⟩∧s.t 4 = .op 4 u4 0 0∧s.b 4=⟨u4, .own, .vals [.agg [.fi .i64 z4_0, .bool z4_1, .fi .i64 z4_2]],35⟩∧s.t 5 = .op 5 u5 0 0∧s.b 5=⟨u5, .own, .vals [.agg [.fi .u64 x2402000, .bool x2402001, .fi .u64 x2402002]],30⟩∧chattellaw06_RoundNear.l0 k x19 x2389000 x2389001 x2389002 x2402000 x2402001 x2402002=some r) ?_ ?_ ⟨_,_,_,_,_,_,_,_,_,_,_,_,_,_,_,_,_,rfl,rfl,rfl,rfl,rfl,rfl,rfl,rfl,rfl,h⟩
  · rintro s ⟨_,_,_,_,_,_,_,_,_,_,_,_,_,_,_,_,_,_,_,_,_,_,_,_,_,_,h⟩;unfold chattellaw06_RoundNear.l0 at h;cases h
  · rintro k1 s1 ⟨x19,x2389000,x2389001,x2389002,x2402000,x2402001,x2402002,u1,u3,u4,u5,z1_0,z1_1,z1_2,z4_0,z4_1,z4_2,e0,e1,e2,e3,e4,e5,e6,e7,e8,h⟩
    unfold chattellaw06_RoundNear.l0 at h
    rw [St.fixT e0,St.fixT e1,St.fixB e2,St.fixT e3,St.fixB e4,St.fixT e5,St.fixB e6,St.fixT e7,St.fixB e8]
    refine X.seq ?_
    refine X.still ?_
    refine O.pu (Pu.bin (.tmp rfl) .int .lss) ?_
    refine O.nil ?_
    refine X.seq ?_
    refine X.condP (.tmp rfl) (fun c=>?_) (fun c=>?_)
    · rw [if_pos c] at h
      refine X.skip ?_
      refine X.seq ?_
      refine X.block ?_
      refine X.seq ?_
      refine X.still ?_
      refine O.pu (Pu.move (.tmp (v:=.int _ _) rfl)) ?_
      refine O.pu (Pu.assign (.tmp (v:=.int _ _) rfl)) ?_
      refine O.nil ?_
      refine X.seq ?_
      refine X.still ?_
      refine O.pu (U.load (.tmp rfl) rfl rfl (U.whole rfl rfl)) ?_
      refine O.pu (Pu.move (.tmp (v:=.int _ _) rfl)) ?_
      obtain ⟨q4,Hq4,h⟩:=Option.bind_eq_some_iff.1 h
      refine O.pu (U.call (ss:=[]) (.cons (.tmp (v:=.agg _) rfl) (.cons (.tmp (v:=.int _ _) rfl) .nil)) (.cons (.cl (.aggL (.cons .fi (.cons .bool (.cons .fi .nil))))) (.cons (.cl .int) .nil)) (round_Whole.cs Hq4) (.inl rfl) (.tupL (.cons (.aggL (.cons .fi (.cons .bool .nil))) (.cons .int .nil)))) ?_
      refine O.pu (Pu.move (.tmp (v:=.tup _) rfl)) ?_
      refine O.pu (Pu.extract (.tmp rfl) rfl) ?_
      refine O.pu (Pu.extract (.tmp rfl) rfl) ?_
      refine O.puE (v':=.op 7 ((s1.b 7).ver + 1) 0 0) (b':=⟨(s1.b 7).ver + 1, .own,(.vals [.agg [.fi .u64 [], .bool false]]),_⟩) Pu.alloc rfl rfl ?_
      refine O.ef0 (U.storeE (.tmp rfl) rfl rfl (.tmp (v:=.agg _) rfl) rfl rfl (.whole (notBad_ne rfl) rfl) .one) ?_
      refine O.pu (Pu.assign (.tmp (v:=.int _ _) rfl)) ?_
      refine O.nil ?_
      refine X.seq ?_
      refine X.still ?_
      refine O.pu (U.load (.tmp rfl) rfl rfl (U.whole rfl rfl)) ?_
      obtain ⟨q5,Hq5,h⟩:=Option.bind_eq_some_iff.1 h
      refine O.pu (U.call (ss:=[]) (.cons (.tmp (v:=.agg _) rfl) .nil) (.cons (.cl (.aggL (.cons .fi (.cons .bool (.cons .fi .nil))))) .nil) (frac_Frac_Neg.cs Hq5) (.inl rfl) (.aggL (.cons .fi (.cons .bool (.cons .fi .nil))))) ?_
      refine O.pu (Pu.move (.tmp (v:=.int _ _) rfl)) ?_
      obtain ⟨q6,Hq6,h⟩:=Option.bind_eq_some_iff.1 h
      refine O.pu (U.call (ss:=[]) (.cons (.tmp (v:=.agg _) rfl) (.cons (.tmp (v:=.int _ _) rfl) .nil)) (.cons (.cl (.aggL (.cons .fi (.cons .bool (.cons .fi .nil))))) (.cons (.cl .int) .nil)) (round_Whole.cs Hq6) (.inl rfl) (.tupL (.cons (.aggL (.cons .fi (.cons .bool .nil))) (.cons .int .nil)))) ?_
      refine O.pu (Pu.move (.tmp (v:=.tup _) rfl)) ?_
      refine O.pu (Pu.extract (.tmp rfl) rfl) ?_
      refine O.pu (Pu.extract (.tmp rfl) rfl) ?_
      refine O.puE (v':=.op 9 ((s1.b 9).ver + 1) 0 0) (b':=⟨(s1.b 9).ver + 1, .own,(.vals [.agg [.fi .u64 [], .bool false]]),_⟩) Pu.alloc rfl rfl ?_
      refine O.ef0 (U.storeE (.tmp rfl) rfl rfl (.tmp (v:=.agg _) rfl) rfl rfl (.whole (notBad_ne rfl) rfl) .one) ?_
      refine O.pu (Pu.assign (.tmp (v:=.int _ _) rfl)) ?_
      refine O.nil ?_
      refine X.seq ?_
      refine X.drawn ?_
      refine D.pu (U.load (.tmp rfl) rfl rfl (U.whole rfl rfl)) ?_
      obtain ⟨q7,Hq7,h⟩:=Option.bind_eq_some_iff.1 h
      refine D.pu (U.call (ss:=[]) (.cons (.tmp (v:=.agg _) rfl) .nil) (.cons (.cl (.aggL (.cons .fi (.cons .bool .nil)))) .nil) (frac_From.cs Hq7) (.inl rfl) (.aggL (.cons .fi (.cons .bool (.cons .fi .nil))))) ?_
      refine D.pu (U.load (.tmp rfl) rfl rfl (U.whole rfl rfl)) ?_
      obtain ⟨q8,Hq8,h⟩:=Option.bind_eq_some_iff.1 h
      refine D.pu (U.call (ss:=[]) (.cons (.tmp (v:=.agg _) rfl) (.cons (.tmp (v:=.agg _) rfl) .nil)) (.cons (.cl (.aggL (.cons .fi (.cons .bool (.cons .fi .nil))))) (.cons (.cl (.aggL (.cons .fi (.cons .bool (.cons .fi .nil))))) .nil)) (frac_Frac_Sub.cs Hq8) (.inl rfl) (.aggL (.cons .fi (.cons .bool (.cons .fi .nil))))) ?_
      refine D.puE (v':=.op 11 ((s1.b 11).ver + 1) 0 0) (b':=⟨(s1.b 11).ver + 1, .own,(.vals [.agg [.fi .u64 [], .bool false, .fi .u64 []]]),_⟩) Pu.alloc rfl rfl ?_
      refine D.ef0 (C.storeE (.tmp rfl) rfl rfl (.tmp (v:=.agg _) rfl) rfl rfl (.whole (notBad_ne rfl) rfl) .one) ?_
      refine D.nil (by kernel_rfl) ?_
      refine X.seq ?_
      refine X.seq ?_
      refine X.still ?_
      refine O.pu (U.load (.tmp rfl) rfl rfl (U.whole rfl rfl)) ?_
      obtain ⟨q9,Hq9,h⟩:=Option.bind_eq_some_iff.1 h
      refine O.pu (U.call (ss:=[]) (.cons (.tmp (v:=.agg _) rfl) .nil) (.cons (.cl (.aggL (.cons .fi (.cons .bool (.cons .fi .nil))))) .nil) (frac_Frac_Sign.cs Hq9) (.inl rfl) (.int)) ?_
      refine O.pu (Pu.bin (.tmp rfl) .int .lss) ?_
      refine O.nil ?_
      refine X.condP (.tmp rfl) (fun c=>?_) (fun c=>?_)
      · rw [if_pos c] at h
        refine X.still ?_
        refine O.pu (U.load (.tmp rfl) rfl rfl (U.whole rfl rfl)) ?_
        obtain ⟨q10,Hq10,h⟩:=Option.bind_eq_some_iff.1 h
        refine O.pu (U.call (ss:=[]) (.cons (.tmp (v:=.agg _) rfl) .nil) (.cons (.cl (.aggL (.cons .fi (.cons .bool (.cons .fi .nil))))) .nil) (frac_Frac_Neg.cs Hq10) (.inl rfl) (.aggL (.cons .fi (.cons .bool (.cons .fi .nil))))) ?_
        refine O.ef0 (U.storeE (.tmp rfl) rfl rfl (.tmp (v:=.agg _) rfl) rfl rfl (.whole (notBad_ne rfl) rfl) .one) ?_
        refine O.nil ?_
        refine X.seq ?_
        refine X.seq ?_
        refine X.drawn ?_
        refine D.pu (Pu.move (.tmp (v:=.int _ _) rfl)) ?_
        refine D.pu (Pu.bin (.tmp rfl) .int .neq) ?_
        refine D.pu (Pu.move (.tmp (v:=.bool _) rfl)) ?_
        repeat (rw [chattellaw06_RoundNear.j1_e] at h;obtain ⟨k,_,h⟩:=h;unfold chattellaw06_RoundNear.j1 at h;try dsimp only at h)
        refine D.splitN (fun c=>?_) (fun c=>?_)
        · rw [if_neg c] at h
          refine D.gskip (W.f rfl rfl rfl) ?_
          refine D.gskip (W.f rfl rfl rfl) ?_
          refine D.pu (Pu.pickT (.tmp rfl) .bool) ?_
          refine D.pu (Pu.move (.tmp (v:=.bool _) rfl)) ?_
          refine D.gskip (W.f rfl rfl rfl) ?_
          refine D.gskip (W.f rfl rfl rfl) ?_
          refine D.gskip (W.f rfl rfl rfl) ?_
          refine D.gskip (W.f rfl rfl rfl) ?_
          refine D.pu (Pu.pickT (.tmp rfl) .bool) ?_
          refine D.pu (Pu.move (.tmp (v:=.bool _) rfl)) ?_
          refine D.gskip (W.f rfl rfl rfl) ?_
          refine D.gskip (W.f rfl rfl rfl) ?_
          refine D.gskipN (b:=true) (W.f rfl rfl rfl) ?_
          refine D.gskip (W.n rfl rfl) ?_
          refine D.gskip (W.n rfl rfl) ?_
          refine D.gskip (W.n rfl rfl) ?_
          refine D.gskip (W.n rfl rfl) ?_
          refine D.gskip (W.n rfl rfl) ?_
          refine D.gskip (W.n rfl rfl) ?_
          refine D.gskip (W.f rfl rfl rfl) ?_
          refine D.pu (Pu.pickT (.tmp rfl) .bool) ?_
          refine D.pu (Pu.move (.tmp (v:=.bool _) rfl)) ?_
          refine D.gskip (W.f rfl rfl rfl) ?_
          refine D.gskip (W.f rfl rfl rfl) ?_
          refine D.gskipN (b:=true) (W.f rfl rfl rfl) ?_
          refine D.gskip (W.n rfl rfl) ?_
          refine D.gskip (W.n rfl rfl) ?_
          refine D.gskip (W.n rfl rfl) ?_
          refine D.gskip (W.f rfl rfl rfl) ?_
          refine D.pu (Pu.pickT (.tmp rfl) .bool) ?_
          refine D.pu (Pu.move (.tmp (v:=.bool _) rfl)) ?_
          refine D.gskip (W.f rfl rfl rfl) ?_
          refine D.gskip (W.f rfl rfl rfl) ?_
          refine D.gskip (W.f rfl rfl rfl) ?_
          refine D.gskip (W.f rfl rfl rfl) ?_
          refine D.gskip (W.f rfl rfl rfl) ?_
          refine D.pu (Pu.pickT (.tmp rfl) .bool) ?_
          refine D.nil (by kernel_rfl) ?_
          repeat (rw [chattellaw06_RoundNear.j2_e] at h;obtain ⟨k,_,h⟩:=h;unfold chattellaw06_RoundNear.j2 at h;try dsimp only at h)
          rw [if_pos rfl] at h
          refine X.condT (.tmp rfl) ?_
          refine X.seq ?_
          refine X.still ?_
          refine O.pu (Pu.assign .bool) ?_
          refine O.nil ?_
          refine X.ret ?_
          cases h
          exact E.fin [] (.tmp (v:=.bool _) rfl .nil) (.cons (.cl .bool) .nil)
        · rw [if_pos c] at h
          refine D.gpu (W.t rfl rfl) (Pu.move (.tmp (v:=.int _ _) rfl)) ?_
          refine D.gpu (W.t rfl rfl) (Pu.bin (.tmp rfl) .int .neq) ?_
          refine D.pu (Pu.pickF (.tmp rfl) (.tmp (v:=.bool _) rfl)) ?_
          refine D.pu (Pu.move (.tmp (v:=.bool _) rfl)) ?_
          refine D.splitN (fun c=>?_) (fun c=>?_)
          · rw [if_neg c] at h
            refine D.gskip (W.f rfl rfl rfl) ?_
            refine D.gskip (W.f rfl rfl rfl) ?_
            refine D.gskip (W.f rfl rfl rfl) ?_
            refine D.gskip (W.f rfl rfl rfl) ?_
            refine D.pu (Pu.pickT (.tmp rfl) .bool) ?_
            refine D.pu (Pu.move (.tmp (v:=.bool _) rfl)) ?_
            refine D.gskip (W.f rfl rfl rfl) ?_
            refine D.gskip (W.f rfl rfl rfl) ?_
            refine D.gskipN (b:=true) (W.f rfl rfl rfl) ?_
            refine D.gskip (W.n rfl rfl) ?_
            refine D.gskip (W.n rfl rfl) ?_
            refine D.gskip (W.n rfl rfl) ?_
            refine D.gskip (W.n rfl rfl) ?_
            refine D.gskip (W.n rfl rfl) ?_
            refine D.gskip (W.n rfl rfl) ?_
            refine D.gskip (W.f rfl rfl rfl) ?_
            refine D.pu (Pu.pickT (.tmp rfl) .bool) ?_
            refine D.pu (Pu.move (.tmp (v:=.bool _) rfl)) ?_
            refine D.gskip (W.f rfl rfl rfl) ?_
            refine D.gskip (W.f rfl rfl rfl) ?_
            refine D.gskipN (b:=true) (W.f rfl rfl rfl) ?_
            refine D.gskip (W.n rfl rfl) ?_
            refine D.gskip (W.n rfl rfl) ?_
            refine D.gskip (W.n rfl rfl) ?_
            refine D.gskip (W.f rfl rfl rfl) ?_
            refine D.pu (Pu.pickT (.tmp rfl) .bool) ?_
            refine D.pu (Pu.move (.tmp (v:=.bool _) rfl)) ?_
            refine D.gskip (W.f rfl rfl rfl) ?_
            refine D.gskip (W.f rfl rfl rfl) ?_
            refine D.gskip (W.f rfl rfl rfl) ?_
            refine D.gskip (W.f rfl rfl rfl) ?_
            refine D.gskip (W.f rfl rfl rfl) ?_
            refine D.pu (Pu.pickT (.tmp rfl) .bool) ?_
            refine D.nil (by kernel_rfl) ?_
            repeat (rw [chattellaw06_RoundNear.j2_e] at h;obtain ⟨k,_,h⟩:=h;unfold chattellaw06_RoundNear.j2 at h;try dsimp only at h)
            rw [if_pos rfl] at h
            refine X.condT (.tmp rfl) ?_
            refine X.seq ?_
            refine X.still ?_
            refine O.pu (Pu.assign .bool) ?_
            refine O.nil ?_
            refine X.ret ?_
            cases h
            exact E.fin [] (.tmp (v:=.bool _) rfl .nil) (.cons (.cl .bool) .nil)
          · rw [if_pos c] at h
            refine D.gpu (W.t rfl rfl) (U.load (.tmp rfl) rfl rfl (U.whole rfl rfl)) ?_
            refine D.gpu (W.t rfl rfl) (U.load (.tmp rfl) rfl rfl (U.whole rfl rfl)) ?_
            obtain ⟨q11,Hq11,h⟩:=Option.bind_eq_some_iff.1 h
            refine D.gpu (W.t rfl rfl) (U.call (ss:=[]) (.cons (.tmp (v:=.agg _) rfl) (.cons (.tmp (v:=.agg _) rfl) .nil)) (.cons (.cl (.aggL (.cons .fi (.cons .bool (.cons .fi .nil))))) (.cons (.cl (.aggL (.cons .fi (.cons .bool (.cons .fi .nil))))) .nil)) (frac_Frac_Cmp.cs Hq11) (.inl rfl) (.int)) ?_
            refine D.gpu (W.t rfl rfl) (Pu.bin (.tmp rfl) .int .geq) ?_
            refine D.pu (Pu.pickF (.tmp rfl) (.tmp (v:=.bool _) rfl)) ?_
            refine D.pu (Pu.move (.tmp (v:=.bool _) rfl)) ?_
            refine D.splitP (fun c=>?_) (fun c=>?_)
            · rw [if_pos c] at h
              refine D.gskip (W.f rfl rfl rfl) ?_
              refine D.gskip (W.f rfl rfl rfl) ?_
              refine D.gskipN (b:=true) (W.f rfl rfl rfl) ?_
              refine D.gskip (W.n rfl rfl) ?_
              refine D.gskip (W.n rfl rfl) ?_
              refine D.gskip (W.n rfl rfl) ?_
              refine D.gskip (W.n rfl rfl) ?_
              refine D.gskip (W.n rfl rfl) ?_
              refine D.gskip (W.n rfl rfl) ?_
              refine D.gskip (W.f rfl rfl rfl) ?_
              refine D.pu (Pu.pickT (.tmp rfl) .bool) ?_
              refine D.pu (Pu.move (.tmp (v:=.bool _) rfl)) ?_
              refine D.gskip (W.f rfl rfl rfl) ?_
              refine D.gskip (W.f rfl rfl rfl) ?_
              refine D.gskipN (b:=true) (W.f rfl rfl rfl) ?_
              refine D.gskip (W.n rfl rfl) ?_
              refine D.gskip (W.n rfl rfl) ?_
              refine D.gskip (W.n rfl rfl) ?_
              refine D.gskip (W.f rfl rfl rfl) ?_
              refine D.pu (Pu.pickT (.tmp rfl) .bool) ?_
              refine D.pu (Pu.move (.tmp (v:=.bool _) rfl)) ?_
              refine D.gskip (W.f rfl rfl rfl) ?_
              refine D.gskip (W.f rfl rfl rfl) ?_
              refine D.gskip (W.f rfl rfl rfl) ?_
              refine D.gskip (W.f rfl rfl rfl) ?_
              refine D.gskip (W.f rfl rfl rfl) ?_
              refine D.pu (Pu.pickT (.tmp rfl) .bool) ?_
              refine D.nil (by kernel_rfl) ?_
              repeat (rw [chattellaw06_RoundNear.j2_e] at h;obtain ⟨k,_,h⟩:=h;unfold chattellaw06_RoundNear.j2 at h;try dsimp only at h)
              rw [if_pos rfl] at h
              refine X.condT (.tmp rfl) ?_
              refine X.seq ?_
              refine X.still ?_
              refine O.pu (Pu.assign .bool) ?_
              refine O.nil ?_
              refine X.ret ?_
              cases h
              exact E.fin [] (.tmp (v:=.bool _) rfl .nil) (.cons (.cl .bool) .nil)
            · rw [if_neg c] at h
              refine D.gpu (W.t rfl rfl) (Pu.move (.tmp (v:=.int _ _) rfl)) ?_
              refine D.gpu (W.t rfl rfl) (Pu.bin (.tmp rfl) .int .geq) ?_
              refine D.gpu (W.t rfl rfl) (Pu.move (.tmp (v:=.bool _) rfl)) ?_
              refine D.splitP (fun c=>?_) (fun c=>?_)
              · rw [if_pos c] at h
                refine D.gpu (W.t rfl rfl) (U.load (.tmp rfl) rfl rfl (U.whole rfl rfl)) ?_
                refine D.gpu (W.t rfl rfl) (U.load (.tmp rfl) rfl rfl (U.whole rfl rfl)) ?_
                obtain ⟨q12,Hq12,h⟩:=Option.bind_eq_some_iff.1 h
                refine D.gpu (W.t rfl rfl) (U.call (ss:=[]) (.cons (.tmp (v:=.agg _) rfl) (.cons (.tmp (v:=.agg _) rfl) .nil)) (.cons (.cl (.aggL (.cons .fi (.cons .bool (.cons .fi .nil))))) (.cons (.cl (.aggL (.cons .fi (.cons .bool (.cons .fi .nil))))) .nil)) (frac_Frac_Add.cs Hq12) (.inl rfl) (.aggL (.cons .fi (.cons .bool (.cons .fi .nil))))) ?_
                refine D.gpu (W.t rfl rfl) (U.load (.tmp rfl) rfl rfl (U.whole rfl rfl)) ?_
                obtain ⟨q13,Hq13,h⟩:=Option.bind_eq_some_iff.1 h
                refine D.gpu (W.t rfl rfl) (U.call (ss:=[]) (.cons (.tmp (v:=.agg _) rfl) (.cons (.tmp (v:=.agg _) rfl) .nil)) (.cons (.cl (.aggL (.cons .fi (.cons .bool (.cons .fi .nil))))) (.cons (.cl (.aggL (.cons .fi (.cons .bool (.cons .fi .nil))))) .nil)) (frac_Frac_Cmp.cs Hq13) (.inl rfl) (.int)) ?_
                refine D.gpu (W.t rfl rfl) (Pu.bin (.tmp rfl) .int .gtr) ?_
                refine D.gpu (W.t rfl rfl) (Pu.pickT (.tmp rfl) (.tmp (v:=.bool _) rfl)) ?_
                refine D.pu (Pu.pickF (.tmp rfl) (.tmp (v:=.bool _) rfl)) ?_
                refine D.pu (Pu.move (.tmp (v:=.bool _) rfl)) ?_
                refine D.splitP (fun c=>?_) (fun c=>?_)
                · rw [if_pos c] at h
                  refine D.gskip (W.f rfl rfl rfl) ?_
                  refine D.gskip (W.f rfl rfl rfl) ?_
                  refine D.gskipN (b:=true) (W.f rfl rfl rfl) ?_
                  refine D.gskip (W.n rfl rfl) ?_
                  refine D.gskip (W.n rfl rfl) ?_
                  refine D.gskip (W.n rfl rfl) ?_
                  refine D.gskip (W.f rfl rfl rfl) ?_
                  refine D.pu (Pu.pickT (.tmp rfl) .bool) ?_
                  refine D.pu (Pu.move (.tmp (v:=.bool _) rfl)) ?_
                  refine D.gskip (W.f rfl rfl rfl) ?_
                  refine D.gskip (W.f rfl rfl rfl) ?_
                  refine D.gskip (W.f rfl rfl rfl) ?_
                  refine D.gskip (W.f rfl rfl rfl) ?_
                  refine D.gskip (W.f rfl rfl rfl) ?_
                  refine D.pu (Pu.pickT (.tmp rfl) .bool) ?_
                  refine D.nil (by kernel_rfl) ?_
                  repeat (rw [chattellaw06_RoundNear.j2_e] at h;obtain ⟨k,_,h⟩:=h;unfold chattellaw06_RoundNear.j2 at h;try dsimp only at h)
                  rw [if_pos rfl] at h
                  refine X.condT (.tmp rfl) ?_
                  refine X.seq ?_
                  refine X.still ?_
                  refine O.pu (Pu.assign .bool) ?_
                  refine O.nil ?_
                  refine X.ret ?_
                  cases h
                  exact E.fin [] (.tmp (v:=.bool _) rfl .nil) (.cons (.cl .bool) .nil)
                · rw [if_neg c] at h
                  refine D.gpu (W.t rfl rfl) (U.load (.tmp rfl) rfl rfl (U.whole rfl rfl)) ?_
                  obtain ⟨q14,Hq14,h⟩:=Option.bind_eq_some_iff.1 h
                  refine D.gpu (W.t rfl rfl) (U.call (ss:=[]) (.cons (.tmp (v:=.agg _) rfl) .nil) (.cons (.cl (.aggL (.cons .fi (.cons .bool (.cons .fi .nil))))) .nil) (chattellaw06_exact.cs Hq14) (.inl rfl) (.bool)) ?_
                  refine D.gpu (W.t rfl rfl) (Pu.move (.tmp (v:=.bool _) rfl)) ?_
                  refine D.split (fun c=>?_) (fun c=>?_)
                  · rw [if_pos c] at h
                    refine D.gpu (W.t rfl rfl) (U.load (.tmp rfl) rfl rfl (U.whole rfl rfl)) ?_
                    obtain ⟨q15,Hq15,h⟩:=Option.bind_eq_some_iff.1 h
                    refine D.gpu (W.t rfl rfl) (U.call (ss:=[]) (.cons (.tmp (v:=.agg _) rfl) .nil) (.cons (.cl (.aggL (.cons .fi (.cons .bool (.cons .fi .nil))))) .nil) (frac_Frac_Sign.cs Hq15) (.inl rfl) (.int)) ?_
                    refine D.gpu (W.t rfl rfl) (Pu.bin (.tmp rfl) .int .neq) ?_
                    refine D.gpu (W.t rfl rfl) (Pu.pickT (.tmp rfl) (.tmp (v:=.bool _) rfl)) ?_
                    refine D.pu (Pu.pickF (.tmp rfl) (.tmp (v:=.bool _) rfl)) ?_
                    refine D.pu (Pu.move (.tmp (v:=.bool _) rfl)) ?_
                    refine D.splitN (fun c=>?_) (fun c=>?_)
                    · rw [if_neg c] at h
                      refine D.gskip (W.f rfl rfl rfl) ?_
                      refine D.gskip (W.f rfl rfl rfl) ?_
                      refine D.gskip (W.f rfl rfl rfl) ?_
                      refine D.gskip (W.f rfl rfl rfl) ?_
                      refine D.gskip (W.f rfl rfl rfl) ?_
                      refine D.pu (Pu.pickT (.tmp rfl) .bool) ?_
                      refine D.nil (by kernel_rfl) ?_
                      repeat (rw [chattellaw06_RoundNear.j2_e] at h;obtain ⟨k,_,h⟩:=h;unfold chattellaw06_RoundNear.j2 at h;try dsimp only at h)
                      rw [if_pos rfl] at h
                      refine X.condT (.tmp rfl) ?_
                      refine X.seq ?_
                      refine X.still ?_
                      refine O.pu (Pu.assign .bool) ?_
                      refine O.nil ?_
                      refine X.ret ?_
                      cases h
                      exact E.fin [] (.tmp (v:=.bool _) rfl .nil) (.cons (.cl .bool) .nil)
                    · rw [if_pos c] at h
                      refine D.gpu (W.t rfl rfl) (U.load (.tmp rfl) rfl rfl (U.whole rfl rfl)) ?_
                      refine D.gpu (W.t rfl rfl) (U.load (.tmp rfl) rfl rfl (U.whole rfl rfl)) ?_
                      obtain ⟨q16,Hq16,h⟩:=Option.bind_eq_some_iff.1 h
                      refine D.gpu (W.t rfl rfl) (U.call (ss:=[]) (.cons (.tmp (v:=.agg _) rfl) .nil) (.cons (.cl (.aggL (.cons .fi (.cons .bool .nil)))) .nil) (whole_Int_Neg.cs Hq16) (.inl rfl) (.aggL (.cons .fi (.cons .bool .nil)))) ?_
                      obtain ⟨q17,Hq17,h⟩:=Option.bind_eq_some_iff.1 h
                      refine D.gpu (W.t rfl rfl) (U.call (ss:=[]) (.cons (.tmp (v:=.agg _) rfl) (.cons (.tmp (v:=.agg _) rfl) .nil)) (.cons (.cl (.aggL (.cons .fi (.cons .bool .nil)))) (.cons (.cl (.aggL (.cons .fi (.cons .bool .nil)))) .nil)) (whole_Int_Cmp.cs Hq17) (.inl rfl) (.int)) ?_
                      refine D.gpu (W.t rfl rfl) (Pu.bin (.tmp rfl) .int .neq) ?_
                      refine D.pu (Pu.pickF (.tmp rfl) (.tmp (v:=.bool _) rfl)) ?_
                      refine D.nil (by kernel_rfl) ?_
                      repeat (rw [chattellaw06_RoundNear.j2_e] at h;obtain ⟨k,_,h⟩:=h;unfold chattellaw06_RoundNear.j2 at h;try dsimp only at h)
                      refine X.condN (.tmp rfl) (fun c=>?_) (fun c=>?_)
                      · rw [if_pos (ne1 c)] at h
                        refine X.seq ?_
                        refine X.still ?_
                        refine O.pu (Pu.assign .bool) ?_
                        refine O.nil ?_
                        refine X.ret ?_
                        cases h
                        exact E.fin [] (.tmp (v:=.bool _) rfl .nil) (.cons (.cl .bool) .nil)
                      · rw [if_neg (ne0 c)] at h
                        refine X.skip ?_
                        refine X.seq ?_
                        refine X.drawn ?_
                        refine D.pu (Pu.move (.tmp (v:=.int _ _) rfl)) ?_
                        refine D.pu (Pu.bin (.tmp rfl) .int .eql) ?_
                        refine D.pu (Pu.move (.tmp (v:=.bool _) rfl)) ?_
                        refine D.splitE (fun c=>?_) (fun c=>?_)
                        · rw [if_pos c] at h
                          refine D.gpu (W.t rfl rfl) (U.load (.tmp rfl) rfl rfl (U.whole rfl rfl)) ?_
                          obtain ⟨q18,Hq18,h⟩:=Option.bind_eq_some_iff.1 h
                          refine D.gpu (W.t rfl rfl) (U.call (ss:=[]) (.cons (.tmp (v:=.agg _) rfl) .nil) (.cons (.cl (.aggL (.cons .fi (.cons .bool .nil)))) .nil) (whole_Int_Abs.cs Hq18) (.inl rfl) (.aggL (.cons .fi .nil))) ?_
                          obtain ⟨q19,Hq19,h⟩:=Option.bind_eq_some_iff.1 h
                          refine D.gpu (W.t rfl rfl) (U.call (ss:=[]) (.cons (.tmp (v:=.agg _) rfl) (.cons .bool .nil)) (.cons (.cl (.aggL (.cons .fi .nil))) (.cons (.cl .bool) .nil)) (whole_Of.cs Hq19) (.inl rfl) (.aggL (.cons .fi (.cons .bool .nil)))) ?_
                          obtain ⟨q20,Hq20,h⟩:=Option.bind_eq_some_iff.1 h
                          refine D.gpu (W.t rfl rfl) (U.call (ss:=[]) (.cons (.tmp (v:=.agg _) rfl) .nil) (.cons (.cl (.aggL (.cons .fi (.cons .bool .nil)))) .nil) (frac_From.cs Hq20) (.inl rfl) (.aggL (.cons .fi (.cons .bool (.cons .fi .nil))))) ?_
                          refine D.gpu (W.t rfl rfl) (U.load (.tmp rfl) rfl rfl (U.whole rfl rfl)) ?_
                          obtain ⟨q21,Hq21,h⟩:=Option.bind_eq_some_iff.1 h
                          refine D.gpu (W.t rfl rfl) (U.call (ss:=[]) (.cons (.tmp (v:=.agg _) rfl) .nil) (.cons (.cl (.aggL (.cons .fi (.cons .bool (.cons .fi .nil))))) .nil) (chattellaw06_size.cs Hq21) (.inl rfl) (.aggL (.cons .fi (.cons .bool (.cons .fi .nil))))) ?_
                          obtain ⟨q22,Hq22,h⟩:=Option.bind_eq_some_iff.1 h
                          refine D.gpu (W.t rfl rfl) (U.call (ss:=[]) (.cons (.tmp (v:=.agg _) rfl) (.cons (.tmp (v:=.agg _) rfl) .nil)) (.cons (.cl (.aggL (.cons .fi (.cons .bool (.cons .fi .nil))))) (.cons (.cl (.aggL (.cons .fi (.cons .bool (.cons .fi .nil))))) .nil)) (frac_Frac_Cmp.cs Hq22) (.inl rfl) (.int)) ?_
                          refine D.gpu (W.t rfl rfl) (Pu.bin (.tmp rfl) .int .gtr) ?_
                          refine D.pu (Pu.pickT (.tmp rfl) (.tmp (v:=.bool _) rfl)) ?_
                          refine D.pu (Pu.move (.tmp (v:=.bool _) rfl)) ?_
                          refine D.splitP (fun c=>?_) (fun c=>?_)
                          · rw [if_pos c] at h
                            refine D.gskip (W.f rfl rfl rfl) ?_
                            refine D.gskip (W.f rfl rfl rfl) ?_
                            refine D.gskipN (b:=true) (W.f rfl rfl rfl) ?_
                            refine D.gskip (W.n rfl rfl) ?_
                            refine D.gskip (W.n rfl rfl) ?_
                            refine D.gskip (W.n rfl rfl) ?_
                            refine D.gskip (W.n rfl rfl) ?_
                            refine D.gskip (W.n rfl rfl) ?_
                            refine D.gskip (W.n rfl rfl) ?_
                            refine D.gskip (W.n rfl rfl) ?_
                            refine D.gskip (W.n rfl rfl) ?_
                            refine D.gskip (W.f rfl rfl rfl) ?_
                            refine D.pu (Pu.pickT (.tmp rfl) .bool) ?_
                            refine D.nil (by kernel_rfl) ?_
                            refine X.condT (.tmp rfl) ?_
                            refine X.seq ?_
                            refine X.still ?_
                            refine O.pu (Pu.assign .bool) ?_
                            refine O.nil ?_
                            refine X.ret ?_
                            cases h
                            exact E.fin [] (.tmp (v:=.bool _) rfl .nil) (.cons (.cl .bool) .nil)
                          · rw [if_neg c] at h
                            refine D.gpu (W.t rfl rfl) (Pu.move (.tmp (v:=.int _ _) rfl)) ?_
                            refine D.gpu (W.t rfl rfl) (Pu.bin (.tmp rfl) .int .eql) ?_
                            refine D.gpu (W.t rfl rfl) (Pu.move (.tmp (v:=.bool _) rfl)) ?_
                            refine D.splitE (fun c=>?_) (fun c=>?_)
                            · rw [if_pos c] at h
                              refine D.gpu (W.t rfl rfl) (U.load (.tmp rfl) rfl rfl (U.whole rfl rfl)) ?_
                              obtain ⟨q23,Hq23,h⟩:=Option.bind_eq_some_iff.1 h
                              refine D.gpu (W.t rfl rfl) (U.call (ss:=[]) (.cons (.tmp (v:=.agg _) rfl) .nil) (.cons (.cl (.aggL (.cons .fi (.cons .bool .nil)))) .nil) (whole_Int_Abs.cs Hq23) (.inl rfl) (.aggL (.cons .fi .nil))) ?_
                              obtain ⟨q24,Hq24,h⟩:=Option.bind_eq_some_iff.1 h
                              refine D.gpu (W.t rfl rfl) (U.call (ss:=[]) (.cons (.tmp (v:=.agg _) rfl) (.cons .bool .nil)) (.cons (.cl (.aggL (.cons .fi .nil))) (.cons (.cl .bool) .nil)) (whole_Of.cs Hq24) (.inl rfl) (.aggL (.cons .fi (.cons .bool .nil)))) ?_
                              obtain ⟨q25,Hq25,h⟩:=Option.bind_eq_some_iff.1 h
                              refine D.gpu (W.t rfl rfl) (U.call (ss:=[]) (.cons (.tmp (v:=.agg _) rfl) .nil) (.cons (.cl (.aggL (.cons .fi (.cons .bool .nil)))) .nil) (frac_From.cs Hq25) (.inl rfl) (.aggL (.cons .fi (.cons .bool (.cons .fi .nil))))) ?_
                              refine D.gpu (W.t rfl rfl) (U.load (.tmp rfl) rfl rfl (U.whole rfl rfl)) ?_
                              obtain ⟨q26,Hq26,h⟩:=Option.bind_eq_some_iff.1 h
                              refine D.gpu (W.t rfl rfl) (U.call (ss:=[]) (.cons (.tmp (v:=.agg _) rfl) .nil) (.cons (.cl (.aggL (.cons .fi (.cons .bool (.cons .fi .nil))))) .nil) (chattellaw06_size.cs Hq26) (.inl rfl) (.aggL (.cons .fi (.cons .bool (.cons .fi .nil))))) ?_
                              obtain ⟨q27,Hq27,h⟩:=Option.bind_eq_some_iff.1 h
                              refine D.gpu (W.t rfl rfl) (U.call (ss:=[]) (.cons (.tmp (v:=.agg _) rfl) (.cons (.tmp (v:=.agg _) rfl) .nil)) (.cons (.cl (.aggL (.cons .fi (.cons .bool (.cons .fi .nil))))) (.cons (.cl (.aggL (.cons .fi (.cons .bool (.cons .fi .nil))))) .nil)) (frac_Frac_Cmp.cs Hq27) (.inl rfl) (.int)) ?_
                              refine D.gpu (W.t rfl rfl) (Pu.bin (.tmp rfl) .int .lss) ?_
                              refine D.gpu (W.t rfl rfl) (Pu.pickT (.tmp rfl) (.tmp (v:=.bool _) rfl)) ?_
                              refine D.pu (Pu.pickF (.tmp rfl) (.tmp (v:=.bool _) rfl)) ?_
                              refine D.nil (by kernel_rfl) ?_
                              refine X.condP (.tmp rfl) (fun c=>?_) (fun c=>?_)
                              · rw [if_pos c] at h
                                refine X.seq ?_
                                refine X.still ?_
                                refine O.pu (Pu.assign .bool) ?_
                                refine O.nil ?_
                                refine X.ret ?_
                                cases h
                                exact E.fin [] (.tmp (v:=.bool _) rfl .nil) (.cons (.cl .bool) .nil)
                              · rw [if_neg c] at h
                                refine X.skip ?_
                                refine X.still ?_
                                refine O.pu (Pu.bin (.tmp rfl) .int U.add64) ?_
                                refine O.pu (Pu.move (.tmp (v:=.int _ _) rfl)) ?_
                                refine O.nil ?_
                                exact ⟨_,(by omega),_,_,_,_,_,_,_,_,_,_,_,_,_,_,_,_,_,rfl,rfl,rfl,rfl,rfl,rfl,rfl,rfl,rfl,h⟩
                            · rw [if_neg c] at h
                              refine D.gskip (W.f rfl rfl rfl) ?_
                              refine D.gskip (W.f rfl rfl rfl) ?_
                              refine D.gskip (W.f rfl rfl rfl) ?_
                              refine D.gskip (W.f rfl rfl rfl) ?_
                              refine D.gskip (W.f rfl rfl rfl) ?_
                              refine D.gskip (W.f rfl rfl rfl) ?_
                              refine D.gskip (W.f rfl rfl rfl) ?_
                              refine D.gskip (W.f rfl rfl rfl) ?_
                              refine D.gpu (W.t rfl rfl) (Pu.pickF (.tmp rfl) .bool) ?_
                              refine D.pu (Pu.pickF (.tmp rfl) (.tmp (v:=.bool _) rfl)) ?_
                              refine D.nil (by kernel_rfl) ?_
                              refine X.condF (.tmp rfl) ?_
                              refine X.skip ?_
                              refine X.still ?_
                              refine O.pu (Pu.bin (.tmp rfl) .int U.add64) ?_
                              refine O.pu (Pu.move (.tmp (v:=.int _ _) rfl)) ?_
                              refine O.nil ?_
                              exact ⟨_,(by omega),_,_,_,_,_,_,_,_,_,_,_,_,_,_,_,_,_,rfl,rfl,rfl,rfl,rfl,rfl,rfl,rfl,rfl,h⟩
                        · rw [if_neg c] at h
                          refine D.gskip (W.f rfl rfl rfl) ?_
                          refine D.gskip (W.f rfl rfl rfl) ?_
                          refine D.gskip (W.f rfl rfl rfl) ?_
                          refine D.gskip (W.f rfl rfl rfl) ?_
                          refine D.gskip (W.f rfl rfl rfl) ?_
                          refine D.gskip (W.f rfl rfl rfl) ?_
                          refine D.gskip (W.f rfl rfl rfl) ?_
                          refine D.gskip (W.f rfl rfl rfl) ?_
                          refine D.pu (Pu.pickF (.tmp rfl) .bool) ?_
                          refine D.pu (Pu.move (.tmp (v:=.bool _) rfl)) ?_
                          refine D.gpu (W.t rfl rfl) (Pu.move (.tmp (v:=.int _ _) rfl)) ?_
                          refine D.gpu (W.t rfl rfl) (Pu.bin (.tmp rfl) .int .eql) ?_
                          refine D.gpu (W.t rfl rfl) (Pu.move (.tmp (v:=.bool _) rfl)) ?_
                          refine D.splitE (fun c=>?_) (fun c=>?_)
                          · rw [if_pos c] at h
                            refine D.gpu (W.t rfl rfl) (U.load (.tmp rfl) rfl rfl (U.whole rfl rfl)) ?_
                            obtain ⟨q28,Hq28,h⟩:=Option.bind_eq_some_iff.1 h
                            refine D.gpu (W.t rfl rfl) (U.call (ss:=[]) (.cons (.tmp (v:=.agg _) rfl) .nil) (.cons (.cl (.aggL (.cons .fi (.cons .bool .nil)))) .nil) (whole_Int_Abs.cs Hq28) (.inl rfl) (.aggL (.cons .fi .nil))) ?_
                            obtain ⟨q29,Hq29,h⟩:=Option.bind_eq_some_iff.1 h
                            refine D.gpu (W.t rfl rfl) (U.call (ss:=[]) (.cons (.tmp (v:=.agg _) rfl) (.cons .bool .nil)) (.cons (.cl (.aggL (.cons .fi .nil))) (.cons (.cl .bool) .nil)) (whole_Of.cs Hq29) (.inl rfl) (.aggL (.cons .fi (.cons .bool .nil)))) ?_
                            obtain ⟨q30,Hq30,h⟩:=Option.bind_eq_some_iff.1 h
                            refine D.gpu (W.t rfl rfl) (U.call (ss:=[]) (.cons (.tmp (v:=.agg _) rfl) .nil) (.cons (.cl (.aggL (.cons .fi (.cons .bool .nil)))) .nil) (frac_From.cs Hq30) (.inl rfl) (.aggL (.cons .fi (.cons .bool (.cons .fi .nil))))) ?_
                            refine D.gpu (W.t rfl rfl) (U.load (.tmp rfl) rfl rfl (U.whole rfl rfl)) ?_
                            obtain ⟨q31,Hq31,h⟩:=Option.bind_eq_some_iff.1 h
                            refine D.gpu (W.t rfl rfl) (U.call (ss:=[]) (.cons (.tmp (v:=.agg _) rfl) .nil) (.cons (.cl (.aggL (.cons .fi (.cons .bool (.cons .fi .nil))))) .nil) (chattellaw06_size.cs Hq31) (.inl rfl) (.aggL (.cons .fi (.cons .bool (.cons .fi .nil))))) ?_
                            obtain ⟨q32,Hq32,h⟩:=Option.bind_eq_some_iff.1 h
                            refine D.gpu (W.t rfl rfl) (U.call (ss:=[]) (.cons (.tmp (v:=.agg _) rfl) (.cons (.tmp (v:=.agg _) rfl) .nil)) (.cons (.cl (.aggL (.cons .fi (.cons .bool (.cons .fi .nil))))) (.cons (.cl (.aggL (.cons .fi (.cons .bool (.cons .fi .nil))))) .nil)) (frac_Frac_Cmp.cs Hq32) (.inl rfl) (.int)) ?_
                            refine D.gpu (W.t rfl rfl) (Pu.bin (.tmp rfl) .int .lss) ?_
                            refine D.gpu (W.t rfl rfl) (Pu.pickT (.tmp rfl) (.tmp (v:=.bool _) rfl)) ?_
                            refine D.pu (Pu.pickF (.tmp rfl) (.tmp (v:=.bool _) rfl)) ?_
                            refine D.nil (by kernel_rfl) ?_
                            refine X.condP (.tmp rfl) (fun c=>?_) (fun c=>?_)
                            · rw [if_pos c] at h
                              refine X.seq ?_
                              refine X.still ?_
                              refine O.pu (Pu.assign .bool) ?_
                              refine O.nil ?_
                              refine X.ret ?_
                              cases h
                              exact E.fin [] (.tmp (v:=.bool _) rfl .nil) (.cons (.cl .bool) .nil)
                            · rw [if_neg c] at h
                              refine X.skip ?_
                              refine X.still ?_
                              refine O.pu (Pu.bin (.tmp rfl) .int U.add64) ?_
                              refine O.pu (Pu.move (.tmp (v:=.int _ _) rfl)) ?_
                              refine O.nil ?_
                              exact ⟨_,(by omega),_,_,_,_,_,_,_,_,_,_,_,_,_,_,_,_,_,rfl,rfl,rfl,rfl,rfl,rfl,rfl,rfl,rfl,h⟩
                          · rw [if_neg c] at h
                            refine D.gskip (W.f rfl rfl rfl) ?_
                            refine D.gskip (W.f rfl rfl rfl) ?_
                            refine D.gskip (W.f rfl rfl rfl) ?_
                            refine D.gskip (W.f rfl rfl rfl) ?_
                            refine D.gskip (W.f rfl rfl rfl) ?_
                            refine D.gskip (W.f rfl rfl rfl) ?_
                            refine D.gskip (W.f rfl rfl rfl) ?_
                            refine D.gskip (W.f rfl rfl rfl) ?_
                            refine D.gpu (W.t rfl rfl) (Pu.pickF (.tmp rfl) .bool) ?_
                            refine D.pu (Pu.pickF (.tmp rfl) (.tmp (v:=.bool _) rfl)) ?_
                            refine D.nil (by kernel_rfl) ?_
                            refine X.condF (.tmp rfl) ?_
                            refine X.skip ?_
                            refine X.still ?_
                            refine O.pu (Pu.bin (.tmp rfl) .int U.add64) ?_
                            refine O.pu (Pu.move (.tmp (v:=.int _ _) rfl)) ?_
                            refine O.nil ?_
                            exact ⟨_,(by omega),_,_,_,_,_,_,_,_,_,_,_,_,_,_,_,_,_,rfl,rfl,rfl,rfl,rfl,rfl,rfl,rfl,rfl,h⟩
                  · rw [if_neg (bf c)] at h
                    refine D.gskip (W.f rfl rfl rfl) ?_
                    refine D.gskip (W.f rfl rfl rfl) ?_
                    refine D.gskip (W.f rfl rfl rfl) ?_
                    refine D.gpu (W.t rfl rfl) (Pu.pickF (.tmp rfl) .bool) ?_
                    refine D.pu (Pu.pickF (.tmp rfl) (.tmp (v:=.bool _) rfl)) ?_
                    refine D.pu (Pu.move (.tmp (v:=.bool _) rfl)) ?_
                    refine D.gpu (W.t rfl rfl) (U.load (.tmp rfl) rfl rfl (U.whole rfl rfl)) ?_
                    refine D.gpu (W.t rfl rfl) (U.load (.tmp rfl) rfl rfl (U.whole rfl rfl)) ?_
                    obtain ⟨q33,Hq33,h⟩:=Option.bind_eq_some_iff.1 h
                    refine D.gpu (W.t rfl rfl) (U.call (ss:=[]) (.cons (.tmp (v:=.agg _) rfl) .nil) (.cons (.cl (.aggL (.cons .fi (.cons .bool .nil)))) .nil) (whole_Int_Neg.cs Hq33) (.inl rfl) (.aggL (.cons .fi (.cons .bool .nil)))) ?_
                    obtain ⟨q34,Hq34,h⟩:=Option.bind_eq_some_iff.1 h
                    refine D.gpu (W.t rfl rfl) (U.call (ss:=[]) (.cons (.tmp (v:=.agg _) rfl) (.cons (.tmp (v:=.agg _) rfl) .nil)) (.cons (.cl (.aggL (.cons .fi (.cons .bool .nil)))) (.cons (.cl (.aggL (.cons .fi (.cons .bool .nil)))) .nil)) (whole_Int_Cmp.cs Hq34) (.inl rfl) (.int)) ?_
                    refine D.gpu (W.t rfl rfl) (Pu.bin (.tmp rfl) .int .neq) ?_
                    refine D.pu (Pu.pickF (.tmp rfl) (.tmp (v:=.bool _) rfl)) ?_
                    refine D.nil (by kernel_rfl) ?_
                    repeat (rw [chattellaw06_RoundNear.j2_e] at h;obtain ⟨k,_,h⟩:=h;unfold chattellaw06_RoundNear.j2 at h;try dsimp only at h)
                    refine X.condN (.tmp rfl) (fun c=>?_) (fun c=>?_)
                    · rw [if_pos (ne1 c)] at h
                      refine X.seq ?_
                      refine X.still ?_
                      refine O.pu (Pu.assign .bool) ?_
                      refine O.nil ?_
                      refine X.ret ?_
                      cases h
                      exact E.fin [] (.tmp (v:=.bool _) rfl .nil) (.cons (.cl .bool) .nil)
                    · rw [if_neg (ne0 c)] at h
                      refine X.skip ?_
                      refine X.seq ?_
                      refine X.drawn ?_
                      refine D.pu (Pu.move (.tmp (v:=.int _ _) rfl)) ?_
                      refine D.pu (Pu.bin (.tmp rfl) .int .eql) ?_
                      refine D.pu (Pu.move (.tmp (v:=.bool _) rfl)) ?_
                      refine D.splitE (fun c=>?_) (fun c=>?_)
                      · rw [if_pos c] at h
                        refine D.gpu (W.t rfl rfl) (U.load (.tmp rfl) rfl rfl (U.whole rfl rfl)) ?_
                        obtain ⟨q35,Hq35,h⟩:=Option.bind_eq_some_iff.1 h
                        refine D.gpu (W.t rfl rfl) (U.call (ss:=[]) (.cons (.tmp (v:=.agg _) rfl) .nil) (.cons (.cl (.aggL (.cons .fi (.cons .bool .nil)))) .nil) (whole_Int_Abs.cs Hq35) (.inl rfl) (.aggL (.cons .fi .nil))) ?_
                        obtain ⟨q36,Hq36,h⟩:=Option.bind_eq_some_iff.1 h
                        refine D.gpu (W.t rfl rfl) (U.call (ss:=[]) (.cons (.tmp (v:=.agg _) rfl) (.cons .bool .nil)) (.cons (.cl (.aggL (.cons .fi .nil))) (.cons (.cl .bool) .nil)) (whole_Of.cs Hq36) (.inl rfl) (.aggL (.cons .fi (.cons .bool .nil)))) ?_
                        obtain ⟨q37,Hq37,h⟩:=Option.bind_eq_some_iff.1 h
                        refine D.gpu (W.t rfl rfl) (U.call (ss:=[]) (.cons (.tmp (v:=.agg _) rfl) .nil) (.cons (.cl (.aggL (.cons .fi (.cons .bool .nil)))) .nil) (frac_From.cs Hq37) (.inl rfl) (.aggL (.cons .fi (.cons .bool (.cons .fi .nil))))) ?_
                        refine D.gpu (W.t rfl rfl) (U.load (.tmp rfl) rfl rfl (U.whole rfl rfl)) ?_
                        obtain ⟨q38,Hq38,h⟩:=Option.bind_eq_some_iff.1 h
                        refine D.gpu (W.t rfl rfl) (U.call (ss:=[]) (.cons (.tmp (v:=.agg _) rfl) .nil) (.cons (.cl (.aggL (.cons .fi (.cons .bool (.cons .fi .nil))))) .nil) (chattellaw06_size.cs Hq38) (.inl rfl) (.aggL (.cons .fi (.cons .bool (.cons .fi .nil))))) ?_
                        obtain ⟨q39,Hq39,h⟩:=Option.bind_eq_some_iff.1 h
                        refine D.gpu (W.t rfl rfl) (U.call (ss:=[]) (.cons (.tmp (v:=.agg _) rfl) (.cons (.tmp (v:=.agg _) rfl) .nil)) (.cons (.cl (.aggL (.cons .fi (.cons .bool (.cons .fi .nil))))) (.cons (.cl (.aggL (.cons .fi (.cons .bool (.cons .fi .nil))))) .nil)) (frac_Frac_Cmp.cs Hq39) (.inl rfl) (.int)) ?_
                        refine D.gpu (W.t rfl rfl) (Pu.bin (.tmp rfl) .int .gtr) ?_
                        refine D.pu (Pu.pickT (.tmp rfl) (.tmp (v:=.bool _) rfl)) ?_
                        refine D.pu (Pu.move (.tmp (v:=.bool _) rfl)) ?_
                        refine D.splitP (fun c=>?_) (fun c=>?_)
                        · rw [if_pos c] at h
                          refine D.gskip (W.f rfl rfl rfl) ?_
                          refine D.gskip (W.f rfl rfl rfl) ?_
                          refine D.gskipN (b:=true) (W.f rfl rfl rfl) ?_
                          refine D.gskip (W.n rfl rfl) ?_
                          refine D.gskip (W.n rfl rfl) ?_
                          refine D.gskip (W.n rfl rfl) ?_
                          refine D.gskip (W.n rfl rfl) ?_
                          refine D.gskip (W.n rfl rfl) ?_
                          refine D.gskip (W.n rfl rfl) ?_
                          refine D.gskip (W.n rfl rfl) ?_
                          refine D.gskip (W.n rfl rfl) ?_
                          refine D.gskip (W.f rfl rfl rfl) ?_
                          refine D.pu (Pu.pickT (.tmp rfl) .bool) ?_
                          refine D.nil (by kernel_rfl) ?_
                          refine X.condT (.tmp rfl) ?_
                          refine X.seq ?_
                          refine X.still ?_
                          refine O.pu (Pu.assign .bool) ?_
                          refine O.nil ?_
                          refine X.ret ?_
                          cases h
                          exact E.fin [] (.tmp (v:=.bool _) rfl .nil) (.cons (.cl .bool) .nil)
                        · rw [if_neg c] at h
                          refine D.gpu (W.t rfl rfl) (Pu.move (.tmp (v:=.int _ _) rfl)) ?_
                          refine D.gpu (W.t rfl rfl) (Pu.bin (.tmp rfl) .int .eql) ?_
                          refine D.gpu (W.t rfl rfl) (Pu.move (.tmp (v:=.bool _) rfl)) ?_
                          refine D.splitE (fun c=>?_) (fun c=>?_)
                          · rw [if_pos c] at h
                            refine D.gpu (W.t rfl rfl) (U.load (.tmp rfl) rfl rfl (U.whole rfl rfl)) ?_
                            obtain ⟨q40,Hq40,h⟩:=Option.bind_eq_some_iff.1 h
                            refine D.gpu (W.t rfl rfl) (U.call (ss:=[]) (.cons (.tmp (v:=.agg _) rfl) .nil) (.cons (.cl (.aggL (.cons .fi (.cons .bool .nil)))) .nil) (whole_Int_Abs.cs Hq40) (.inl rfl) (.aggL (.cons .fi .nil))) ?_
                            obtain ⟨q41,Hq41,h⟩:=Option.bind_eq_some_iff.1 h
                            refine D.gpu (W.t rfl rfl) (U.call (ss:=[]) (.cons (.tmp (v:=.agg _) rfl) (.cons .bool .nil)) (.cons (.cl (.aggL (.cons .fi .nil))) (.cons (.cl .bool) .nil)) (whole_Of.cs Hq41) (.inl rfl) (.aggL (.cons .fi (.cons .bool .nil)))) ?_
                            obtain ⟨q42,Hq42,h⟩:=Option.bind_eq_some_iff.1 h
                            refine D.gpu (W.t rfl rfl) (U.call (ss:=[]) (.cons (.tmp (v:=.agg _) rfl) .nil) (.cons (.cl (.aggL (.cons .fi (.cons .bool .nil)))) .nil) (frac_From.cs Hq42) (.inl rfl) (.aggL (.cons .fi (.cons .bool (.cons .fi .nil))))) ?_
                            refine D.gpu (W.t rfl rfl) (U.load (.tmp rfl) rfl rfl (U.whole rfl rfl)) ?_
                            obtain ⟨q43,Hq43,h⟩:=Option.bind_eq_some_iff.1 h
                            refine D.gpu (W.t rfl rfl) (U.call (ss:=[]) (.cons (.tmp (v:=.agg _) rfl) .nil) (.cons (.cl (.aggL (.cons .fi (.cons .bool (.cons .fi .nil))))) .nil) (chattellaw06_size.cs Hq43) (.inl rfl) (.aggL (.cons .fi (.cons .bool (.cons .fi .nil))))) ?_
                            obtain ⟨q44,Hq44,h⟩:=Option.bind_eq_some_iff.1 h
                            refine D.gpu (W.t rfl rfl) (U.call (ss:=[]) (.cons (.tmp (v:=.agg _) rfl) (.cons (.tmp (v:=.agg _) rfl) .nil)) (.cons (.cl (.aggL (.cons .fi (.cons .bool (.cons .fi .nil))))) (.cons (.cl (.aggL (.cons .fi (.cons .bool (.cons .fi .nil))))) .nil)) (frac_Frac_Cmp.cs Hq44) (.inl rfl) (.int)) ?_
                            refine D.gpu (W.t rfl rfl) (Pu.bin (.tmp rfl) .int .lss) ?_
                            refine D.gpu (W.t rfl rfl) (Pu.pickT (.tmp rfl) (.tmp (v:=.bool _) rfl)) ?_
                            refine D.pu (Pu.pickF (.tmp rfl) (.tmp (v:=.bool _) rfl)) ?_
                            refine D.nil (by kernel_rfl) ?_
                            refine X.condP (.tmp rfl) (fun c=>?_) (fun c=>?_)
                            · rw [if_pos c] at h
                              refine X.seq ?_
                              refine X.still ?_
                              refine O.pu (Pu.assign .bool) ?_
                              refine O.nil ?_
                              refine X.ret ?_
                              cases h
                              exact E.fin [] (.tmp (v:=.bool _) rfl .nil) (.cons (.cl .bool) .nil)
                            · rw [if_neg c] at h
                              refine X.skip ?_
                              refine X.still ?_
                              refine O.pu (Pu.bin (.tmp rfl) .int U.add64) ?_
                              refine O.pu (Pu.move (.tmp (v:=.int _ _) rfl)) ?_
                              refine O.nil ?_
                              exact ⟨_,(by omega),_,_,_,_,_,_,_,_,_,_,_,_,_,_,_,_,_,rfl,rfl,rfl,rfl,rfl,rfl,rfl,rfl,rfl,h⟩
                          · rw [if_neg c] at h
                            refine D.gskip (W.f rfl rfl rfl) ?_
                            refine D.gskip (W.f rfl rfl rfl) ?_
                            refine D.gskip (W.f rfl rfl rfl) ?_
                            refine D.gskip (W.f rfl rfl rfl) ?_
                            refine D.gskip (W.f rfl rfl rfl) ?_
                            refine D.gskip (W.f rfl rfl rfl) ?_
                            refine D.gskip (W.f rfl rfl rfl) ?_
                            refine D.gskip (W.f rfl rfl rfl) ?_
                            refine D.gpu (W.t rfl rfl) (Pu.pickF (.tmp rfl) .bool) ?_
                            refine D.pu (Pu.pickF (.tmp rfl) (.tmp (v:=.bool _) rfl)) ?_
                            refine D.nil (by kernel_rfl) ?_
                            refine X.condF (.tmp rfl) ?_
                            refine X.skip ?_
                            refine X.still ?_
                            refine O.pu (Pu.bin (.tmp rfl) .int U.add64) ?_
                            refine O.pu (Pu.move (.tmp (v:=.int _ _) rfl)) ?_
                            refine O.nil ?_
                            exact ⟨_,(by omega),_,_,_,_,_,_,_,_,_,_,_,_,_,_,_,_,_,rfl,rfl,rfl,rfl,rfl,rfl,rfl,rfl,rfl,h⟩
                      · rw [if_neg c] at h
                        refine D.gskip (W.f rfl rfl rfl) ?_
                        refine D.gskip (W.f rfl rfl rfl) ?_
                        refine D.gskip (W.f rfl rfl rfl) ?_
                        refine D.gskip (W.f rfl rfl rfl) ?_
                        refine D.gskip (W.f rfl rfl rfl) ?_
                        refine D.gskip (W.f rfl rfl rfl) ?_
                        refine D.gskip (W.f rfl rfl rfl) ?_
                        refine D.gskip (W.f rfl rfl rfl) ?_
                        refine D.pu (Pu.pickF (.tmp rfl) .bool) ?_
                        refine D.pu (Pu.move (.tmp (v:=.bool _) rfl)) ?_
                        refine D.gpu (W.t rfl rfl) (Pu.move (.tmp (v:=.int _ _) rfl)) ?_
                        refine D.gpu (W.t rfl rfl) (Pu.bin (.tmp rfl) .int .eql) ?_
                        refine D.gpu (W.t rfl rfl) (Pu.move (.tmp (v:=.bool _) rfl)) ?_
                        refine D.splitE (fun c=>?_) (fun c=>?_)
                        · rw [if_pos c] at h
                          refine D.gpu (W.t rfl rfl) (U.load (.tmp rfl) rfl rfl (U.whole rfl rfl)) ?_
                          obtain ⟨q45,Hq45,h⟩:=Option.bind_eq_some_iff.1 h
                          refine D.gpu (W.t rfl rfl) (U.call (ss:=[]) (.cons (.tmp (v:=.agg _) rfl) .nil) (.cons (.cl (.aggL (.cons .fi (.cons .bool .nil)))) .nil) (whole_Int_Abs.cs Hq45) (.inl rfl) (.aggL (.cons .fi .nil))) ?_
                          obtain ⟨q46,Hq46,h⟩:=Option.bind_eq_some_iff.1 h
                          refine D.gpu (W.t rfl rfl) (U.call (ss:=[]) (.cons (.tmp (v:=.agg _) rfl) (.cons .bool .nil)) (.cons (.cl (.aggL (.cons .fi .nil))) (.cons (.cl .bool) .nil)) (whole_Of.cs Hq46) (.inl rfl) (.aggL (.cons .fi (.cons .bool .nil)))) ?_
                          obtain ⟨q47,Hq47,h⟩:=Option.bind_eq_some_iff.1 h
                          refine D.gpu (W.t rfl rfl) (U.call (ss:=[]) (.cons (.tmp (v:=.agg _) rfl) .nil) (.cons (.cl (.aggL (.cons .fi (.cons .bool .nil)))) .nil) (frac_From.cs Hq47) (.inl rfl) (.aggL (.cons .fi (.cons .bool (.cons .fi .nil))))) ?_
                          refine D.gpu (W.t rfl rfl) (U.load (.tmp rfl) rfl rfl (U.whole rfl rfl)) ?_
                          obtain ⟨q48,Hq48,h⟩:=Option.bind_eq_some_iff.1 h
                          refine D.gpu (W.t rfl rfl) (U.call (ss:=[]) (.cons (.tmp (v:=.agg _) rfl) .nil) (.cons (.cl (.aggL (.cons .fi (.cons .bool (.cons .fi .nil))))) .nil) (chattellaw06_size.cs Hq48) (.inl rfl) (.aggL (.cons .fi (.cons .bool (.cons .fi .nil))))) ?_
                          obtain ⟨q49,Hq49,h⟩:=Option.bind_eq_some_iff.1 h
                          refine D.gpu (W.t rfl rfl) (U.call (ss:=[]) (.cons (.tmp (v:=.agg _) rfl) (.cons (.tmp (v:=.agg _) rfl) .nil)) (.cons (.cl (.aggL (.cons .fi (.cons .bool (.cons .fi .nil))))) (.cons (.cl (.aggL (.cons .fi (.cons .bool (.cons .fi .nil))))) .nil)) (frac_Frac_Cmp.cs Hq49) (.inl rfl) (.int)) ?_
                          refine D.gpu (W.t rfl rfl) (Pu.bin (.tmp rfl) .int .lss) ?_
                          refine D.gpu (W.t rfl rfl) (Pu.pickT (.tmp rfl) (.tmp (v:=.bool _) rfl)) ?_
                          refine D.pu (Pu.pickF (.tmp rfl) (.tmp (v:=.bool _) rfl)) ?_
                          refine D.nil (by kernel_rfl) ?_
                          refine X.condP (.tmp rfl) (fun c=>?_) (fun c=>?_)
                          · rw [if_pos c] at h
                            refine X.seq ?_
                            refine X.still ?_
                            refine O.pu (Pu.assign .bool) ?_
                            refine O.nil ?_
                            refine X.ret ?_
                            cases h
                            exact E.fin [] (.tmp (v:=.bool _) rfl .nil) (.cons (.cl .bool) .nil)
                          · rw [if_neg c] at h
                            refine X.skip ?_
                            refine X.still ?_
                            refine O.pu (Pu.bin (.tmp rfl) .int U.add64) ?_
                            refine O.pu (Pu.move (.tmp (v:=.int _ _) rfl)) ?_
                            refine O.nil ?_
                            exact ⟨_,(by omega),_,_,_,_,_,_,_,_,_,_,_,_,_,_,_,_,_,rfl,rfl,rfl,rfl,rfl,rfl,rfl,rfl,rfl,h⟩
                        · rw [if_neg c] at h
                          refine D.gskip (W.f rfl rfl rfl) ?_
                          refine D.gskip (W.f rfl rfl rfl) ?_
                          refine D.gskip (W.f rfl rfl rfl) ?_
                          refine D.gskip (W.f rfl rfl rfl) ?_
                          refine D.gskip (W.f rfl rfl rfl) ?_
                          refine D.gskip (W.f rfl rfl rfl) ?_
                          refine D.gskip (W.f rfl rfl rfl) ?_
                          refine D.gskip (W.f rfl rfl rfl) ?_
                          refine D.gpu (W.t rfl rfl) (Pu.pickF (.tmp rfl) .bool) ?_
                          refine D.pu (Pu.pickF (.tmp rfl) (.tmp (v:=.bool _) rfl)) ?_
                          refine D.nil (by kernel_rfl) ?_
                          refine X.condF (.tmp rfl) ?_
                          refine X.skip ?_
                          refine X.still ?_
                          refine O.pu (Pu.bin (.tmp rfl) .int U.add64) ?_
                          refine O.pu (Pu.move (.tmp (v:=.int _ _) rfl)) ?_
                          refine O.nil ?_
                          exact ⟨_,(by omega),_,_,_,_,_,_,_,_,_,_,_,_,_,_,_,_,_,rfl,rfl,rfl,rfl,rfl,rfl,rfl,rfl,rfl,h⟩
              · rw [if_neg c] at h
                refine D.gskip (W.f rfl rfl rfl) ?_
                refine D.gskip (W.f rfl rfl rfl) ?_
                refine D.gskip (W.f rfl rfl rfl) ?_
                refine D.gskip (W.f rfl rfl rfl) ?_
                refine D.gskip (W.f rfl rfl rfl) ?_
                refine D.gskip (W.f rfl rfl rfl) ?_
                refine D.gpu (W.t rfl rfl) (Pu.pickF (.tmp rfl) .bool) ?_
                refine D.pu (Pu.pickF (.tmp rfl) (.tmp (v:=.bool _) rfl)) ?_
                refine D.pu (Pu.move (.tmp (v:=.bool _) rfl)) ?_
                refine D.gpu (W.t rfl rfl) (U.load (.tmp rfl) rfl rfl (U.whole rfl rfl)) ?_
                obtain ⟨q50,Hq50,h⟩:=Option.bind_eq_some_iff.1 h
                refine D.gpu (W.t rfl rfl) (U.call (ss:=[]) (.cons (.tmp (v:=.agg _) rfl) .nil) (.cons (.cl (.aggL (.cons .fi (.cons .bool (.cons .fi .nil))))) .nil) (chattellaw06_exact.cs Hq50) (.inl rfl) (.bool)) ?_
                refine D.gpu (W.t rfl rfl) (Pu.move (.tmp (v:=.bool _) rfl)) ?_
                refine D.split (fun c=>?_) (fun c=>?_)
                · rw [if_pos c] at h
                  refine D.gpu (W.t rfl rfl) (U.load (.tmp rfl) rfl rfl (U.whole rfl rfl)) ?_
                  obtain ⟨q51,Hq51,h⟩:=Option.bind_eq_some_iff.1 h
                  refine D.gpu (W.t rfl rfl) (U.call (ss:=[]) (.cons (.tmp (v:=.agg _) rfl) .nil) (.cons (.cl (.aggL (.cons .fi (.cons .bool (.cons .fi .nil))))) .nil) (frac_Frac_Sign.cs Hq51) (.inl rfl) (.int)) ?_
                  refine D.gpu (W.t rfl rfl) (Pu.bin (.tmp rfl) .int .neq) ?_
                  refine D.gpu (W.t rfl rfl) (Pu.pickT (.tmp rfl) (.tmp (v:=.bool _) rfl)) ?_
                  refine D.pu (Pu.pickF (.tmp rfl) (.tmp (v:=.bool _) rfl)) ?_
                  refine D.pu (Pu.move (.tmp (v:=.bool _) rfl)) ?_
                  refine D.splitN (fun c=>?_) (fun c=>?_)
                  · rw [if_neg c] at h
                    refine D.gskip (W.f rfl rfl rfl) ?_
                    refine D.gskip (W.f rfl rfl rfl) ?_
                    refine D.gskip (W.f rfl rfl rfl) ?_
                    refine D.gskip (W.f rfl rfl rfl) ?_
                    refine D.gskip (W.f rfl rfl rfl) ?_
                    refine D.pu (Pu.pickT (.tmp rfl) .bool) ?_
                    refine D.nil (by kernel_rfl) ?_
                    repeat (rw [chattellaw06_RoundNear.j2_e] at h;obtain ⟨k,_,h⟩:=h;unfold chattellaw06_RoundNear.j2 at h;try dsimp only at h)
                    rw [if_pos rfl] at h
                    refine X.condT (.tmp rfl) ?_
                    refine X.seq ?_
                    refine X.still ?_
                    refine O.pu (Pu.assign .bool) ?_
                    refine O.nil ?_
                    refine X.ret ?_
                    cases h
                    exact E.fin [] (.tmp (v:=.bool _) rfl .nil) (.cons (.cl .bool) .nil)
                  · rw [if_pos c] at h
                    refine D.gpu (W.t rfl rfl) (U.load (.tmp rfl) rfl rfl (U.whole rfl rfl)) ?_
                    refine D.gpu (W.t rfl rfl) (U.load (.tmp rfl) rfl rfl (U.whole rfl rfl)) ?_
                    obtain ⟨q52,Hq52,h⟩:=Option.bind_eq_some_iff.1 h
                    refine D.gpu (W.t rfl rfl) (U.call (ss:=[]) (.cons (.tmp (v:=.agg _) rfl) .nil) (.cons (.cl (.aggL (.cons .fi (.cons .bool .nil)))) .nil) (whole_Int_Neg.cs Hq52) (.inl rfl) (.aggL (.cons .fi (.cons .bool .nil)))) ?_
                    obtain ⟨q53,Hq53,h⟩:=Option.bind_eq_some_iff.1 h
                    refine D.gpu (W.t rfl rfl) (U.call (ss:=[]) (.cons (.tmp (v:=.agg _) rfl) (.cons (.tmp (v:=.agg _) rfl) .nil)) (.cons (.cl (.aggL (.cons .fi (.cons .bool .nil)))) (.cons (.cl (.aggL (.cons .fi (.cons .bool .nil)))) .nil)) (whole_Int_Cmp.cs Hq53) (.inl rfl) (.int)) ?_
                    refine D.gpu (W.t rfl rfl) (Pu.bin (.tmp rfl) .int .neq) ?_
                    refine D.pu (Pu.pickF (.tmp rfl) (.tmp (v:=.bool _) rfl)) ?_
                    refine D.nil (by kernel_rfl) ?_
                    repeat (rw [chattellaw06_RoundNear.j2_e] at h;obtain ⟨k,_,h⟩:=h;unfold chattellaw06_RoundNear.j2 at h;try dsimp only at h)
                    refine X.condN (.tmp rfl) (fun c=>?_) (fun c=>?_)
                    · rw [if_pos (ne1 c)] at h
                      refine X.seq ?_
                      refine X.still ?_
                      refine O.pu (Pu.assign .bool) ?_
                      refine O.nil ?_
                      refine X.ret ?_
                      cases h
                      exact E.fin [] (.tmp (v:=.bool _) rfl .nil) (.cons (.cl .bool) .nil)
                    · rw [if_neg (ne0 c)] at h
                      refine X.skip ?_
                      refine X.seq ?_
                      refine X.drawn ?_
                      refine D.pu (Pu.move (.tmp (v:=.int _ _) rfl)) ?_
                      refine D.pu (Pu.bin (.tmp rfl) .int .eql) ?_
                      refine D.pu (Pu.move (.tmp (v:=.bool _) rfl)) ?_
                      refine D.splitE (fun c=>?_) (fun c=>?_)
                      · rw [if_pos c] at h
                        refine D.gpu (W.t rfl rfl) (U.load (.tmp rfl) rfl rfl (U.whole rfl rfl)) ?_
                        obtain ⟨q54,Hq54,h⟩:=Option.bind_eq_some_iff.1 h
                        refine D.gpu (W.t rfl rfl) (U.call (ss:=[]) (.cons (.tmp (v:=.agg _) rfl) .nil) (.cons (.cl (.aggL (.cons .fi (.cons .bool .nil)))) .nil) (whole_Int_Abs.cs Hq54) (.inl rfl) (.aggL (.cons .fi .nil))) ?_
                        obtain ⟨q55,Hq55,h⟩:=Option.bind_eq_some_iff.1 h
                        refine D.gpu (W.t rfl rfl) (U.call (ss:=[]) (.cons (.tmp (v:=.agg _) rfl) (.cons .bool .nil)) (.cons (.cl (.aggL (.cons .fi .nil))) (.cons (.cl .bool) .nil)) (whole_Of.cs Hq55) (.inl rfl) (.aggL (.cons .fi (.cons .bool .nil)))) ?_
                        obtain ⟨q56,Hq56,h⟩:=Option.bind_eq_some_iff.1 h
                        refine D.gpu (W.t rfl rfl) (U.call (ss:=[]) (.cons (.tmp (v:=.agg _) rfl) .nil) (.cons (.cl (.aggL (.cons .fi (.cons .bool .nil)))) .nil) (frac_From.cs Hq56) (.inl rfl) (.aggL (.cons .fi (.cons .bool (.cons .fi .nil))))) ?_
                        refine D.gpu (W.t rfl rfl) (U.load (.tmp rfl) rfl rfl (U.whole rfl rfl)) ?_
                        obtain ⟨q57,Hq57,h⟩:=Option.bind_eq_some_iff.1 h
                        refine D.gpu (W.t rfl rfl) (U.call (ss:=[]) (.cons (.tmp (v:=.agg _) rfl) .nil) (.cons (.cl (.aggL (.cons .fi (.cons .bool (.cons .fi .nil))))) .nil) (chattellaw06_size.cs Hq57) (.inl rfl) (.aggL (.cons .fi (.cons .bool (.cons .fi .nil))))) ?_
                        obtain ⟨q58,Hq58,h⟩:=Option.bind_eq_some_iff.1 h
                        refine D.gpu (W.t rfl rfl) (U.call (ss:=[]) (.cons (.tmp (v:=.agg _) rfl) (.cons (.tmp (v:=.agg _) rfl) .nil)) (.cons (.cl (.aggL (.cons .fi (.cons .bool (.cons .fi .nil))))) (.cons (.cl (.aggL (.cons .fi (.cons .bool (.cons .fi .nil))))) .nil)) (frac_Frac_Cmp.cs Hq58) (.inl rfl) (.int)) ?_
                        refine D.gpu (W.t rfl rfl) (Pu.bin (.tmp rfl) .int .gtr) ?_
                        refine D.pu (Pu.pickT (.tmp rfl) (.tmp (v:=.bool _) rfl)) ?_
                        refine D.pu (Pu.move (.tmp (v:=.bool _) rfl)) ?_
                        refine D.splitP (fun c=>?_) (fun c=>?_)
                        · rw [if_pos c] at h
                          refine D.gskip (W.f rfl rfl rfl) ?_
                          refine D.gskip (W.f rfl rfl rfl) ?_
                          refine D.gskipN (b:=true) (W.f rfl rfl rfl) ?_
                          refine D.gskip (W.n rfl rfl) ?_
                          refine D.gskip (W.n rfl rfl) ?_
                          refine D.gskip (W.n rfl rfl) ?_
                          refine D.gskip (W.n rfl rfl) ?_
                          refine D.gskip (W.n rfl rfl) ?_
                          refine D.gskip (W.n rfl rfl) ?_
                          refine D.gskip (W.n rfl rfl) ?_
                          refine D.gskip (W.n rfl rfl) ?_
                          refine D.gskip (W.f rfl rfl rfl) ?_
                          refine D.pu (Pu.pickT (.tmp rfl) .bool) ?_
                          refine D.nil (by kernel_rfl) ?_
                          refine X.condT (.tmp rfl) ?_
                          refine X.seq ?_
                          refine X.still ?_
                          refine O.pu (Pu.assign .bool) ?_
                          refine O.nil ?_
                          refine X.ret ?_
                          cases h
                          exact E.fin [] (.tmp (v:=.bool _) rfl .nil) (.cons (.cl .bool) .nil)
                        · rw [if_neg c] at h
                          refine D.gpu (W.t rfl rfl) (Pu.move (.tmp (v:=.int _ _) rfl)) ?_
                          refine D.gpu (W.t rfl rfl) (Pu.bin (.tmp rfl) .int .eql) ?_
                          refine D.gpu (W.t rfl rfl) (Pu.move (.tmp (v:=.bool _) rfl)) ?_
                          refine D.splitE (fun c=>?_) (fun c=>?_)
                          · rw [if_pos c] at h
                            refine D.gpu (W.t rfl rfl) (U.load (.tmp rfl) rfl rfl (U.whole rfl rfl)) ?_
                            obtain ⟨q59,Hq59,h⟩:=Option.bind_eq_some_iff.1 h
                            refine D.gpu (W.t rfl rfl) (U.call (ss:=[]) (.cons (.tmp (v:=.agg _) rfl) .nil) (.cons (.cl (.aggL (.cons .fi (.cons .bool .nil)))) .nil) (whole_Int_Abs.cs Hq59) (.inl rfl) (.aggL (.cons .fi .nil))) ?_
                            obtain ⟨q60,Hq60,h⟩:=Option.bind_eq_some_iff.1 h
                            refine D.gpu (W.t rfl rfl) (U.call (ss:=[]) (.cons (.tmp (v:=.agg _) rfl) (.cons .bool .nil)) (.cons (.cl (.aggL (.cons .fi .nil))) (.cons (.cl .bool) .nil)) (whole_Of.cs Hq60) (.inl rfl) (.aggL (.cons .fi (.cons .bool .nil)))) ?_
                            obtain ⟨q61,Hq61,h⟩:=Option.bind_eq_some_iff.1 h
                            refine D.gpu (W.t rfl rfl) (U.call (ss:=[]) (.cons (.tmp (v:=.agg _) rfl) .nil) (.cons (.cl (.aggL (.cons .fi (.cons .bool .nil)))) .nil) (frac_From.cs Hq61) (.inl rfl) (.aggL (.cons .fi (.cons .bool (.cons .fi .nil))))) ?_
                            refine D.gpu (W.t rfl rfl) (U.load (.tmp rfl) rfl rfl (U.whole rfl rfl)) ?_
                            obtain ⟨q62,Hq62,h⟩:=Option.bind_eq_some_iff.1 h
                            refine D.gpu (W.t rfl rfl) (U.call (ss:=[]) (.cons (.tmp (v:=.agg _) rfl) .nil) (.cons (.cl (.aggL (.cons .fi (.cons .bool (.cons .fi .nil))))) .nil) (chattellaw06_size.cs Hq62) (.inl rfl) (.aggL (.cons .fi (.cons .bool (.cons .fi .nil))))) ?_
                            obtain ⟨q63,Hq63,h⟩:=Option.bind_eq_some_iff.1 h
                            refine D.gpu (W.t rfl rfl) (U.call (ss:=[]) (.cons (.tmp (v:=.agg _) rfl) (.cons (.tmp (v:=.agg _) rfl) .nil)) (.cons (.cl (.aggL (.cons .fi (.cons .bool (.cons .fi .nil))))) (.cons (.cl (.aggL (.cons .fi (.cons .bool (.cons .fi .nil))))) .nil)) (frac_Frac_Cmp.cs Hq63) (.inl rfl) (.int)) ?_
                            refine D.gpu (W.t rfl rfl) (Pu.bin (.tmp rfl) .int .lss) ?_
                            refine D.gpu (W.t rfl rfl) (Pu.pickT (.tmp rfl) (.tmp (v:=.bool _) rfl)) ?_
                            refine D.pu (Pu.pickF (.tmp rfl) (.tmp (v:=.bool _) rfl)) ?_
                            refine D.nil (by kernel_rfl) ?_
                            refine X.condP (.tmp rfl) (fun c=>?_) (fun c=>?_)
                            · rw [if_pos c] at h
                              refine X.seq ?_
                              refine X.still ?_
                              refine O.pu (Pu.assign .bool) ?_
                              refine O.nil ?_
                              refine X.ret ?_
                              cases h
                              exact E.fin [] (.tmp (v:=.bool _) rfl .nil) (.cons (.cl .bool) .nil)
                            · rw [if_neg c] at h
                              refine X.skip ?_
                              refine X.still ?_
                              refine O.pu (Pu.bin (.tmp rfl) .int U.add64) ?_
                              refine O.pu (Pu.move (.tmp (v:=.int _ _) rfl)) ?_
                              refine O.nil ?_
                              exact ⟨_,(by omega),_,_,_,_,_,_,_,_,_,_,_,_,_,_,_,_,_,rfl,rfl,rfl,rfl,rfl,rfl,rfl,rfl,rfl,h⟩
                          · rw [if_neg c] at h
                            refine D.gskip (W.f rfl rfl rfl) ?_
                            refine D.gskip (W.f rfl rfl rfl) ?_
                            refine D.gskip (W.f rfl rfl rfl) ?_
                            refine D.gskip (W.f rfl rfl rfl) ?_
                            refine D.gskip (W.f rfl rfl rfl) ?_
                            refine D.gskip (W.f rfl rfl rfl) ?_
                            refine D.gskip (W.f rfl rfl rfl) ?_
                            refine D.gskip (W.f rfl rfl rfl) ?_
                            refine D.gpu (W.t rfl rfl) (Pu.pickF (.tmp rfl) .bool) ?_
                            refine D.pu (Pu.pickF (.tmp rfl) (.tmp (v:=.bool _) rfl)) ?_
                            refine D.nil (by kernel_rfl) ?_
                            refine X.condF (.tmp rfl) ?_
                            refine X.skip ?_
                            refine X.still ?_
                            refine O.pu (Pu.bin (.tmp rfl) .int U.add64) ?_
                            refine O.pu (Pu.move (.tmp (v:=.int _ _) rfl)) ?_
                            refine O.nil ?_
                            exact ⟨_,(by omega),_,_,_,_,_,_,_,_,_,_,_,_,_,_,_,_,_,rfl,rfl,rfl,rfl,rfl,rfl,rfl,rfl,rfl,h⟩
                      · rw [if_neg c] at h
                        refine D.gskip (W.f rfl rfl rfl) ?_
                        refine D.gskip (W.f rfl rfl rfl) ?_
                        refine D.gskip (W.f rfl rfl rfl) ?_
                        refine D.gskip (W.f rfl rfl rfl) ?_
                        refine D.gskip (W.f rfl rfl rfl) ?_
                        refine D.gskip (W.f rfl rfl rfl) ?_
                        refine D.gskip (W.f rfl rfl rfl) ?_
                        refine D.gskip (W.f rfl rfl rfl) ?_
                        refine D.pu (Pu.pickF (.tmp rfl) .bool) ?_
                        refine D.pu (Pu.move (.tmp (v:=.bool _) rfl)) ?_
                        refine D.gpu (W.t rfl rfl) (Pu.move (.tmp (v:=.int _ _) rfl)) ?_
                        refine D.gpu (W.t rfl rfl) (Pu.bin (.tmp rfl) .int .eql) ?_
                        refine D.gpu (W.t rfl rfl) (Pu.move (.tmp (v:=.bool _) rfl)) ?_
                        refine D.splitE (fun c=>?_) (fun c=>?_)
                        · rw [if_pos c] at h
                          refine D.gpu (W.t rfl rfl) (U.load (.tmp rfl) rfl rfl (U.whole rfl rfl)) ?_
                          obtain ⟨q64,Hq64,h⟩:=Option.bind_eq_some_iff.1 h
                          refine D.gpu (W.t rfl rfl) (U.call (ss:=[]) (.cons (.tmp (v:=.agg _) rfl) .nil) (.cons (.cl (.aggL (.cons .fi (.cons .bool .nil)))) .nil) (whole_Int_Abs.cs Hq64) (.inl rfl) (.aggL (.cons .fi .nil))) ?_
                          obtain ⟨q65,Hq65,h⟩:=Option.bind_eq_some_iff.1 h
                          refine D.gpu (W.t rfl rfl) (U.call (ss:=[]) (.cons (.tmp (v:=.agg _) rfl) (.cons .bool .nil)) (.cons (.cl (.aggL (.cons .fi .nil))) (.cons (.cl .bool) .nil)) (whole_Of.cs Hq65) (.inl rfl) (.aggL (.cons .fi (.cons .bool .nil)))) ?_
                          obtain ⟨q66,Hq66,h⟩:=Option.bind_eq_some_iff.1 h
                          refine D.gpu (W.t rfl rfl) (U.call (ss:=[]) (.cons (.tmp (v:=.agg _) rfl) .nil) (.cons (.cl (.aggL (.cons .fi (.cons .bool .nil)))) .nil) (frac_From.cs Hq66) (.inl rfl) (.aggL (.cons .fi (.cons .bool (.cons .fi .nil))))) ?_
                          refine D.gpu (W.t rfl rfl) (U.load (.tmp rfl) rfl rfl (U.whole rfl rfl)) ?_
                          obtain ⟨q67,Hq67,h⟩:=Option.bind_eq_some_iff.1 h
                          refine D.gpu (W.t rfl rfl) (U.call (ss:=[]) (.cons (.tmp (v:=.agg _) rfl) .nil) (.cons (.cl (.aggL (.cons .fi (.cons .bool (.cons .fi .nil))))) .nil) (chattellaw06_size.cs Hq67) (.inl rfl) (.aggL (.cons .fi (.cons .bool (.cons .fi .nil))))) ?_
                          obtain ⟨q68,Hq68,h⟩:=Option.bind_eq_some_iff.1 h
                          refine D.gpu (W.t rfl rfl) (U.call (ss:=[]) (.cons (.tmp (v:=.agg _) rfl) (.cons (.tmp (v:=.agg _) rfl) .nil)) (.cons (.cl (.aggL (.cons .fi (.cons .bool (.cons .fi .nil))))) (.cons (.cl (.aggL (.cons .fi (.cons .bool (.cons .fi .nil))))) .nil)) (frac_Frac_Cmp.cs Hq68) (.inl rfl) (.int)) ?_
                          refine D.gpu (W.t rfl rfl) (Pu.bin (.tmp rfl) .int .lss) ?_
                          refine D.gpu (W.t rfl rfl) (Pu.pickT (.tmp rfl) (.tmp (v:=.bool _) rfl)) ?_
                          refine D.pu (Pu.pickF (.tmp rfl) (.tmp (v:=.bool _) rfl)) ?_
                          refine D.nil (by kernel_rfl) ?_
                          refine X.condP (.tmp rfl) (fun c=>?_) (fun c=>?_)
                          · rw [if_pos c] at h
                            refine X.seq ?_
                            refine X.still ?_
                            refine O.pu (Pu.assign .bool) ?_
                            refine O.nil ?_
                            refine X.ret ?_
                            cases h
                            exact E.fin [] (.tmp (v:=.bool _) rfl .nil) (.cons (.cl .bool) .nil)
                          · rw [if_neg c] at h
                            refine X.skip ?_
                            refine X.still ?_
                            refine O.pu (Pu.bin (.tmp rfl) .int U.add64) ?_
                            refine O.pu (Pu.move (.tmp (v:=.int _ _) rfl)) ?_
                            refine O.nil ?_
                            exact ⟨_,(by omega),_,_,_,_,_,_,_,_,_,_,_,_,_,_,_,_,_,rfl,rfl,rfl,rfl,rfl,rfl,rfl,rfl,rfl,h⟩
                        · rw [if_neg c] at h
                          refine D.gskip (W.f rfl rfl rfl) ?_
                          refine D.gskip (W.f rfl rfl rfl) ?_
                          refine D.gskip (W.f rfl rfl rfl) ?_
                          refine D.gskip (W.f rfl rfl rfl) ?_
                          refine D.gskip (W.f rfl rfl rfl) ?_
                          refine D.gskip (W.f rfl rfl rfl) ?_
                          refine D.gskip (W.f rfl rfl rfl) ?_
                          refine D.gskip (W.f rfl rfl rfl) ?_
                          refine D.gpu (W.t rfl rfl) (Pu.pickF (.tmp rfl) .bool) ?_
                          refine D.pu (Pu.pickF (.tmp rfl) (.tmp (v:=.bool _) rfl)) ?_
                          refine D.nil (by kernel_rfl) ?_
                          refine X.condF (.tmp rfl) ?_
                          refine X.skip ?_
                          refine X.still ?_
                          refine O.pu (Pu.bin (.tmp rfl) .int U.add64) ?_
                          refine O.pu (Pu.move (.tmp (v:=.int _ _) rfl)) ?_
                          refine O.nil ?_
                          exact ⟨_,(by omega),_,_,_,_,_,_,_,_,_,_,_,_,_,_,_,_,_,rfl,rfl,rfl,rfl,rfl,rfl,rfl,rfl,rfl,h⟩
                · rw [if_neg (bf c)] at h
                  refine D.gskip (W.f rfl rfl rfl) ?_
                  refine D.gskip (W.f rfl rfl rfl) ?_
                  refine D.gskip (W.f rfl rfl rfl) ?_
                  refine D.gpu (W.t rfl rfl) (Pu.pickF (.tmp rfl) .bool) ?_
                  refine D.pu (Pu.pickF (.tmp rfl) (.tmp (v:=.bool _) rfl)) ?_
                  refine D.pu (Pu.move (.tmp (v:=.bool _) rfl)) ?_
                  refine D.gpu (W.t rfl rfl) (U.load (.tmp rfl) rfl rfl (U.whole rfl rfl)) ?_
                  refine D.gpu (W.t rfl rfl) (U.load (.tmp rfl) rfl rfl (U.whole rfl rfl)) ?_
                  obtain ⟨q69,Hq69,h⟩:=Option.bind_eq_some_iff.1 h
                  refine D.gpu (W.t rfl rfl) (U.call (ss:=[]) (.cons (.tmp (v:=.agg _) rfl) .nil) (.cons (.cl (.aggL (.cons .fi (.cons .bool .nil)))) .nil) (whole_Int_Neg.cs Hq69) (.inl rfl) (.aggL (.cons .fi (.cons .bool .nil)))) ?_
                  obtain ⟨q70,Hq70,h⟩:=Option.bind_eq_some_iff.1 h
                  refine D.gpu (W.t rfl rfl) (U.call (ss:=[]) (.cons (.tmp (v:=.agg _) rfl) (.cons (.tmp (v:=.agg _) rfl) .nil)) (.cons (.cl (.aggL (.cons .fi (.cons .bool .nil)))) (.cons (.cl (.aggL (.cons .fi (.cons .bool .nil)))) .nil)) (whole_Int_Cmp.cs Hq70) (.inl rfl) (.int)) ?_
                  refine D.gpu (W.t rfl rfl) (Pu.bin (.tmp rfl) .int .neq) ?_
                  refine D.pu (Pu.pickF (.tmp rfl) (.tmp (v:=.bool _) rfl)) ?_
                  refine D.nil (by kernel_rfl) ?_
                  repeat (rw [chattellaw06_RoundNear.j2_e] at h;obtain ⟨k,_,h⟩:=h;unfold chattellaw06_RoundNear.j2 at h;try dsimp only at h)
                  refine X.condN (.tmp rfl) (fun c=>?_) (fun c=>?_)
                  · rw [if_pos (ne1 c)] at h
                    refine X.seq ?_
                    refine X.still ?_
                    refine O.pu (Pu.assign .bool) ?_
                    refine O.nil ?_
                    refine X.ret ?_
                    cases h
                    exact E.fin [] (.tmp (v:=.bool _) rfl .nil) (.cons (.cl .bool) .nil)
                  · rw [if_neg (ne0 c)] at h
                    refine X.skip ?_
                    refine X.seq ?_
                    refine X.drawn ?_
                    refine D.pu (Pu.move (.tmp (v:=.int _ _) rfl)) ?_
                    refine D.pu (Pu.bin (.tmp rfl) .int .eql) ?_
                    refine D.pu (Pu.move (.tmp (v:=.bool _) rfl)) ?_
                    refine D.splitE (fun c=>?_) (fun c=>?_)
                    · rw [if_pos c] at h
                      refine D.gpu (W.t rfl rfl) (U.load (.tmp rfl) rfl rfl (U.whole rfl rfl)) ?_
                      obtain ⟨q71,Hq71,h⟩:=Option.bind_eq_some_iff.1 h
                      refine D.gpu (W.t rfl rfl) (U.call (ss:=[]) (.cons (.tmp (v:=.agg _) rfl) .nil) (.cons (.cl (.aggL (.cons .fi (.cons .bool .nil)))) .nil) (whole_Int_Abs.cs Hq71) (.inl rfl) (.aggL (.cons .fi .nil))) ?_
                      obtain ⟨q72,Hq72,h⟩:=Option.bind_eq_some_iff.1 h
                      refine D.gpu (W.t rfl rfl) (U.call (ss:=[]) (.cons (.tmp (v:=.agg _) rfl) (.cons .bool .nil)) (.cons (.cl (.aggL (.cons .fi .nil))) (.cons (.cl .bool) .nil)) (whole_Of.cs Hq72) (.inl rfl) (.aggL (.cons .fi (.cons .bool .nil)))) ?_
                      obtain ⟨q73,Hq73,h⟩:=Option.bind_eq_some_iff.1 h
                      refine D.gpu (W.t rfl rfl) (U.call (ss:=[]) (.cons (.tmp (v:=.agg _) rfl) .nil) (.cons (.cl (.aggL (.cons .fi (.cons .bool .nil)))) .nil) (frac_From.cs Hq73) (.inl rfl) (.aggL (.cons .fi (.cons .bool (.cons .fi .nil))))) ?_
                      refine D.gpu (W.t rfl rfl) (U.load (.tmp rfl) rfl rfl (U.whole rfl rfl)) ?_
                      obtain ⟨q74,Hq74,h⟩:=Option.bind_eq_some_iff.1 h
                      refine D.gpu (W.t rfl rfl) (U.call (ss:=[]) (.cons (.tmp (v:=.agg _) rfl) .nil) (.cons (.cl (.aggL (.cons .fi (.cons .bool (.cons .fi .nil))))) .nil) (chattellaw06_size.cs Hq74) (.inl rfl) (.aggL (.cons .fi (.cons .bool (.cons .fi .nil))))) ?_
                      obtain ⟨q75,Hq75,h⟩:=Option.bind_eq_some_iff.1 h
                      refine D.gpu (W.t rfl rfl) (U.call (ss:=[]) (.cons (.tmp (v:=.agg _) rfl) (.cons (.tmp (v:=.agg _) rfl) .nil)) (.cons (.cl (.aggL (.cons .fi (.cons .bool (.cons .fi .nil))))) (.cons (.cl (.aggL (.cons .fi (.cons .bool (.cons .fi .nil))))) .nil)) (frac_Frac_Cmp.cs Hq75) (.inl rfl) (.int)) ?_
                      refine D.gpu (W.t rfl rfl) (Pu.bin (.tmp rfl) .int .gtr) ?_
                      refine D.pu (Pu.pickT (.tmp rfl) (.tmp (v:=.bool _) rfl)) ?_
                      refine D.pu (Pu.move (.tmp (v:=.bool _) rfl)) ?_
                      refine D.splitP (fun c=>?_) (fun c=>?_)
                      · rw [if_pos c] at h
                        refine D.gskip (W.f rfl rfl rfl) ?_
                        refine D.gskip (W.f rfl rfl rfl) ?_
                        refine D.gskipN (b:=true) (W.f rfl rfl rfl) ?_
                        refine D.gskip (W.n rfl rfl) ?_
                        refine D.gskip (W.n rfl rfl) ?_
                        refine D.gskip (W.n rfl rfl) ?_
                        refine D.gskip (W.n rfl rfl) ?_
                        refine D.gskip (W.n rfl rfl) ?_
                        refine D.gskip (W.n rfl rfl) ?_
                        refine D.gskip (W.n rfl rfl) ?_
                        refine D.gskip (W.n rfl rfl) ?_
                        refine D.gskip (W.f rfl rfl rfl) ?_
                        refine D.pu (Pu.pickT (.tmp rfl) .bool) ?_
                        refine D.nil (by kernel_rfl) ?_
                        refine X.condT (.tmp rfl) ?_
                        refine X.seq ?_
                        refine X.still ?_
                        refine O.pu (Pu.assign .bool) ?_
                        refine O.nil ?_
                        refine X.ret ?_
                        cases h
                        exact E.fin [] (.tmp (v:=.bool _) rfl .nil) (.cons (.cl .bool) .nil)
                      · rw [if_neg c] at h
                        refine D.gpu (W.t rfl rfl) (Pu.move (.tmp (v:=.int _ _) rfl)) ?_
                        refine D.gpu (W.t rfl rfl) (Pu.bin (.tmp rfl) .int .eql) ?_
                        refine D.gpu (W.t rfl rfl) (Pu.move (.tmp (v:=.bool _) rfl)) ?_
                        refine D.splitE (fun c=>?_) (fun c=>?_)
                        · rw [if_pos c] at h
                          refine D.gpu (W.t rfl rfl) (U.load (.tmp rfl) rfl rfl (U.whole rfl rfl)) ?_
                          obtain ⟨q76,Hq76,h⟩:=Option.bind_eq_some_iff.1 h
                          refine D.gpu (W.t rfl rfl) (U.call (ss:=[]) (.cons (.tmp (v:=.agg _) rfl) .nil) (.cons (.cl (.aggL (.cons .fi (.cons .bool .nil)))) .nil) (whole_Int_Abs.cs Hq76) (.inl rfl) (.aggL (.cons .fi .nil))) ?_
                          obtain ⟨q77,Hq77,h⟩:=Option.bind_eq_some_iff.1 h
                          refine D.gpu (W.t rfl rfl) (U.call (ss:=[]) (.cons (.tmp (v:=.agg _) rfl) (.cons .bool .nil)) (.cons (.cl (.aggL (.cons .fi .nil))) (.cons (.cl .bool) .nil)) (whole_Of.cs Hq77) (.inl rfl) (.aggL (.cons .fi (.cons .bool .nil)))) ?_
                          obtain ⟨q78,Hq78,h⟩:=Option.bind_eq_some_iff.1 h
                          refine D.gpu (W.t rfl rfl) (U.call (ss:=[]) (.cons (.tmp (v:=.agg _) rfl) .nil) (.cons (.cl (.aggL (.cons .fi (.cons .bool .nil)))) .nil) (frac_From.cs Hq78) (.inl rfl) (.aggL (.cons .fi (.cons .bool (.cons .fi .nil))))) ?_
                          refine D.gpu (W.t rfl rfl) (U.load (.tmp rfl) rfl rfl (U.whole rfl rfl)) ?_
                          obtain ⟨q79,Hq79,h⟩:=Option.bind_eq_some_iff.1 h
                          refine D.gpu (W.t rfl rfl) (U.call (ss:=[]) (.cons (.tmp (v:=.agg _) rfl) .nil) (.cons (.cl (.aggL (.cons .fi (.cons .bool (.cons .fi .nil))))) .nil) (chattellaw06_size.cs Hq79) (.inl rfl) (.aggL (.cons .fi (.cons .bool (.cons .fi .nil))))) ?_
                          obtain ⟨q80,Hq80,h⟩:=Option.bind_eq_some_iff.1 h
                          refine D.gpu (W.t rfl rfl) (U.call (ss:=[]) (.cons (.tmp (v:=.agg _) rfl) (.cons (.tmp (v:=.agg _) rfl) .nil)) (.cons (.cl (.aggL (.cons .fi (.cons .bool (.cons .fi .nil))))) (.cons (.cl (.aggL (.cons .fi (.cons .bool (.cons .fi .nil))))) .nil)) (frac_Frac_Cmp.cs Hq80) (.inl rfl) (.int)) ?_
                          refine D.gpu (W.t rfl rfl) (Pu.bin (.tmp rfl) .int .lss) ?_
                          refine D.gpu (W.t rfl rfl) (Pu.pickT (.tmp rfl) (.tmp (v:=.bool _) rfl)) ?_
                          refine D.pu (Pu.pickF (.tmp rfl) (.tmp (v:=.bool _) rfl)) ?_
                          refine D.nil (by kernel_rfl) ?_
                          refine X.condP (.tmp rfl) (fun c=>?_) (fun c=>?_)
                          · rw [if_pos c] at h
                            refine X.seq ?_
                            refine X.still ?_
                            refine O.pu (Pu.assign .bool) ?_
                            refine O.nil ?_
                            refine X.ret ?_
                            cases h
                            exact E.fin [] (.tmp (v:=.bool _) rfl .nil) (.cons (.cl .bool) .nil)
                          · rw [if_neg c] at h
                            refine X.skip ?_
                            refine X.still ?_
                            refine O.pu (Pu.bin (.tmp rfl) .int U.add64) ?_
                            refine O.pu (Pu.move (.tmp (v:=.int _ _) rfl)) ?_
                            refine O.nil ?_
                            exact ⟨_,(by omega),_,_,_,_,_,_,_,_,_,_,_,_,_,_,_,_,_,rfl,rfl,rfl,rfl,rfl,rfl,rfl,rfl,rfl,h⟩
                        · rw [if_neg c] at h
                          refine D.gskip (W.f rfl rfl rfl) ?_
                          refine D.gskip (W.f rfl rfl rfl) ?_
                          refine D.gskip (W.f rfl rfl rfl) ?_
                          refine D.gskip (W.f rfl rfl rfl) ?_
                          refine D.gskip (W.f rfl rfl rfl) ?_
                          refine D.gskip (W.f rfl rfl rfl) ?_
                          refine D.gskip (W.f rfl rfl rfl) ?_
                          refine D.gskip (W.f rfl rfl rfl) ?_
                          refine D.gpu (W.t rfl rfl) (Pu.pickF (.tmp rfl) .bool) ?_
                          refine D.pu (Pu.pickF (.tmp rfl) (.tmp (v:=.bool _) rfl)) ?_
                          refine D.nil (by kernel_rfl) ?_
                          refine X.condF (.tmp rfl) ?_
                          refine X.skip ?_
                          refine X.still ?_
                          refine O.pu (Pu.bin (.tmp rfl) .int U.add64) ?_
                          refine O.pu (Pu.move (.tmp (v:=.int _ _) rfl)) ?_
                          refine O.nil ?_
                          exact ⟨_,(by omega),_,_,_,_,_,_,_,_,_,_,_,_,_,_,_,_,_,rfl,rfl,rfl,rfl,rfl,rfl,rfl,rfl,rfl,h⟩
                    · rw [if_neg c] at h
                      refine D.gskip (W.f rfl rfl rfl) ?_
                      refine D.gskip (W.f rfl rfl rfl) ?_
                      refine D.gskip (W.f rfl rfl rfl) ?_
                      refine D.gskip (W.f rfl rfl rfl) ?_
                      refine D.gskip (W.f rfl rfl rfl) ?_
                      refine D.gskip (W.f rfl rfl rfl) ?_
                      refine D.gskip (W.f rfl rfl rfl) ?_
                      refine D.gskip (W.f rfl rfl rfl) ?_
                      refine D.pu (Pu.pickF (.tmp rfl) .bool) ?_
                      refine D.pu (Pu.move (.tmp (v:=.bool _) rfl)) ?_
                      refine D.gpu (W.t rfl rfl) (Pu.move (.tmp (v:=.int _ _) rfl)) ?_
                      refine D.gpu (W.t rfl rfl) (Pu.bin (.tmp rfl) .int .eql) ?_
                      refine D.gpu (W.t rfl rfl) (Pu.move (.tmp (v:=.bool _) rfl)) ?_
                      refine D.splitE (fun c=>?_) (fun c=>?_)
                      · rw [if_pos c] at h
                        refine D.gpu (W.t rfl rfl) (U.load (.tmp rfl) rfl rfl (U.whole rfl rfl)) ?_
                        obtain ⟨q81,Hq81,h⟩:=Option.bind_eq_some_iff.1 h
                        refine D.gpu (W.t rfl rfl) (U.call (ss:=[]) (.cons (.tmp (v:=.agg _) rfl) .nil) (.cons (.cl (.aggL (.cons .fi (.cons .bool .nil)))) .nil) (whole_Int_Abs.cs Hq81) (.inl rfl) (.aggL (.cons .fi .nil))) ?_
                        obtain ⟨q82,Hq82,h⟩:=Option.bind_eq_some_iff.1 h
                        refine D.gpu (W.t rfl rfl) (U.call (ss:=[]) (.cons (.tmp (v:=.agg _) rfl) (.cons .bool .nil)) (.cons (.cl (.aggL (.cons .fi .nil))) (.cons (.cl .bool) .nil)) (whole_Of.cs Hq82) (.inl rfl) (.aggL (.cons .fi (.cons .bool .nil)))) ?_
                        obtain ⟨q83,Hq83,h⟩:=Option.bind_eq_some_iff.1 h
                        refine D.gpu (W.t rfl rfl) (U.call (ss:=[]) (.cons (.tmp (v:=.agg _) rfl) .nil) (.cons (.cl (.aggL (.cons .fi (.cons .bool .nil)))) .nil) (frac_From.cs Hq83) (.inl rfl) (.aggL (.cons .fi (.cons .bool (.cons .fi .nil))))) ?_
                        refine D.gpu (W.t rfl rfl) (U.load (.tmp rfl) rfl rfl (U.whole rfl rfl)) ?_
                        obtain ⟨q84,Hq84,h⟩:=Option.bind_eq_some_iff.1 h
                        refine D.gpu (W.t rfl rfl) (U.call (ss:=[]) (.cons (.tmp (v:=.agg _) rfl) .nil) (.cons (.cl (.aggL (.cons .fi (.cons .bool (.cons .fi .nil))))) .nil) (chattellaw06_size.cs Hq84) (.inl rfl) (.aggL (.cons .fi (.cons .bool (.cons .fi .nil))))) ?_
                        obtain ⟨q85,Hq85,h⟩:=Option.bind_eq_some_iff.1 h
                        refine D.gpu (W.t rfl rfl) (U.call (ss:=[]) (.cons (.tmp (v:=.agg _) rfl) (.cons (.tmp (v:=.agg _) rfl) .nil)) (.cons (.cl (.aggL (.cons .fi (.cons .bool (.cons .fi .nil))))) (.cons (.cl (.aggL (.cons .fi (.cons .bool (.cons .fi .nil))))) .nil)) (frac_Frac_Cmp.cs Hq85) (.inl rfl) (.int)) ?_
                        refine D.gpu (W.t rfl rfl) (Pu.bin (.tmp rfl) .int .lss) ?_
                        refine D.gpu (W.t rfl rfl) (Pu.pickT (.tmp rfl) (.tmp (v:=.bool _) rfl)) ?_
                        refine D.pu (Pu.pickF (.tmp rfl) (.tmp (v:=.bool _) rfl)) ?_
                        refine D.nil (by kernel_rfl) ?_
                        refine X.condP (.tmp rfl) (fun c=>?_) (fun c=>?_)
                        · rw [if_pos c] at h
                          refine X.seq ?_
                          refine X.still ?_
                          refine O.pu (Pu.assign .bool) ?_
                          refine O.nil ?_
                          refine X.ret ?_
                          cases h
                          exact E.fin [] (.tmp (v:=.bool _) rfl .nil) (.cons (.cl .bool) .nil)
                        · rw [if_neg c] at h
                          refine X.skip ?_
                          refine X.still ?_
                          refine O.pu (Pu.bin (.tmp rfl) .int U.add64) ?_
                          refine O.pu (Pu.move (.tmp (v:=.int _ _) rfl)) ?_
                          refine O.nil ?_
                          exact ⟨_,(by omega),_,_,_,_,_,_,_,_,_,_,_,_,_,_,_,_,_,rfl,rfl,rfl,rfl,rfl,rfl,rfl,rfl,rfl,h⟩
                      · rw [if_neg c] at h
                        refine D.gskip (W.f rfl rfl rfl) ?_
                        refine D.gskip (W.f rfl rfl rfl) ?_
                        refine D.gskip (W.f rfl rfl rfl) ?_
                        refine D.gskip (W.f rfl rfl rfl) ?_
                        refine D.gskip (W.f rfl rfl rfl) ?_
                        refine D.gskip (W.f rfl rfl rfl) ?_
                        refine D.gskip (W.f rfl rfl rfl) ?_
                        refine D.gskip (W.f rfl rfl rfl) ?_
                        refine D.gpu (W.t rfl rfl) (Pu.pickF (.tmp rfl) .bool) ?_
                        refine D.pu (Pu.pickF (.tmp rfl) (.tmp (v:=.bool _) rfl)) ?_
                        refine D.nil (by kernel_rfl) ?_
                        refine X.condF (.tmp rfl) ?_
                        refine X.skip ?_
                        refine X.still ?_
                        refine O.pu (Pu.bin (.tmp rfl) .int U.add64) ?_
                        refine O.pu (Pu.move (.tmp (v:=.int _ _) rfl)) ?_
                        refine O.nil ?_
                        exact ⟨_,(by omega),_,_,_,_,_,_,_,_,_,_,_,_,_,_,_,_,_,rfl,rfl,rfl,rfl,rfl,rfl,rfl,rfl,rfl,h⟩
      · rw [if_neg c] at h
        refine X.skip ?_
        refine X.seq ?_
        refine X.seq ?_
        refine X.drawn ?_
        refine D.pu (Pu.move (.tmp (v:=.int _ _) rfl)) ?_
        refine D.pu (Pu.bin (.tmp rfl) .int .neq) ?_
        refine D.pu (Pu.move (.tmp (v:=.bool _) rfl)) ?_
        repeat (rw [chattellaw06_RoundNear.j1_e] at h;obtain ⟨k,_,h⟩:=h;unfold chattellaw06_RoundNear.j1 at h;try dsimp only at h)
        refine D.splitN (fun c=>?_) (fun c=>?_)
        · rw [if_neg c] at h
          refine D.gskip (W.f rfl rfl rfl) ?_
          refine D.gskip (W.f rfl rfl rfl) ?_
          refine D.pu (Pu.pickT (.tmp rfl) .bool) ?_
          refine D.pu (Pu.move (.tmp (v:=.bool _) rfl)) ?_
          refine D.gskip (W.f rfl rfl rfl) ?_
          refine D.gskip (W.f rfl rfl rfl) ?_
          refine D.gskip (W.f rfl rfl rfl) ?_
          refine D.gskip (W.f rfl rfl rfl) ?_
          refine D.pu (Pu.pickT (.tmp rfl) .bool) ?_
          refine D.pu (Pu.move (.tmp (v:=.bool _) rfl)) ?_
          refine D.gskip (W.f rfl rfl rfl) ?_
          refine D.gskip (W.f rfl rfl rfl) ?_
          refine D.gskipN (b:=true) (W.f rfl rfl rfl) ?_
          refine D.gskip (W.n rfl rfl) ?_
          refine D.gskip (W.n rfl rfl) ?_
          refine D.gskip (W.n rfl rfl) ?_
          refine D.gskip (W.n rfl rfl) ?_
          refine D.gskip (W.n rfl rfl) ?_
          refine D.gskip (W.n rfl rfl) ?_
          refine D.gskip (W.f rfl rfl rfl) ?_
          refine D.pu (Pu.pickT (.tmp rfl) .bool) ?_
          refine D.pu (Pu.move (.tmp (v:=.bool _) rfl)) ?_
          refine D.gskip (W.f rfl rfl rfl) ?_
          refine D.gskip (W.f rfl rfl rfl) ?_
          refine D.gskipN (b:=true) (W.f rfl rfl rfl) ?_
          refine D.gskip (W.n rfl rfl) ?_
          refine D.gskip (W.n rfl rfl) ?_
          refine D.gskip (W.n rfl rfl) ?_
          refine D.gskip (W.f rfl rfl rfl) ?_
          refine D.pu (Pu.pickT (.tmp rfl) .bool) ?_
          refine D.pu (Pu.move (.tmp (v:=.bool _) rfl)) ?_
          refine D.gskip (W.f rfl rfl rfl) ?_
          refine D.gskip (W.f rfl rfl rfl) ?_
          refine D.gskip (W.f rfl rfl rfl) ?_
          refine D.gskip (W.f rfl rfl rfl) ?_
          refine D.gskip (W.f rfl rfl rfl) ?_
          refine D.pu (Pu.pickT (.tmp rfl) .bool) ?_
          refine D.nil (by kernel_rfl) ?_
          repeat (rw [chattellaw06_RoundNear.j2_e] at h;obtain ⟨k,_,h⟩:=h;unfold chattellaw06_RoundNear.j2 at h;try dsimp only at h)
          rw [if_pos rfl] at h
          refine X.condT (.tmp rfl) ?_
          refine X.seq ?_
          refine X.still ?_
          refine O.pu (Pu.assign .bool) ?_
          refine O.nil ?_
          refine X.ret ?_
          cases h
          exact E.fin [] (.tmp (v:=.bool _) rfl .nil) (.cons (.cl .bool) .nil)
        · rw [if_pos c] at h
          refine D.gpu (W.t rfl rfl) (Pu.move (.tmp (v:=.int _ _) rfl)) ?_
          refine D.gpu (W.t rfl rfl) (Pu.bin (.tmp rfl) .int .neq) ?_
          refine D.pu (Pu.pickF (.tmp rfl) (.tmp (v:=.bool _) rfl)) ?_
          refine D.pu (Pu.move (.tmp (v:=.bool _) rfl)) ?_
          refine D.splitN (fun c=>?_) (fun c=>?_)
          · rw [if_neg c] at h
            refine D.gskip (W.f rfl rfl rfl) ?_
            refine D.gskip (W.f rfl rfl rfl) ?_
            refine D.gskip (W.f rfl rfl rfl) ?_
            refine D.gskip (W.f rfl rfl rfl) ?_
            refine D.pu (Pu.pickT (.tmp rfl) .bool) ?_
            refine D.pu (Pu.move (.tmp (v:=.bool _) rfl)) ?_
            refine D.gskip (W.f rfl rfl rfl) ?_
            refine D.gskip (W.f rfl rfl rfl) ?_
            refine D.gskipN (b:=true) (W.f rfl rfl rfl) ?_
            refine D.gskip (W.n rfl rfl) ?_
            refine D.gskip (W.n rfl rfl) ?_
            refine D.gskip (W.n rfl rfl) ?_
            refine D.gskip (W.n rfl rfl) ?_
            refine D.gskip (W.n rfl rfl) ?_
            refine D.gskip (W.n rfl rfl) ?_
            refine D.gskip (W.f rfl rfl rfl) ?_
            refine D.pu (Pu.pickT (.tmp rfl) .bool) ?_
            refine D.pu (Pu.move (.tmp (v:=.bool _) rfl)) ?_
            refine D.gskip (W.f rfl rfl rfl) ?_
            refine D.gskip (W.f rfl rfl rfl) ?_
            refine D.gskipN (b:=true) (W.f rfl rfl rfl) ?_
            refine D.gskip (W.n rfl rfl) ?_
            refine D.gskip (W.n rfl rfl) ?_
            refine D.gskip (W.n rfl rfl) ?_
            refine D.gskip (W.f rfl rfl rfl) ?_
            refine D.pu (Pu.pickT (.tmp rfl) .bool) ?_
            refine D.pu (Pu.move (.tmp (v:=.bool _) rfl)) ?_
            refine D.gskip (W.f rfl rfl rfl) ?_
            refine D.gskip (W.f rfl rfl rfl) ?_
            refine D.gskip (W.f rfl rfl rfl) ?_
            refine D.gskip (W.f rfl rfl rfl) ?_
            refine D.gskip (W.f rfl rfl rfl) ?_
            refine D.pu (Pu.pickT (.tmp rfl) .bool) ?_
            refine D.nil (by kernel_rfl) ?_
            repeat (rw [chattellaw06_RoundNear.j2_e] at h;obtain ⟨k,_,h⟩:=h;unfold chattellaw06_RoundNear.j2 at h;try dsimp only at h)
            rw [if_pos rfl] at h
            refine X.condT (.tmp rfl) ?_
            refine X.seq ?_
            refine X.still ?_
            refine O.pu (Pu.assign .bool) ?_
            refine O.nil ?_
            refine X.ret ?_
            cases h
            exact E.fin [] (.tmp (v:=.bool _) rfl .nil) (.cons (.cl .bool) .nil)
          · rw [if_pos c] at h
            refine D.gpu (W.t rfl rfl) (U.load (.tmp rfl) rfl rfl (U.whole rfl rfl)) ?_
            refine D.gpu (W.t rfl rfl) (U.load (.tmp rfl) rfl rfl (U.whole rfl rfl)) ?_
            obtain ⟨q86,Hq86,h⟩:=Option.bind_eq_some_iff.1 h
            refine D.gpu (W.t rfl rfl) (U.call (ss:=[]) (.cons (.tmp (v:=.agg _) rfl) (.cons (.tmp (v:=.agg _) rfl) .nil)) (.cons (.cl (.aggL (.cons .fi (.cons .bool (.cons .fi .nil))))) (.cons (.cl (.aggL (.cons .fi (.cons .bool (.cons .fi .nil))))) .nil)) (frac_Frac_Cmp.cs Hq86) (.inl rfl) (.int)) ?_
            refine D.gpu (W.t rfl rfl) (Pu.bin (.tmp rfl) .int .geq) ?_
            refine D.pu (Pu.pickF (.tmp rfl) (.tmp (v:=.bool _) rfl)) ?_
            refine D.pu (Pu.move (.tmp (v:=.bool _) rfl)) ?_
            refine D.splitP (fun c=>?_) (fun c=>?_)
            · rw [if_pos c] at h
              refine D.gskip (W.f rfl rfl rfl) ?_
              refine D.gskip (W.f rfl rfl rfl) ?_
              refine D.gskipN (b:=true) (W.f rfl rfl rfl) ?_
              refine D.gskip (W.n rfl rfl) ?_
              refine D.gskip (W.n rfl rfl) ?_
              refine D.gskip (W.n rfl rfl) ?_
              refine D.gskip (W.n rfl rfl) ?_
              refine D.gskip (W.n rfl rfl) ?_
              refine D.gskip (W.n rfl rfl) ?_
              refine D.gskip (W.f rfl rfl rfl) ?_
              refine D.pu (Pu.pickT (.tmp rfl) .bool) ?_
              refine D.pu (Pu.move (.tmp (v:=.bool _) rfl)) ?_
              refine D.gskip (W.f rfl rfl rfl) ?_
              refine D.gskip (W.f rfl rfl rfl) ?_
              refine D.gskipN (b:=true) (W.f rfl rfl rfl) ?_
              refine D.gskip (W.n rfl rfl) ?_
              refine D.gskip (W.n rfl rfl) ?_
              refine D.gskip (W.n rfl rfl) ?_
              refine D.gskip (W.f rfl rfl rfl) ?_
              refine D.pu (Pu.pickT (.tmp rfl) .bool) ?_
              refine D.pu (Pu.move (.tmp (v:=.bool _) rfl)) ?_
              refine D.gskip (W.f rfl rfl rfl) ?_
              refine D.gskip (W.f rfl rfl rfl) ?_
              refine D.gskip (W.f rfl rfl rfl) ?_
              refine D.gskip (W.f rfl rfl rfl) ?_
              refine D.gskip (W.f rfl rfl rfl) ?_
              refine D.pu (Pu.pickT (.tmp rfl) .bool) ?_
              refine D.nil (by kernel_rfl) ?_
              repeat (rw [chattellaw06_RoundNear.j2_e] at h;obtain ⟨k,_,h⟩:=h;unfold chattellaw06_RoundNear.j2 at h;try dsimp only at h)
              rw [if_pos rfl] at h
              refine X.condT (.tmp rfl) ?_
              refine X.seq ?_
              refine X.still ?_
              refine O.pu (Pu.assign .bool) ?_
              refine O.nil ?_
              refine X.ret ?_
              cases h
              exact E.fin [] (.tmp (v:=.bool _) rfl .nil) (.cons (.cl .bool) .nil)
            · rw [if_neg c] at h
              refine D.gpu (W.t rfl rfl) (Pu.move (.tmp (v:=.int _ _) rfl)) ?_
              refine D.gpu (W.t rfl rfl) (Pu.bin (.tmp rfl) .int .geq) ?_
              refine D.gpu (W.t rfl rfl) (Pu.move (.tmp (v:=.bool _) rfl)) ?_
              refine D.splitP (fun c=>?_) (fun c=>?_)
              · rw [if_pos c] at h
                refine D.gpu (W.t rfl rfl) (U.load (.tmp rfl) rfl rfl (U.whole rfl rfl)) ?_
                refine D.gpu (W.t rfl rfl) (U.load (.tmp rfl) rfl rfl (U.whole rfl rfl)) ?_
                obtain ⟨q87,Hq87,h⟩:=Option.bind_eq_some_iff.1 h
                refine D.gpu (W.t rfl rfl) (U.call (ss:=[]) (.cons (.tmp (v:=.agg _) rfl) (.cons (.tmp (v:=.agg _) rfl) .nil)) (.cons (.cl (.aggL (.cons .fi (.cons .bool (.cons .fi .nil))))) (.cons (.cl (.aggL (.cons .fi (.cons .bool (.cons .fi .nil))))) .nil)) (frac_Frac_Add.cs Hq87) (.inl rfl) (.aggL (.cons .fi (.cons .bool (.cons .fi .nil))))) ?_
                refine D.gpu (W.t rfl rfl) (U.load (.tmp rfl) rfl rfl (U.whole rfl rfl)) ?_
                obtain ⟨q88,Hq88,h⟩:=Option.bind_eq_some_iff.1 h
                refine D.gpu (W.t rfl rfl) (U.call (ss:=[]) (.cons (.tmp (v:=.agg _) rfl) (.cons (.tmp (v:=.agg _) rfl) .nil)) (.cons (.cl (.aggL (.cons .fi (.cons .bool (.cons .fi .nil))))) (.cons (.cl (.aggL (.cons .fi (.cons .bool (.cons .fi .nil))))) .nil)) (frac_Frac_Cmp.cs Hq88) (.inl rfl) (.int)) ?_
                refine D.gpu (W.t rfl rfl) (Pu.bin (.tmp rfl) .int .gtr) ?_
                refine D.gpu (W.t rfl rfl) (Pu.pickT (.tmp rfl) (.tmp (v:=.bool _) rfl)) ?_
                refine D.pu (Pu.pickF (.tmp rfl) (.tmp (v:=.bool _) rfl)) ?_
                refine D.pu (Pu.move (.tmp (v:=.bool _) rfl)) ?_
                refine D.splitP (fun c=>?_) (fun c=>?_)
                · rw [if_pos c] at h
                  refine D.gskip (W.f rfl rfl rfl) ?_
                  refine D.gskip (W.f rfl rfl rfl) ?_
                  refine D.gskipN (b:=true) (W.f rfl rfl rfl) ?_
                  refine D.gskip (W.n rfl rfl) ?_
                  refine D.gskip (W.n rfl rfl) ?_
                  refine D.gskip (W.n rfl rfl) ?_
                  refine D.gskip (W.f rfl rfl rfl) ?_
                  refine D.pu (Pu.pickT (.tmp rfl) .bool) ?_
                  refine D.pu (Pu.move (.tmp (v:=.bool _) rfl)) ?_
                  refine D.gskip (W.f rfl rfl rfl) ?_
                  refine D.gskip (W.f rfl rfl rfl) ?_
                  refine D.gskip (W.f rfl rfl rfl) ?_
                  refine D.gskip (W.f rfl rfl rfl) ?_
                  refine D.gskip (W.f rfl rfl rfl) ?_
                  refine D.pu (Pu.pickT (.tmp rfl) .bool) ?_
                  refine D.nil (by kernel_rfl) ?_
                  repeat (rw [chattellaw06_RoundNear.j2_e] at h;obtain ⟨k,_,h⟩:=h;unfold chattellaw06_RoundNear.j2 at h;try dsimp only at h)
                  rw [if_pos rfl] at h
                  refine X.condT (.tmp rfl) ?_
                  refine X.seq ?_
                  refine X.still ?_
                  refine O.pu (Pu.assign .bool) ?_
                  refine O.nil ?_
                  refine X.ret ?_
                  cases h
                  exact E.fin [] (.tmp (v:=.bool _) rfl .nil) (.cons (.cl .bool) .nil)
                · rw [if_neg c] at h
                  refine D.gpu (W.t rfl rfl) (U.load (.tmp rfl) rfl rfl (U.whole rfl rfl)) ?_
                  obtain ⟨q89,Hq89,h⟩:=Option.bind_eq_some_iff.1 h
                  refine D.gpu (W.t rfl rfl) (U.call (ss:=[]) (.cons (.tmp (v:=.agg _) rfl) .nil) (.cons (.cl (.aggL (.cons .fi (.cons .bool (.cons .fi .nil))))) .nil) (chattellaw06_exact.cs Hq89) (.inl rfl) (.bool)) ?_
                  refine D.gpu (W.t rfl rfl) (Pu.move (.tmp (v:=.bool _) rfl)) ?_
                  refine D.split (fun c=>?_) (fun c=>?_)
                  · rw [if_pos c] at h
                    refine D.gpu (W.t rfl rfl) (U.load (.tmp rfl) rfl rfl (U.whole rfl rfl)) ?_
                    obtain ⟨q90,Hq90,h⟩:=Option.bind_eq_some_iff.1 h
                    refine D.gpu (W.t rfl rfl) (U.call (ss:=[]) (.cons (.tmp (v:=.agg _) rfl) .nil) (.cons (.cl (.aggL (.cons .fi (.cons .bool (.cons .fi .nil))))) .nil) (frac_Frac_Sign.cs Hq90) (.inl rfl) (.int)) ?_
                    refine D.gpu (W.t rfl rfl) (Pu.bin (.tmp rfl) .int .neq) ?_
                    refine D.gpu (W.t rfl rfl) (Pu.pickT (.tmp rfl) (.tmp (v:=.bool _) rfl)) ?_
                    refine D.pu (Pu.pickF (.tmp rfl) (.tmp (v:=.bool _) rfl)) ?_
                    refine D.pu (Pu.move (.tmp (v:=.bool _) rfl)) ?_
                    refine D.splitN (fun c=>?_) (fun c=>?_)
                    · rw [if_neg c] at h
                      refine D.gskip (W.f rfl rfl rfl) ?_
                      refine D.gskip (W.f rfl rfl rfl) ?_
                      refine D.gskip (W.f rfl rfl rfl) ?_
                      refine D.gskip (W.f rfl rfl rfl) ?_
                      refine D.gskip (W.f rfl rfl rfl) ?_
                      refine D.pu (Pu.pickT (.tmp rfl) .bool) ?_
                      refine D.nil (by kernel_rfl) ?_
                      repeat (rw [chattellaw06_RoundNear.j2_e] at h;obtain ⟨k,_,h⟩:=h;unfold chattellaw06_RoundNear.j2 at h;try dsimp only at h)
                      rw [if_pos rfl] at h
                      refine X.condT (.tmp rfl) ?_
                      refine X.seq ?_
                      refine X.still ?_
                      refine O.pu (Pu.assign .bool) ?_
                      refine O.nil ?_
                      refine X.ret ?_
                      cases h
                      exact E.fin [] (.tmp (v:=.bool _) rfl .nil) (.cons (.cl .bool) .nil)
                    · rw [if_pos c] at h
                      refine D.gpu (W.t rfl rfl) (U.load (.tmp rfl) rfl rfl (U.whole rfl rfl)) ?_
                      refine D.gpu (W.t rfl rfl) (U.load (.tmp rfl) rfl rfl (U.whole rfl rfl)) ?_
                      obtain ⟨q91,Hq91,h⟩:=Option.bind_eq_some_iff.1 h
                      refine D.gpu (W.t rfl rfl) (U.call (ss:=[]) (.cons (.tmp (v:=.agg _) rfl) .nil) (.cons (.cl (.aggL (.cons .fi (.cons .bool .nil)))) .nil) (whole_Int_Neg.cs Hq91) (.inl rfl) (.aggL (.cons .fi (.cons .bool .nil)))) ?_
                      obtain ⟨q92,Hq92,h⟩:=Option.bind_eq_some_iff.1 h
                      refine D.gpu (W.t rfl rfl) (U.call (ss:=[]) (.cons (.tmp (v:=.agg _) rfl) (.cons (.tmp (v:=.agg _) rfl) .nil)) (.cons (.cl (.aggL (.cons .fi (.cons .bool .nil)))) (.cons (.cl (.aggL (.cons .fi (.cons .bool .nil)))) .nil)) (whole_Int_Cmp.cs Hq92) (.inl rfl) (.int)) ?_
                      refine D.gpu (W.t rfl rfl) (Pu.bin (.tmp rfl) .int .neq) ?_
                      refine D.pu (Pu.pickF (.tmp rfl) (.tmp (v:=.bool _) rfl)) ?_
                      refine D.nil (by kernel_rfl) ?_
                      repeat (rw [chattellaw06_RoundNear.j2_e] at h;obtain ⟨k,_,h⟩:=h;unfold chattellaw06_RoundNear.j2 at h;try dsimp only at h)
                      refine X.condN (.tmp rfl) (fun c=>?_) (fun c=>?_)
                      · rw [if_pos (ne1 c)] at h
                        refine X.seq ?_
                        refine X.still ?_
                        refine O.pu (Pu.assign .bool) ?_
                        refine O.nil ?_
                        refine X.ret ?_
                        cases h
                        exact E.fin [] (.tmp (v:=.bool _) rfl .nil) (.cons (.cl .bool) .nil)
                      · rw [if_neg (ne0 c)] at h
                        refine X.skip ?_
                        refine X.seq ?_
                        refine X.drawn ?_
                        refine D.pu (Pu.move (.tmp (v:=.int _ _) rfl)) ?_
                        refine D.pu (Pu.bin (.tmp rfl) .int .eql) ?_
                        refine D.pu (Pu.move (.tmp (v:=.bool _) rfl)) ?_
                        refine D.splitE (fun c=>?_) (fun c=>?_)
                        · rw [if_pos c] at h
                          refine D.gpu (W.t rfl rfl) (U.load (.tmp rfl) rfl rfl (U.whole rfl rfl)) ?_
                          obtain ⟨q93,Hq93,h⟩:=Option.bind_eq_some_iff.1 h
                          refine D.gpu (W.t rfl rfl) (U.call (ss:=[]) (.cons (.tmp (v:=.agg _) rfl) .nil) (.cons (.cl (.aggL (.cons .fi (.cons .bool .nil)))) .nil) (whole_Int_Abs.cs Hq93) (.inl rfl) (.aggL (.cons .fi .nil))) ?_
                          obtain ⟨q94,Hq94,h⟩:=Option.bind_eq_some_iff.1 h
                          refine D.gpu (W.t rfl rfl) (U.call (ss:=[]) (.cons (.tmp (v:=.agg _) rfl) (.cons .bool .nil)) (.cons (.cl (.aggL (.cons .fi .nil))) (.cons (.cl .bool) .nil)) (whole_Of.cs Hq94) (.inl rfl) (.aggL (.cons .fi (.cons .bool .nil)))) ?_
                          obtain ⟨q95,Hq95,h⟩:=Option.bind_eq_some_iff.1 h
                          refine D.gpu (W.t rfl rfl) (U.call (ss:=[]) (.cons (.tmp (v:=.agg _) rfl) .nil) (.cons (.cl (.aggL (.cons .fi (.cons .bool .nil)))) .nil) (frac_From.cs Hq95) (.inl rfl) (.aggL (.cons .fi (.cons .bool (.cons .fi .nil))))) ?_
                          refine D.gpu (W.t rfl rfl) (U.load (.tmp rfl) rfl rfl (U.whole rfl rfl)) ?_
                          obtain ⟨q96,Hq96,h⟩:=Option.bind_eq_some_iff.1 h
                          refine D.gpu (W.t rfl rfl) (U.call (ss:=[]) (.cons (.tmp (v:=.agg _) rfl) .nil) (.cons (.cl (.aggL (.cons .fi (.cons .bool (.cons .fi .nil))))) .nil) (chattellaw06_size.cs Hq96) (.inl rfl) (.aggL (.cons .fi (.cons .bool (.cons .fi .nil))))) ?_
                          obtain ⟨q97,Hq97,h⟩:=Option.bind_eq_some_iff.1 h
                          refine D.gpu (W.t rfl rfl) (U.call (ss:=[]) (.cons (.tmp (v:=.agg _) rfl) (.cons (.tmp (v:=.agg _) rfl) .nil)) (.cons (.cl (.aggL (.cons .fi (.cons .bool (.cons .fi .nil))))) (.cons (.cl (.aggL (.cons .fi (.cons .bool (.cons .fi .nil))))) .nil)) (frac_Frac_Cmp.cs Hq97) (.inl rfl) (.int)) ?_
                          refine D.gpu (W.t rfl rfl) (Pu.bin (.tmp rfl) .int .gtr) ?_
                          refine D.pu (Pu.pickT (.tmp rfl) (.tmp (v:=.bool _) rfl)) ?_
                          refine D.pu (Pu.move (.tmp (v:=.bool _) rfl)) ?_
                          refine D.splitP (fun c=>?_) (fun c=>?_)
                          · rw [if_pos c] at h
                            refine D.gskip (W.f rfl rfl rfl) ?_
                            refine D.gskip (W.f rfl rfl rfl) ?_
                            refine D.gskipN (b:=true) (W.f rfl rfl rfl) ?_
                            refine D.gskip (W.n rfl rfl) ?_
                            refine D.gskip (W.n rfl rfl) ?_
                            refine D.gskip (W.n rfl rfl) ?_
                            refine D.gskip (W.n rfl rfl) ?_
                            refine D.gskip (W.n rfl rfl) ?_
                            refine D.gskip (W.n rfl rfl) ?_
                            refine D.gskip (W.n rfl rfl) ?_
                            refine D.gskip (W.n rfl rfl) ?_
                            refine D.gskip (W.f rfl rfl rfl) ?_
                            refine D.pu (Pu.pickT (.tmp rfl) .bool) ?_
                            refine D.nil (by kernel_rfl) ?_
                            refine X.condT (.tmp rfl) ?_
                            refine X.seq ?_
                            refine X.still ?_
                            refine O.pu (Pu.assign .bool) ?_
                            refine O.nil ?_
                            refine X.ret ?_
                            cases h
                            exact E.fin [] (.tmp (v:=.bool _) rfl .nil) (.cons (.cl .bool) .nil)
                          · rw [if_neg c] at h
                            refine D.gpu (W.t rfl rfl) (Pu.move (.tmp (v:=.int _ _) rfl)) ?_
                            refine D.gpu (W.t rfl rfl) (Pu.bin (.tmp rfl) .int .eql) ?_
                            refine D.gpu (W.t rfl rfl) (Pu.move (.tmp (v:=.bool _) rfl)) ?_
                            refine D.splitE (fun c=>?_) (fun c=>?_)
                            · rw [if_pos c] at h
                              refine D.gpu (W.t rfl rfl) (U.load (.tmp rfl) rfl rfl (U.whole rfl rfl)) ?_
                              obtain ⟨q98,Hq98,h⟩:=Option.bind_eq_some_iff.1 h
                              refine D.gpu (W.t rfl rfl) (U.call (ss:=[]) (.cons (.tmp (v:=.agg _) rfl) .nil) (.cons (.cl (.aggL (.cons .fi (.cons .bool .nil)))) .nil) (whole_Int_Abs.cs Hq98) (.inl rfl) (.aggL (.cons .fi .nil))) ?_
                              obtain ⟨q99,Hq99,h⟩:=Option.bind_eq_some_iff.1 h
                              refine D.gpu (W.t rfl rfl) (U.call (ss:=[]) (.cons (.tmp (v:=.agg _) rfl) (.cons .bool .nil)) (.cons (.cl (.aggL (.cons .fi .nil))) (.cons (.cl .bool) .nil)) (whole_Of.cs Hq99) (.inl rfl) (.aggL (.cons .fi (.cons .bool .nil)))) ?_
                              obtain ⟨q100,Hq100,h⟩:=Option.bind_eq_some_iff.1 h
                              refine D.gpu (W.t rfl rfl) (U.call (ss:=[]) (.cons (.tmp (v:=.agg _) rfl) .nil) (.cons (.cl (.aggL (.cons .fi (.cons .bool .nil)))) .nil) (frac_From.cs Hq100) (.inl rfl) (.aggL (.cons .fi (.cons .bool (.cons .fi .nil))))) ?_
                              refine D.gpu (W.t rfl rfl) (U.load (.tmp rfl) rfl rfl (U.whole rfl rfl)) ?_
                              obtain ⟨q101,Hq101,h⟩:=Option.bind_eq_some_iff.1 h
                              refine D.gpu (W.t rfl rfl) (U.call (ss:=[]) (.cons (.tmp (v:=.agg _) rfl) .nil) (.cons (.cl (.aggL (.cons .fi (.cons .bool (.cons .fi .nil))))) .nil) (chattellaw06_size.cs Hq101) (.inl rfl) (.aggL (.cons .fi (.cons .bool (.cons .fi .nil))))) ?_
                              obtain ⟨q102,Hq102,h⟩:=Option.bind_eq_some_iff.1 h
                              refine D.gpu (W.t rfl rfl) (U.call (ss:=[]) (.cons (.tmp (v:=.agg _) rfl) (.cons (.tmp (v:=.agg _) rfl) .nil)) (.cons (.cl (.aggL (.cons .fi (.cons .bool (.cons .fi .nil))))) (.cons (.cl (.aggL (.cons .fi (.cons .bool (.cons .fi .nil))))) .nil)) (frac_Frac_Cmp.cs Hq102) (.inl rfl) (.int)) ?_
                              refine D.gpu (W.t rfl rfl) (Pu.bin (.tmp rfl) .int .lss) ?_
                              refine D.gpu (W.t rfl rfl) (Pu.pickT (.tmp rfl) (.tmp (v:=.bool _) rfl)) ?_
                              refine D.pu (Pu.pickF (.tmp rfl) (.tmp (v:=.bool _) rfl)) ?_
                              refine D.nil (by kernel_rfl) ?_
                              refine X.condP (.tmp rfl) (fun c=>?_) (fun c=>?_)
                              · rw [if_pos c] at h
                                refine X.seq ?_
                                refine X.still ?_
                                refine O.pu (Pu.assign .bool) ?_
                                refine O.nil ?_
                                refine X.ret ?_
                                cases h
                                exact E.fin [] (.tmp (v:=.bool _) rfl .nil) (.cons (.cl .bool) .nil)
                              · rw [if_neg c] at h
                                refine X.skip ?_
                                refine X.still ?_
                                refine O.pu (Pu.bin (.tmp rfl) .int U.add64) ?_
                                refine O.pu (Pu.move (.tmp (v:=.int _ _) rfl)) ?_
                                refine O.nil ?_
                                exact ⟨_,(by omega),_,_,_,_,_,_,_,_,_,_,_,_,_,_,_,_,_,rfl,rfl,rfl,rfl,rfl,rfl,rfl,rfl,rfl,h⟩
                            · rw [if_neg c] at h
                              refine D.gskip (W.f rfl rfl rfl) ?_
                              refine D.gskip (W.f rfl rfl rfl) ?_
                              refine D.gskip (W.f rfl rfl rfl) ?_
                              refine D.gskip (W.f rfl rfl rfl) ?_
                              refine D.gskip (W.f rfl rfl rfl) ?_
                              refine D.gskip (W.f rfl rfl rfl) ?_
                              refine D.gskip (W.f rfl rfl rfl) ?_
                              refine D.gskip (W.f rfl rfl rfl) ?_
                              refine D.gpu (W.t rfl rfl) (Pu.pickF (.tmp rfl) .bool) ?_
                              refine D.pu (Pu.pickF (.tmp rfl) (.tmp (v:=.bool _) rfl)) ?_
                              refine D.nil (by kernel_rfl) ?_
                              refine X.condF (.tmp rfl) ?_
                              refine X.skip ?_
                              refine X.still ?_
                              refine O.pu (Pu.bin (.tmp rfl) .int U.add64) ?_
                              refine O.pu (Pu.move (.tmp (v:=.int _ _) rfl)) ?_
                              refine O.nil ?_
                              exact ⟨_,(by omega),_,_,_,_,_,_,_,_,_,_,_,_,_,_,_,_,_,rfl,rfl,rfl,rfl,rfl,rfl,rfl,rfl,rfl,h⟩
                        · rw [if_neg c] at h
                          refine D.gskip (W.f rfl rfl rfl) ?_
                          refine D.gskip (W.f rfl rfl rfl) ?_
                          refine D.gskip (W.f rfl rfl rfl) ?_
                          refine D.gskip (W.f rfl rfl rfl) ?_
                          refine D.gskip (W.f rfl rfl rfl) ?_
                          refine D.gskip (W.f rfl rfl rfl) ?_
                          refine D.gskip (W.f rfl rfl rfl) ?_
                          refine D.gskip (W.f rfl rfl rfl) ?_
                          refine D.pu (Pu.pickF (.tmp rfl) .bool) ?_
                          refine D.pu (Pu.move (.tmp (v:=.bool _) rfl)) ?_
                          refine D.gpu (W.t rfl rfl) (Pu.move (.tmp (v:=.int _ _) rfl)) ?_
                          refine D.gpu (W.t rfl rfl) (Pu.bin (.tmp rfl) .int .eql) ?_
                          refine D.gpu (W.t rfl rfl) (Pu.move (.tmp (v:=.bool _) rfl)) ?_
                          refine D.splitE (fun c=>?_) (fun c=>?_)
                          · rw [if_pos c] at h
                            refine D.gpu (W.t rfl rfl) (U.load (.tmp rfl) rfl rfl (U.whole rfl rfl)) ?_
                            obtain ⟨q103,Hq103,h⟩:=Option.bind_eq_some_iff.1 h
                            refine D.gpu (W.t rfl rfl) (U.call (ss:=[]) (.cons (.tmp (v:=.agg _) rfl) .nil) (.cons (.cl (.aggL (.cons .fi (.cons .bool .nil)))) .nil) (whole_Int_Abs.cs Hq103) (.inl rfl) (.aggL (.cons .fi .nil))) ?_
                            obtain ⟨q104,Hq104,h⟩:=Option.bind_eq_some_iff.1 h
                            refine D.gpu (W.t rfl rfl) (U.call (ss:=[]) (.cons (.tmp (v:=.agg _) rfl) (.cons .bool .nil)) (.cons (.cl (.aggL (.cons .fi .nil))) (.cons (.cl .bool) .nil)) (whole_Of.cs Hq104) (.inl rfl) (.aggL (.cons .fi (.cons .bool .nil)))) ?_
                            obtain ⟨q105,Hq105,h⟩:=Option.bind_eq_some_iff.1 h
                            refine D.gpu (W.t rfl rfl) (U.call (ss:=[]) (.cons (.tmp (v:=.agg _) rfl) .nil) (.cons (.cl (.aggL (.cons .fi (.cons .bool .nil)))) .nil) (frac_From.cs Hq105) (.inl rfl) (.aggL (.cons .fi (.cons .bool (.cons .fi .nil))))) ?_
                            refine D.gpu (W.t rfl rfl) (U.load (.tmp rfl) rfl rfl (U.whole rfl rfl)) ?_
                            obtain ⟨q106,Hq106,h⟩:=Option.bind_eq_some_iff.1 h
                            refine D.gpu (W.t rfl rfl) (U.call (ss:=[]) (.cons (.tmp (v:=.agg _) rfl) .nil) (.cons (.cl (.aggL (.cons .fi (.cons .bool (.cons .fi .nil))))) .nil) (chattellaw06_size.cs Hq106) (.inl rfl) (.aggL (.cons .fi (.cons .bool (.cons .fi .nil))))) ?_
                            obtain ⟨q107,Hq107,h⟩:=Option.bind_eq_some_iff.1 h
                            refine D.gpu (W.t rfl rfl) (U.call (ss:=[]) (.cons (.tmp (v:=.agg _) rfl) (.cons (.tmp (v:=.agg _) rfl) .nil)) (.cons (.cl (.aggL (.cons .fi (.cons .bool (.cons .fi .nil))))) (.cons (.cl (.aggL (.cons .fi (.cons .bool (.cons .fi .nil))))) .nil)) (frac_Frac_Cmp.cs Hq107) (.inl rfl) (.int)) ?_
                            refine D.gpu (W.t rfl rfl) (Pu.bin (.tmp rfl) .int .lss) ?_
                            refine D.gpu (W.t rfl rfl) (Pu.pickT (.tmp rfl) (.tmp (v:=.bool _) rfl)) ?_
                            refine D.pu (Pu.pickF (.tmp rfl) (.tmp (v:=.bool _) rfl)) ?_
                            refine D.nil (by kernel_rfl) ?_
                            refine X.condP (.tmp rfl) (fun c=>?_) (fun c=>?_)
                            · rw [if_pos c] at h
                              refine X.seq ?_
                              refine X.still ?_
                              refine O.pu (Pu.assign .bool) ?_
                              refine O.nil ?_
                              refine X.ret ?_
                              cases h
                              exact E.fin [] (.tmp (v:=.bool _) rfl .nil) (.cons (.cl .bool) .nil)
                            · rw [if_neg c] at h
                              refine X.skip ?_
                              refine X.still ?_
                              refine O.pu (Pu.bin (.tmp rfl) .int U.add64) ?_
                              refine O.pu (Pu.move (.tmp (v:=.int _ _) rfl)) ?_
                              refine O.nil ?_
                              exact ⟨_,(by omega),_,_,_,_,_,_,_,_,_,_,_,_,_,_,_,_,_,rfl,rfl,rfl,rfl,rfl,rfl,rfl,rfl,rfl,h⟩
                          · rw [if_neg c] at h
                            refine D.gskip (W.f rfl rfl rfl) ?_
                            refine D.gskip (W.f rfl rfl rfl) ?_
                            refine D.gskip (W.f rfl rfl rfl) ?_
                            refine D.gskip (W.f rfl rfl rfl) ?_
                            refine D.gskip (W.f rfl rfl rfl) ?_
                            refine D.gskip (W.f rfl rfl rfl) ?_
                            refine D.gskip (W.f rfl rfl rfl) ?_
                            refine D.gskip (W.f rfl rfl rfl) ?_
                            refine D.gpu (W.t rfl rfl) (Pu.pickF (.tmp rfl) .bool) ?_
                            refine D.pu (Pu.pickF (.tmp rfl) (.tmp (v:=.bool _) rfl)) ?_
                            refine D.nil (by kernel_rfl) ?_
                            refine X.condF (.tmp rfl) ?_
                            refine X.skip ?_
                            refine X.still ?_
                            refine O.pu (Pu.bin (.tmp rfl) .int U.add64) ?_
                            refine O.pu (Pu.move (.tmp (v:=.int _ _) rfl)) ?_
                            refine O.nil ?_
                            exact ⟨_,(by omega),_,_,_,_,_,_,_,_,_,_,_,_,_,_,_,_,_,rfl,rfl,rfl,rfl,rfl,rfl,rfl,rfl,rfl,h⟩
                  · rw [if_neg (bf c)] at h
                    refine D.gskip (W.f rfl rfl rfl) ?_
                    refine D.gskip (W.f rfl rfl rfl) ?_
                    refine D.gskip (W.f rfl rfl rfl) ?_
                    refine D.gpu (W.t rfl rfl) (Pu.pickF (.tmp rfl) .bool) ?_
                    refine D.pu (Pu.pickF (.tmp rfl) (.tmp (v:=.bool _) rfl)) ?_
                    refine D.pu (Pu.move (.tmp (v:=.bool _) rfl)) ?_
                    refine D.gpu (W.t rfl rfl) (U.load (.tmp rfl) rfl rfl (U.whole rfl rfl)) ?_
                    refine D.gpu (W.t rfl rfl) (U.load (.tmp rfl) rfl rfl (U.whole rfl rfl)) ?_
                    obtain ⟨q108,Hq108,h⟩:=Option.bind_eq_some_iff.1 h
                    refine D.gpu (W.t rfl rfl) (U.call (ss:=[]) (.cons (.tmp (v:=.agg _) rfl) .nil) (.cons (.cl (.aggL (.cons .fi (.cons .bool .nil)))) .nil) (whole_Int_Neg.cs Hq108) (.inl rfl) (.aggL (.cons .fi (.cons .bool .nil)))) ?_
                    obtain ⟨q109,Hq109,h⟩:=Option.bind_eq_some_iff.1 h
                    refine D.gpu (W.t rfl rfl) (U.call (ss:=[]) (.cons (.tmp (v:=.agg _) rfl) (.cons (.tmp (v:=.agg _) rfl) .nil)) (.cons (.cl (.aggL (.cons .fi (.cons .bool .nil)))) (.cons (.cl (.aggL (.cons .fi (.cons .bool .nil)))) .nil)) (whole_Int_Cmp.cs Hq109) (.inl rfl) (.int)) ?_
                    refine D.gpu (W.t rfl rfl) (Pu.bin (.tmp rfl) .int .neq) ?_
                    refine D.pu (Pu.pickF (.tmp rfl) (.tmp (v:=.bool _) rfl)) ?_
                    refine D.nil (by kernel_rfl) ?_
                    repeat (rw [chattellaw06_RoundNear.j2_e] at h;obtain ⟨k,_,h⟩:=h;unfold chattellaw06_RoundNear.j2 at h;try dsimp only at h)
                    refine X.condN (.tmp rfl) (fun c=>?_) (fun c=>?_)
                    · rw [if_pos (ne1 c)] at h
                      refine X.seq ?_
                      refine X.still ?_
                      refine O.pu (Pu.assign .bool) ?_
                      refine O.nil ?_
                      refine X.ret ?_
                      cases h
                      exact E.fin [] (.tmp (v:=.bool _) rfl .nil) (.cons (.cl .bool) .nil)
                    · rw [if_neg (ne0 c)] at h
                      refine X.skip ?_
                      refine X.seq ?_
                      refine X.drawn ?_
                      refine D.pu (Pu.move (.tmp (v:=.int _ _) rfl)) ?_
                      refine D.pu (Pu.bin (.tmp rfl) .int .eql) ?_
                      refine D.pu (Pu.move (.tmp (v:=.bool _) rfl)) ?_
                      refine D.splitE (fun c=>?_) (fun c=>?_)
                      · rw [if_pos c] at h
                        refine D.gpu (W.t rfl rfl) (U.load (.tmp rfl) rfl rfl (U.whole rfl rfl)) ?_
                        obtain ⟨q110,Hq110,h⟩:=Option.bind_eq_some_iff.1 h
                        refine D.gpu (W.t rfl rfl) (U.call (ss:=[]) (.cons (.tmp (v:=.agg _) rfl) .nil) (.cons (.cl (.aggL (.cons .fi (.cons .bool .nil)))) .nil) (whole_Int_Abs.cs Hq110) (.inl rfl) (.aggL (.cons .fi .nil))) ?_
                        obtain ⟨q111,Hq111,h⟩:=Option.bind_eq_some_iff.1 h
                        refine D.gpu (W.t rfl rfl) (U.call (ss:=[]) (.cons (.tmp (v:=.agg _) rfl) (.cons .bool .nil)) (.cons (.cl (.aggL (.cons .fi .nil))) (.cons (.cl .bool) .nil)) (whole_Of.cs Hq111) (.inl rfl) (.aggL (.cons .fi (.cons .bool .nil)))) ?_
                        obtain ⟨q112,Hq112,h⟩:=Option.bind_eq_some_iff.1 h
                        refine D.gpu (W.t rfl rfl) (U.call (ss:=[]) (.cons (.tmp (v:=.agg _) rfl) .nil) (.cons (.cl (.aggL (.cons .fi (.cons .bool .nil)))) .nil) (frac_From.cs Hq112) (.inl rfl) (.aggL (.cons .fi (.cons .bool (.cons .fi .nil))))) ?_
                        refine D.gpu (W.t rfl rfl) (U.load (.tmp rfl) rfl rfl (U.whole rfl rfl)) ?_
                        obtain ⟨q113,Hq113,h⟩:=Option.bind_eq_some_iff.1 h
                        refine D.gpu (W.t rfl rfl) (U.call (ss:=[]) (.cons (.tmp (v:=.agg _) rfl) .nil) (.cons (.cl (.aggL (.cons .fi (.cons .bool (.cons .fi .nil))))) .nil) (chattellaw06_size.cs Hq113) (.inl rfl) (.aggL (.cons .fi (.cons .bool (.cons .fi .nil))))) ?_
                        obtain ⟨q114,Hq114,h⟩:=Option.bind_eq_some_iff.1 h
                        refine D.gpu (W.t rfl rfl) (U.call (ss:=[]) (.cons (.tmp (v:=.agg _) rfl) (.cons (.tmp (v:=.agg _) rfl) .nil)) (.cons (.cl (.aggL (.cons .fi (.cons .bool (.cons .fi .nil))))) (.cons (.cl (.aggL (.cons .fi (.cons .bool (.cons .fi .nil))))) .nil)) (frac_Frac_Cmp.cs Hq114) (.inl rfl) (.int)) ?_
                        refine D.gpu (W.t rfl rfl) (Pu.bin (.tmp rfl) .int .gtr) ?_
                        refine D.pu (Pu.pickT (.tmp rfl) (.tmp (v:=.bool _) rfl)) ?_
                        refine D.pu (Pu.move (.tmp (v:=.bool _) rfl)) ?_
                        refine D.splitP (fun c=>?_) (fun c=>?_)
                        · rw [if_pos c] at h
                          refine D.gskip (W.f rfl rfl rfl) ?_
                          refine D.gskip (W.f rfl rfl rfl) ?_
                          refine D.gskipN (b:=true) (W.f rfl rfl rfl) ?_
                          refine D.gskip (W.n rfl rfl) ?_
                          refine D.gskip (W.n rfl rfl) ?_
                          refine D.gskip (W.n rfl rfl) ?_
                          refine D.gskip (W.n rfl rfl) ?_
                          refine D.gskip (W.n rfl rfl) ?_
                          refine D.gskip (W.n rfl rfl) ?_
                          refine D.gskip (W.n rfl rfl) ?_
                          refine D.gskip (W.n rfl rfl) ?_
                          refine D.gskip (W.f rfl rfl rfl) ?_
                          refine D.pu (Pu.pickT (.tmp rfl) .bool) ?_
                          refine D.nil (by kernel_rfl) ?_
                          refine X.condT (.tmp rfl) ?_
                          refine X.seq ?_
                          refine X.still ?_
                          refine O.pu (Pu.assign .bool) ?_
                          refine O.nil ?_
                          refine X.ret ?_
                          cases h
                          exact E.fin [] (.tmp (v:=.bool _) rfl .nil) (.cons (.cl .bool) .nil)
                        · rw [if_neg c] at h
                          refine D.gpu (W.t rfl rfl) (Pu.move (.tmp (v:=.int _ _) rfl)) ?_
                          refine D.gpu (W.t rfl rfl) (Pu.bin (.tmp rfl) .int .eql) ?_
                          refine D.gpu (W.t rfl rfl) (Pu.move (.tmp (v:=.bool _) rfl)) ?_
                          refine D.splitE (fun c=>?_) (fun c=>?_)
                          · rw [if_pos c] at h
                            refine D.gpu (W.t rfl rfl) (U.load (.tmp rfl) rfl rfl (U.whole rfl rfl)) ?_
                            obtain ⟨q115,Hq115,h⟩:=Option.bind_eq_some_iff.1 h
                            refine D.gpu (W.t rfl rfl) (U.call (ss:=[]) (.cons (.tmp (v:=.agg _) rfl) .nil) (.cons (.cl (.aggL (.cons .fi (.cons .bool .nil)))) .nil) (whole_Int_Abs.cs Hq115) (.inl rfl) (.aggL (.cons .fi .nil))) ?_
                            obtain ⟨q116,Hq116,h⟩:=Option.bind_eq_some_iff.1 h
                            refine D.gpu (W.t rfl rfl) (U.call (ss:=[]) (.cons (.tmp (v:=.agg _) rfl) (.cons .bool .nil)) (.cons (.cl (.aggL (.cons .fi .nil))) (.cons (.cl .bool) .nil)) (whole_Of.cs Hq116) (.inl rfl) (.aggL (.cons .fi (.cons .bool .nil)))) ?_
                            obtain ⟨q117,Hq117,h⟩:=Option.bind_eq_some_iff.1 h
                            refine D.gpu (W.t rfl rfl) (U.call (ss:=[]) (.cons (.tmp (v:=.agg _) rfl) .nil) (.cons (.cl (.aggL (.cons .fi (.cons .bool .nil)))) .nil) (frac_From.cs Hq117) (.inl rfl) (.aggL (.cons .fi (.cons .bool (.cons .fi .nil))))) ?_
                            refine D.gpu (W.t rfl rfl) (U.load (.tmp rfl) rfl rfl (U.whole rfl rfl)) ?_
                            obtain ⟨q118,Hq118,h⟩:=Option.bind_eq_some_iff.1 h
                            refine D.gpu (W.t rfl rfl) (U.call (ss:=[]) (.cons (.tmp (v:=.agg _) rfl) .nil) (.cons (.cl (.aggL (.cons .fi (.cons .bool (.cons .fi .nil))))) .nil) (chattellaw06_size.cs Hq118) (.inl rfl) (.aggL (.cons .fi (.cons .bool (.cons .fi .nil))))) ?_
                            obtain ⟨q119,Hq119,h⟩:=Option.bind_eq_some_iff.1 h
                            refine D.gpu (W.t rfl rfl) (U.call (ss:=[]) (.cons (.tmp (v:=.agg _) rfl) (.cons (.tmp (v:=.agg _) rfl) .nil)) (.cons (.cl (.aggL (.cons .fi (.cons .bool (.cons .fi .nil))))) (.cons (.cl (.aggL (.cons .fi (.cons .bool (.cons .fi .nil))))) .nil)) (frac_Frac_Cmp.cs Hq119) (.inl rfl) (.int)) ?_
                            refine D.gpu (W.t rfl rfl) (Pu.bin (.tmp rfl) .int .lss) ?_
                            refine D.gpu (W.t rfl rfl) (Pu.pickT (.tmp rfl) (.tmp (v:=.bool _) rfl)) ?_
                            refine D.pu (Pu.pickF (.tmp rfl) (.tmp (v:=.bool _) rfl)) ?_
                            refine D.nil (by kernel_rfl) ?_
                            refine X.condP (.tmp rfl) (fun c=>?_) (fun c=>?_)
                            · rw [if_pos c] at h
                              refine X.seq ?_
                              refine X.still ?_
                              refine O.pu (Pu.assign .bool) ?_
                              refine O.nil ?_
                              refine X.ret ?_
                              cases h
                              exact E.fin [] (.tmp (v:=.bool _) rfl .nil) (.cons (.cl .bool) .nil)
                            · rw [if_neg c] at h
                              refine X.skip ?_
                              refine X.still ?_
                              refine O.pu (Pu.bin (.tmp rfl) .int U.add64) ?_
                              refine O.pu (Pu.move (.tmp (v:=.int _ _) rfl)) ?_
                              refine O.nil ?_
                              exact ⟨_,(by omega),_,_,_,_,_,_,_,_,_,_,_,_,_,_,_,_,_,rfl,rfl,rfl,rfl,rfl,rfl,rfl,rfl,rfl,h⟩
                          · rw [if_neg c] at h
                            refine D.gskip (W.f rfl rfl rfl) ?_
                            refine D.gskip (W.f rfl rfl rfl) ?_
                            refine D.gskip (W.f rfl rfl rfl) ?_
                            refine D.gskip (W.f rfl rfl rfl) ?_
                            refine D.gskip (W.f rfl rfl rfl) ?_
                            refine D.gskip (W.f rfl rfl rfl) ?_
                            refine D.gskip (W.f rfl rfl rfl) ?_
                            refine D.gskip (W.f rfl rfl rfl) ?_
                            refine D.gpu (W.t rfl rfl) (Pu.pickF (.tmp rfl) .bool) ?_
                            refine D.pu (Pu.pickF (.tmp rfl) (.tmp (v:=.bool _) rfl)) ?_
                            refine D.nil (by kernel_rfl) ?_
                            refine X.condF (.tmp rfl) ?_
                            refine X.skip ?_
                            refine X.still ?_
                            refine O.pu (Pu.bin (.tmp rfl) .int U.add64) ?_
                            refine O.pu (Pu.move (.tmp (v:=.int _ _) rfl)) ?_
                            refine O.nil ?_
                            exact ⟨_,(by omega),_,_,_,_,_,_,_,_,_,_,_,_,_,_,_,_,_,rfl,rfl,rfl,rfl,rfl,rfl,rfl,rfl,rfl,h⟩
                      · rw [if_neg c] at h
                        refine D.gskip (W.f rfl rfl rfl) ?_
                        refine D.gskip (W.f rfl rfl rfl) ?_
                        refine D.gskip (W.f rfl rfl rfl) ?_
                        refine D.gskip (W.f rfl rfl rfl) ?_
                        refine D.gskip (W.f rfl rfl rfl) ?_
                        refine D.gskip (W.f rfl rfl rfl) ?_
                        refine D.gskip (W.f rfl rfl rfl) ?_
                        refine D.gskip (W.f rfl rfl rfl) ?_
                        refine D.pu (Pu.pickF (.tmp rfl) .bool) ?_
                        refine D.pu (Pu.move (.tmp (v:=.bool _) rfl)) ?_
                        refine D.gpu (W.t rfl rfl) (Pu.move (.tmp (v:=.int _ _) rfl)) ?_
                        refine D.gpu (W.t rfl rfl) (Pu.bin (.tmp rfl) .int .eql) ?_
                        refine D.gpu (W.t rfl rfl) (Pu.move (.tmp (v:=.bool _) rfl)) ?_
                        refine D.splitE (fun c=>?_) (fun c=>?_)
                        · rw [if_pos c] at h
                          refine D.gpu (W.t rfl rfl) (U.load (.tmp rfl) rfl rfl (U.whole rfl rfl)) ?_
                          obtain ⟨q120,Hq120,h⟩:=Option.bind_eq_some_iff.1 h
                          refine D.gpu (W.t rfl rfl) (U.call (ss:=[]) (.cons (.tmp (v:=.agg _) rfl) .nil) (.cons (.cl (.aggL (.cons .fi (.cons .bool .nil)))) .nil) (whole_Int_Abs.cs Hq120) (.inl rfl) (.aggL (.cons .fi .nil))) ?_
                          obtain ⟨q121,Hq121,h⟩:=Option.bind_eq_some_iff.1 h
                          refine D.gpu (W.t rfl rfl) (U.call (ss:=[]) (.cons (.tmp (v:=.agg _) rfl) (.cons .bool .nil)) (.cons (.cl (.aggL (.cons .fi .nil))) (.cons (.cl .bool) .nil)) (whole_Of.cs Hq121) (.inl rfl) (.aggL (.cons .fi (.cons .bool .nil)))) ?_
                          obtain ⟨q122,Hq122,h⟩:=Option.bind_eq_some_iff.1 h
                          refine D.gpu (W.t rfl rfl) (U.call (ss:=[]) (.cons (.tmp (v:=.agg _) rfl) .nil) (.cons (.cl (.aggL (.cons .fi (.cons .bool .nil)))) .nil) (frac_From.cs Hq122) (.inl rfl) (.aggL (.cons .fi (.cons .bool (.cons .fi .nil))))) ?_
                          refine D.gpu (W.t rfl rfl) (U.load (.tmp rfl) rfl rfl (U.whole rfl rfl)) ?_
                          obtain ⟨q123,Hq123,h⟩:=Option.bind_eq_some_iff.1 h
                          refine D.gpu (W.t rfl rfl) (U.call (ss:=[]) (.cons (.tmp (v:=.agg _) rfl) .nil) (.cons (.cl (.aggL (.cons .fi (.cons .bool (.cons .fi .nil))))) .nil) (chattellaw06_size.cs Hq123) (.inl rfl) (.aggL (.cons .fi (.cons .bool (.cons .fi .nil))))) ?_
                          obtain ⟨q124,Hq124,h⟩:=Option.bind_eq_some_iff.1 h
                          refine D.gpu (W.t rfl rfl) (U.call (ss:=[]) (.cons (.tmp (v:=.agg _) rfl) (.cons (.tmp (v:=.agg _) rfl) .nil)) (.cons (.cl (.aggL (.cons .fi (.cons .bool (.cons .fi .nil))))) (.cons (.cl (.aggL (.cons .fi (.cons .bool (.cons .fi .nil))))) .nil)) (frac_Frac_Cmp.cs Hq124) (.inl rfl) (.int)) ?_
                          refine D.gpu (W.t rfl rfl) (Pu.bin (.tmp rfl) .int .lss) ?_
                          refine D.gpu (W.t rfl rfl) (Pu.pickT (.tmp rfl) (.tmp (v:=.bool _) rfl)) ?_
                          refine D.pu (Pu.pickF (.tmp rfl) (.tmp (v:=.bool _) rfl)) ?_
                          refine D.nil (by kernel_rfl) ?_
                          refine X.condP (.tmp rfl) (fun c=>?_) (fun c=>?_)
                          · rw [if_pos c] at h
                            refine X.seq ?_
                            refine X.still ?_
                            refine O.pu (Pu.assign .bool) ?_
                            refine O.nil ?_
                            refine X.ret ?_
                            cases h
                            exact E.fin [] (.tmp (v:=.bool _) rfl .nil) (.cons (.cl .bool) .nil)
                          · rw [if_neg c] at h
                            refine X.skip ?_
                            refine X.still ?_
                            refine O.pu (Pu.bin (.tmp rfl) .int U.add64) ?_
                            refine O.pu (Pu.move (.tmp (v:=.int _ _) rfl)) ?_
                            refine O.nil ?_
                            exact ⟨_,(by omega),_,_,_,_,_,_,_,_,_,_,_,_,_,_,_,_,_,rfl,rfl,rfl,rfl,rfl,rfl,rfl,rfl,rfl,h⟩
                        · rw [if_neg c] at h
                          refine D.gskip (W.f rfl rfl rfl) ?_
                          refine D.gskip (W.f rfl rfl rfl) ?_
                          refine D.gskip (W.f rfl rfl rfl) ?_
                          refine D.gskip (W.f rfl rfl rfl) ?_
                          refine D.gskip (W.f rfl rfl rfl) ?_
                          refine D.gskip (W.f rfl rfl rfl) ?_
                          refine D.gskip (W.f rfl rfl rfl) ?_
                          refine D.gskip (W.f rfl rfl rfl) ?_
                          refine D.gpu (W.t rfl rfl) (Pu.pickF (.tmp rfl) .bool) ?_
                          refine D.pu (Pu.pickF (.tmp rfl) (.tmp (v:=.bool _) rfl)) ?_
                          refine D.nil (by kernel_rfl) ?_
                          refine X.condF (.tmp rfl) ?_
                          refine X.skip ?_
                          refine X.still ?_
                          refine O.pu (Pu.bin (.tmp rfl) .int U.add64) ?_
                          refine O.pu (Pu.move (.tmp (v:=.int _ _) rfl)) ?_
                          refine O.nil ?_
                          exact ⟨_,(by omega),_,_,_,_,_,_,_,_,_,_,_,_,_,_,_,_,_,rfl,rfl,rfl,rfl,rfl,rfl,rfl,rfl,rfl,h⟩
              · rw [if_neg c] at h
                refine D.gskip (W.f rfl rfl rfl) ?_
                refine D.gskip (W.f rfl rfl rfl) ?_
                refine D.gskip (W.f rfl rfl rfl) ?_
                refine D.gskip (W.f rfl rfl rfl) ?_
                refine D.gskip (W.f rfl rfl rfl) ?_
                refine D.gskip (W.f rfl rfl rfl) ?_
                refine D.gpu (W.t rfl rfl) (Pu.pickF (.tmp rfl) .bool) ?_
                refine D.pu (Pu.pickF (.tmp rfl) (.tmp (v:=.bool _) rfl)) ?_
                refine D.pu (Pu.move (.tmp (v:=.bool _) rfl)) ?_
                refine D.gpu (W.t rfl rfl) (U.load (.tmp rfl) rfl rfl (U.whole rfl rfl)) ?_
                obtain ⟨q125,Hq125,h⟩:=Option.bind_eq_some_iff.1 h
                refine D.gpu (W.t rfl rfl) (U.call (ss:=[]) (.cons (.tmp (v:=.agg _) rfl) .nil) (.cons (.cl (.aggL (.cons .fi (.cons .bool (.cons .fi .nil))))) .nil) (chattellaw06_exact.cs Hq125) (.inl rfl) (.bool)) ?_
                refine D.gpu (W.t rfl rfl) (Pu.move (.tmp (v:=.bool _) rfl)) ?_
                refine D.split (fun c=>?_) (fun c=>?_)
                · rw [if_pos c] at h
                  refine D.gpu (W.t rfl rfl) (U.load (.tmp rfl) rfl rfl (U.whole rfl rfl)) ?_
                  obtain ⟨q126,Hq126,h⟩:=Option.bind_eq_some_iff.1 h
                  refine D.gpu (W.t rfl rfl) (U.call (ss:=[]) (.cons (.tmp (v:=.agg _) rfl) .nil) (.cons (.cl (.aggL (.cons .fi (.cons .bool (.cons .fi .nil))))) .nil) (frac_Frac_Sign.cs Hq126) (.inl rfl) (.int)) ?_
                  refine D.gpu (W.t rfl rfl) (Pu.bin (.tmp rfl) .int .neq) ?_
                  refine D.gpu (W.t rfl rfl) (Pu.pickT (.tmp rfl) (.tmp (v:=.bool _) rfl)) ?_
                  refine D.pu (Pu.pickF (.tmp rfl) (.tmp (v:=.bool _) rfl)) ?_
                  refine D.pu (Pu.move (.tmp (v:=.bool _) rfl)) ?_
                  refine D.splitN (fun c=>?_) (fun c=>?_)
                  · rw [if_neg c] at h
                    refine D.gskip (W.f rfl rfl rfl) ?_
                    refine D.gskip (W.f rfl rfl rfl) ?_
                    refine D.gskip (W.f rfl rfl rfl) ?_
                    refine D.gskip (W.f rfl rfl rfl) ?_
                    refine D.gskip (W.f rfl rfl rfl) ?_
                    refine D.pu (Pu.pickT (.tmp rfl) .bool) ?_
                    refine D.nil (by kernel_rfl) ?_
                    repeat (rw [chattellaw06_RoundNear.j2_e] at h;obtain ⟨k,_,h⟩:=h;unfold chattellaw06_RoundNear.j2 at h;try dsimp only at h)
                    rw [if_pos rfl] at h
                    refine X.condT (.tmp rfl) ?_
                    refine X.seq ?_
                    refine X.still ?_
                    refine O.pu (Pu.assign .bool) ?_
                    refine O.nil ?_
                    refine X.ret ?_
                    cases h
                    exact E.fin [] (.tmp (v:=.bool _) rfl .nil) (.cons (.cl .bool) .nil)
                  · rw [if_pos c] at h
                    refine D.gpu (W.t rfl rfl) (U.load (.tmp rfl) rfl rfl (U.whole rfl rfl)) ?_
                    refine D.gpu (W.t rfl rfl) (U.load (.tmp rfl) rfl rfl (U.whole rfl rfl)) ?_
                    obtain ⟨q127,Hq127,h⟩:=Option.bind_eq_some_iff.1 h
                    refine D.gpu (W.t rfl rfl) (U.call (ss:=[]) (.cons (.tmp (v:=.agg _) rfl) .nil) (.cons (.cl (.aggL (.cons .fi (.cons .bool .nil)))) .nil) (whole_Int_Neg.cs Hq127) (.inl rfl) (.aggL (.cons .fi (.cons .bool .nil)))) ?_
                    obtain ⟨q128,Hq128,h⟩:=Option.bind_eq_some_iff.1 h
                    refine D.gpu (W.t rfl rfl) (U.call (ss:=[]) (.cons (.tmp (v:=.agg _) rfl) (.cons (.tmp (v:=.agg _) rfl) .nil)) (.cons (.cl (.aggL (.cons .fi (.cons .bool .nil)))) (.cons (.cl (.aggL (.cons .fi (.cons .bool .nil)))) .nil)) (whole_Int_Cmp.cs Hq128) (.inl rfl) (.int)) ?_
                    refine D.gpu (W.t rfl rfl) (Pu.bin (.tmp rfl) .int .neq) ?_
                    refine D.pu (Pu.pickF (.tmp rfl) (.tmp (v:=.bool _) rfl)) ?_
                    refine D.nil (by kernel_rfl) ?_
                    repeat (rw [chattellaw06_RoundNear.j2_e] at h;obtain ⟨k,_,h⟩:=h;unfold chattellaw06_RoundNear.j2 at h;try dsimp only at h)
                    refine X.condN (.tmp rfl) (fun c=>?_) (fun c=>?_)
                    · rw [if_pos (ne1 c)] at h
                      refine X.seq ?_
                      refine X.still ?_
                      refine O.pu (Pu.assign .bool) ?_
                      refine O.nil ?_
                      refine X.ret ?_
                      cases h
                      exact E.fin [] (.tmp (v:=.bool _) rfl .nil) (.cons (.cl .bool) .nil)
                    · rw [if_neg (ne0 c)] at h
                      refine X.skip ?_
                      refine X.seq ?_
                      refine X.drawn ?_
                      refine D.pu (Pu.move (.tmp (v:=.int _ _) rfl)) ?_
                      refine D.pu (Pu.bin (.tmp rfl) .int .eql) ?_
                      refine D.pu (Pu.move (.tmp (v:=.bool _) rfl)) ?_
                      refine D.splitE (fun c=>?_) (fun c=>?_)
                      · rw [if_pos c] at h
                        refine D.gpu (W.t rfl rfl) (U.load (.tmp rfl) rfl rfl (U.whole rfl rfl)) ?_
                        obtain ⟨q129,Hq129,h⟩:=Option.bind_eq_some_iff.1 h
                        refine D.gpu (W.t rfl rfl) (U.call (ss:=[]) (.cons (.tmp (v:=.agg _) rfl) .nil) (.cons (.cl (.aggL (.cons .fi (.cons .bool .nil)))) .nil) (whole_Int_Abs.cs Hq129) (.inl rfl) (.aggL (.cons .fi .nil))) ?_
                        obtain ⟨q130,Hq130,h⟩:=Option.bind_eq_some_iff.1 h
                        refine D.gpu (W.t rfl rfl) (U.call (ss:=[]) (.cons (.tmp (v:=.agg _) rfl) (.cons .bool .nil)) (.cons (.cl (.aggL (.cons .fi .nil))) (.cons (.cl .bool) .nil)) (whole_Of.cs Hq130) (.inl rfl) (.aggL (.cons .fi (.cons .bool .nil)))) ?_
                        obtain ⟨q131,Hq131,h⟩:=Option.bind_eq_some_iff.1 h
                        refine D.gpu (W.t rfl rfl) (U.call (ss:=[]) (.cons (.tmp (v:=.agg _) rfl) .nil) (.cons (.cl (.aggL (.cons .fi (.cons .bool .nil)))) .nil) (frac_From.cs Hq131) (.inl rfl) (.aggL (.cons .fi (.cons .bool (.cons .fi .nil))))) ?_
                        refine D.gpu (W.t rfl rfl) (U.load (.tmp rfl) rfl rfl (U.whole rfl rfl)) ?_
                        obtain ⟨q132,Hq132,h⟩:=Option.bind_eq_some_iff.1 h
                        refine D.gpu (W.t rfl rfl) (U.call (ss:=[]) (.cons (.tmp (v:=.agg _) rfl) .nil) (.cons (.cl (.aggL (.cons .fi (.cons .bool (.cons .fi .nil))))) .nil) (chattellaw06_size.cs Hq132) (.inl rfl) (.aggL (.cons .fi (.cons .bool (.cons .fi .nil))))) ?_
                        obtain ⟨q133,Hq133,h⟩:=Option.bind_eq_some_iff.1 h
                        refine D.gpu (W.t rfl rfl) (U.call (ss:=[]) (.cons (.tmp (v:=.agg _) rfl) (.cons (.tmp (v:=.agg _) rfl) .nil)) (.cons (.cl (.aggL (.cons .fi (.cons .bool (.cons .fi .nil))))) (.cons (.cl (.aggL (.cons .fi (.cons .bool (.cons .fi .nil))))) .nil)) (frac_Frac_Cmp.cs Hq133) (.inl rfl) (.int)) ?_
                        refine D.gpu (W.t rfl rfl) (Pu.bin (.tmp rfl) .int .gtr) ?_
                        refine D.pu (Pu.pickT (.tmp rfl) (.tmp (v:=.bool _) rfl)) ?_
                        refine D.pu (Pu.move (.tmp (v:=.bool _) rfl)) ?_
                        refine D.splitP (fun c=>?_) (fun c=>?_)
                        · rw [if_pos c] at h
                          refine D.gskip (W.f rfl rfl rfl) ?_
                          refine D.gskip (W.f rfl rfl rfl) ?_
                          refine D.gskipN (b:=true) (W.f rfl rfl rfl) ?_
                          refine D.gskip (W.n rfl rfl) ?_
                          refine D.gskip (W.n rfl rfl) ?_
                          refine D.gskip (W.n rfl rfl) ?_
                          refine D.gskip (W.n rfl rfl) ?_
                          refine D.gskip (W.n rfl rfl) ?_
                          refine D.gskip (W.n rfl rfl) ?_
                          refine D.gskip (W.n rfl rfl) ?_
                          refine D.gskip (W.n rfl rfl) ?_
                          refine D.gskip (W.f rfl rfl rfl) ?_
                          refine D.pu (Pu.pickT (.tmp rfl) .bool) ?_
                          refine D.nil (by kernel_rfl) ?_
                          refine X.condT (.tmp rfl) ?_
                          refine X.seq ?_
                          refine X.still ?_
                          refine O.pu (Pu.assign .bool) ?_
                          refine O.nil ?_
                          refine X.ret ?_
                          cases h
                          exact E.fin [] (.tmp (v:=.bool _) rfl .nil) (.cons (.cl .bool) .nil)
                        · rw [if_neg c] at h
                          refine D.gpu (W.t rfl rfl) (Pu.move (.tmp (v:=.int _ _) rfl)) ?_
                          refine D.gpu (W.t rfl rfl) (Pu.bin (.tmp rfl) .int .eql) ?_
                          refine D.gpu (W.t rfl rfl) (Pu.move (.tmp (v:=.bool _) rfl)) ?_
                          refine D.splitE (fun c=>?_) (fun c=>?_)
                          · rw [if_pos c] at h
                            refine D.gpu (W.t rfl rfl) (U.load (.tmp rfl) rfl rfl (U.whole rfl rfl)) ?_
                            obtain ⟨q134,Hq134,h⟩:=Option.bind_eq_some_iff.1 h
                            refine D.gpu (W.t rfl rfl) (U.call (ss:=[]) (.cons (.tmp (v:=.agg _) rfl) .nil) (.cons (.cl (.aggL (.cons .fi (.cons .bool .nil)))) .nil) (whole_Int_Abs.cs Hq134) (.inl rfl) (.aggL (.cons .fi .nil))) ?_
                            obtain ⟨q135,Hq135,h⟩:=Option.bind_eq_some_iff.1 h
                            refine D.gpu (W.t rfl rfl) (U.call (ss:=[]) (.cons (.tmp (v:=.agg _) rfl) (.cons .bool .nil)) (.cons (.cl (.aggL (.cons .fi .nil))) (.cons (.cl .bool) .nil)) (whole_Of.cs Hq135) (.inl rfl) (.aggL (.cons .fi (.cons .bool .nil)))) ?_
                            obtain ⟨q136,Hq136,h⟩:=Option.bind_eq_some_iff.1 h
                            refine D.gpu (W.t rfl rfl) (U.call (ss:=[]) (.cons (.tmp (v:=.agg _) rfl) .nil) (.cons (.cl (.aggL (.cons .fi (.cons .bool .nil)))) .nil) (frac_From.cs Hq136) (.inl rfl) (.aggL (.cons .fi (.cons .bool (.cons .fi .nil))))) ?_
                            refine D.gpu (W.t rfl rfl) (U.load (.tmp rfl) rfl rfl (U.whole rfl rfl)) ?_
                            obtain ⟨q137,Hq137,h⟩:=Option.bind_eq_some_iff.1 h
                            refine D.gpu (W.t rfl rfl) (U.call (ss:=[]) (.cons (.tmp (v:=.agg _) rfl) .nil) (.cons (.cl (.aggL (.cons .fi (.cons .bool (.cons .fi .nil))))) .nil) (chattellaw06_size.cs Hq137) (.inl rfl) (.aggL (.cons .fi (.cons .bool (.cons .fi .nil))))) ?_
                            obtain ⟨q138,Hq138,h⟩:=Option.bind_eq_some_iff.1 h
                            refine D.gpu (W.t rfl rfl) (U.call (ss:=[]) (.cons (.tmp (v:=.agg _) rfl) (.cons (.tmp (v:=.agg _) rfl) .nil)) (.cons (.cl (.aggL (.cons .fi (.cons .bool (.cons .fi .nil))))) (.cons (.cl (.aggL (.cons .fi (.cons .bool (.cons .fi .nil))))) .nil)) (frac_Frac_Cmp.cs Hq138) (.inl rfl) (.int)) ?_
                            refine D.gpu (W.t rfl rfl) (Pu.bin (.tmp rfl) .int .lss) ?_
                            refine D.gpu (W.t rfl rfl) (Pu.pickT (.tmp rfl) (.tmp (v:=.bool _) rfl)) ?_
                            refine D.pu (Pu.pickF (.tmp rfl) (.tmp (v:=.bool _) rfl)) ?_
                            refine D.nil (by kernel_rfl) ?_
                            refine X.condP (.tmp rfl) (fun c=>?_) (fun c=>?_)
                            · rw [if_pos c] at h
                              refine X.seq ?_
                              refine X.still ?_
                              refine O.pu (Pu.assign .bool) ?_
                              refine O.nil ?_
                              refine X.ret ?_
                              cases h
                              exact E.fin [] (.tmp (v:=.bool _) rfl .nil) (.cons (.cl .bool) .nil)
                            · rw [if_neg c] at h
                              refine X.skip ?_
                              refine X.still ?_
                              refine O.pu (Pu.bin (.tmp rfl) .int U.add64) ?_
                              refine O.pu (Pu.move (.tmp (v:=.int _ _) rfl)) ?_
                              refine O.nil ?_
                              exact ⟨_,(by omega),_,_,_,_,_,_,_,_,_,_,_,_,_,_,_,_,_,rfl,rfl,rfl,rfl,rfl,rfl,rfl,rfl,rfl,h⟩
                          · rw [if_neg c] at h
                            refine D.gskip (W.f rfl rfl rfl) ?_
                            refine D.gskip (W.f rfl rfl rfl) ?_
                            refine D.gskip (W.f rfl rfl rfl) ?_
                            refine D.gskip (W.f rfl rfl rfl) ?_
                            refine D.gskip (W.f rfl rfl rfl) ?_
                            refine D.gskip (W.f rfl rfl rfl) ?_
                            refine D.gskip (W.f rfl rfl rfl) ?_
                            refine D.gskip (W.f rfl rfl rfl) ?_
                            refine D.gpu (W.t rfl rfl) (Pu.pickF (.tmp rfl) .bool) ?_
                            refine D.pu (Pu.pickF (.tmp rfl) (.tmp (v:=.bool _) rfl)) ?_
                            refine D.nil (by kernel_rfl) ?_
                            refine X.condF (.tmp rfl) ?_
                            refine X.skip ?_
                            refine X.still ?_
                            refine O.pu (Pu.bin (.tmp rfl) .int U.add64) ?_
                            refine O.pu (Pu.move (.tmp (v:=.int _ _) rfl)) ?_
                            refine O.nil ?_
                            exact ⟨_,(by omega),_,_,_,_,_,_,_,_,_,_,_,_,_,_,_,_,_,rfl,rfl,rfl,rfl,rfl,rfl,rfl,rfl,rfl,h⟩
                      · rw [if_neg c] at h
                        refine D.gskip (W.f rfl rfl rfl) ?_
                        refine D.gskip (W.f rfl rfl rfl) ?_
                        refine D.gskip (W.f rfl rfl rfl) ?_
                        refine D.gskip (W.f rfl rfl rfl) ?_
                        refine D.gskip (W.f rfl rfl rfl) ?_
                        refine D.gskip (W.f rfl rfl rfl) ?_
                        refine D.gskip (W.f rfl rfl rfl) ?_
                        refine D.gskip (W.f rfl rfl rfl) ?_
                        refine D.pu (Pu.pickF (.tmp rfl) .bool) ?_
                        refine D.pu (Pu.move (.tmp (v:=.bool _) rfl)) ?_
                        refine D.gpu (W.t rfl rfl) (Pu.move (.tmp (v:=.int _ _) rfl)) ?_
                        refine D.gpu (W.t rfl rfl) (Pu.bin (.tmp rfl) .int .eql) ?_
                        refine D.gpu (W.t rfl rfl) (Pu.move (.tmp (v:=.bool _) rfl)) ?_
                        refine D.splitE (fun c=>?_) (fun c=>?_)
                        · rw [if_pos c] at h
                          refine D.gpu (W.t rfl rfl) (U.load (.tmp rfl) rfl rfl (U.whole rfl rfl)) ?_
                          obtain ⟨q139,Hq139,h⟩:=Option.bind_eq_some_iff.1 h
                          refine D.gpu (W.t rfl rfl) (U.call (ss:=[]) (.cons (.tmp (v:=.agg _) rfl) .nil) (.cons (.cl (.aggL (.cons .fi (.cons .bool .nil)))) .nil) (whole_Int_Abs.cs Hq139) (.inl rfl) (.aggL (.cons .fi .nil))) ?_
                          obtain ⟨q140,Hq140,h⟩:=Option.bind_eq_some_iff.1 h
                          refine D.gpu (W.t rfl rfl) (U.call (ss:=[]) (.cons (.tmp (v:=.agg _) rfl) (.cons .bool .nil)) (.cons (.cl (.aggL (.cons .fi .nil))) (.cons (.cl .bool) .nil)) (whole_Of.cs Hq140) (.inl rfl) (.aggL (.cons .fi (.cons .bool .nil)))) ?_
                          obtain ⟨q141,Hq141,h⟩:=Option.bind_eq_some_iff.1 h
                          refine D.gpu (W.t rfl rfl) (U.call (ss:=[]) (.cons (.tmp (v:=.agg _) rfl) .nil) (.cons (.cl (.aggL (.cons .fi (.cons .bool .nil)))) .nil) (frac_From.cs Hq141) (.inl rfl) (.aggL (.cons .fi (.cons .bool (.cons .fi .nil))))) ?_
                          refine D.gpu (W.t rfl rfl) (U.load (.tmp rfl) rfl rfl (U.whole rfl rfl)) ?_
                          obtain ⟨q142,Hq142,h⟩:=Option.bind_eq_some_iff.1 h
                          refine D.gpu (W.t rfl rfl) (U.call (ss:=[]) (.cons (.tmp (v:=.agg _) rfl) .nil) (.cons (.cl (.aggL (.cons .fi (.cons .bool (.cons .fi .nil))))) .nil) (chattellaw06_size.cs Hq142) (.inl rfl) (.aggL (.cons .fi (.cons .bool (.cons .fi .nil))))) ?_
                          obtain ⟨q143,Hq143,h⟩:=Option.bind_eq_some_iff.1 h
                          refine D.gpu (W.t rfl rfl) (U.call (ss:=[]) (.cons (.tmp (v:=.agg _) rfl) (.cons (.tmp (v:=.agg _) rfl) .nil)) (.cons (.cl (.aggL (.cons .fi (.cons .bool (.cons .fi .nil))))) (.cons (.cl (.aggL (.cons .fi (.cons .bool (.cons .fi .nil))))) .nil)) (frac_Frac_Cmp.cs Hq143) (.inl rfl) (.int)) ?_
                          refine D.gpu (W.t rfl rfl) (Pu.bin (.tmp rfl) .int .lss) ?_
                          refine D.gpu (W.t rfl rfl) (Pu.pickT (.tmp rfl) (.tmp (v:=.bool _) rfl)) ?_
                          refine D.pu (Pu.pickF (.tmp rfl) (.tmp (v:=.bool _) rfl)) ?_
                          refine D.nil (by kernel_rfl) ?_
                          refine X.condP (.tmp rfl) (fun c=>?_) (fun c=>?_)
                          · rw [if_pos c] at h
                            refine X.seq ?_
                            refine X.still ?_
                            refine O.pu (Pu.assign .bool) ?_
                            refine O.nil ?_
                            refine X.ret ?_
                            cases h
                            exact E.fin [] (.tmp (v:=.bool _) rfl .nil) (.cons (.cl .bool) .nil)
                          · rw [if_neg c] at h
                            refine X.skip ?_
                            refine X.still ?_
                            refine O.pu (Pu.bin (.tmp rfl) .int U.add64) ?_
                            refine O.pu (Pu.move (.tmp (v:=.int _ _) rfl)) ?_
                            refine O.nil ?_
                            exact ⟨_,(by omega),_,_,_,_,_,_,_,_,_,_,_,_,_,_,_,_,_,rfl,rfl,rfl,rfl,rfl,rfl,rfl,rfl,rfl,h⟩
                        · rw [if_neg c] at h
                          refine D.gskip (W.f rfl rfl rfl) ?_
                          refine D.gskip (W.f rfl rfl rfl) ?_
                          refine D.gskip (W.f rfl rfl rfl) ?_
                          refine D.gskip (W.f rfl rfl rfl) ?_
                          refine D.gskip (W.f rfl rfl rfl) ?_
                          refine D.gskip (W.f rfl rfl rfl) ?_
                          refine D.gskip (W.f rfl rfl rfl) ?_
                          refine D.gskip (W.f rfl rfl rfl) ?_
                          refine D.gpu (W.t rfl rfl) (Pu.pickF (.tmp rfl) .bool) ?_
                          refine D.pu (Pu.pickF (.tmp rfl) (.tmp (v:=.bool _) rfl)) ?_
                          refine D.nil (by kernel_rfl) ?_
                          refine X.condF (.tmp rfl) ?_
                          refine X.skip ?_
                          refine X.still ?_
                          refine O.pu (Pu.bin (.tmp rfl) .int U.add64) ?_
                          refine O.pu (Pu.move (.tmp (v:=.int _ _) rfl)) ?_
                          refine O.nil ?_
                          exact ⟨_,(by omega),_,_,_,_,_,_,_,_,_,_,_,_,_,_,_,_,_,rfl,rfl,rfl,rfl,rfl,rfl,rfl,rfl,rfl,h⟩
                · rw [if_neg (bf c)] at h
                  refine D.gskip (W.f rfl rfl rfl) ?_
                  refine D.gskip (W.f rfl rfl rfl) ?_
                  refine D.gskip (W.f rfl rfl rfl) ?_
                  refine D.gpu (W.t rfl rfl) (Pu.pickF (.tmp rfl) .bool) ?_
                  refine D.pu (Pu.pickF (.tmp rfl) (.tmp (v:=.bool _) rfl)) ?_
                  refine D.pu (Pu.move (.tmp (v:=.bool _) rfl)) ?_
                  refine D.gpu (W.t rfl rfl) (U.load (.tmp rfl) rfl rfl (U.whole rfl rfl)) ?_
                  refine D.gpu (W.t rfl rfl) (U.load (.tmp rfl) rfl rfl (U.whole rfl rfl)) ?_
                  obtain ⟨q144,Hq144,h⟩:=Option.bind_eq_some_iff.1 h
                  refine D.gpu (W.t rfl rfl) (U.call (ss:=[]) (.cons (.tmp (v:=.agg _) rfl) .nil) (.cons (.cl (.aggL (.cons .fi (.cons .bool .nil)))) .nil) (whole_Int_Neg.cs Hq144) (.inl rfl) (.aggL (.cons .fi (.cons .bool .nil)))) ?_
                  obtain ⟨q145,Hq145,h⟩:=Option.bind_eq_some_iff.1 h
                  refine D.gpu (W.t rfl rfl) (U.call (ss:=[]) (.cons (.tmp (v:=.agg _) rfl) (.cons (.tmp (v:=.agg _) rfl) .nil)) (.cons (.cl (.aggL (.cons .fi (.cons .bool .nil)))) (.cons (.cl (.aggL (.cons .fi (.cons .bool .nil)))) .nil)) (whole_Int_Cmp.cs Hq145) (.inl rfl) (.int)) ?_
                  refine D.gpu (W.t rfl rfl) (Pu.bin (.tmp rfl) .int .neq) ?_
                  refine D.pu (Pu.pickF (.tmp rfl) (.tmp (v:=.bool _) rfl)) ?_
                  refine D.nil (by kernel_rfl) ?_
                  repeat (rw [chattellaw06_RoundNear.j2_e] at h;obtain ⟨k,_,h⟩:=h;unfold chattellaw06_RoundNear.j2 at h;try dsimp only at h)
                  refine X.condN (.tmp rfl) (fun c=>?_) (fun c=>?_)
                  · rw [if_pos (ne1 c)] at h
                    refine X.seq ?_
                    refine X.still ?_
                    refine O.pu (Pu.assign .bool) ?_
                    refine O.nil ?_
                    refine X.ret ?_
                    cases h
                    exact E.fin [] (.tmp (v:=.bool _) rfl .nil) (.cons (.cl .bool) .nil)
                  · rw [if_neg (ne0 c)] at h
                    refine X.skip ?_
                    refine X.seq ?_
                    refine X.drawn ?_
                    refine D.pu (Pu.move (.tmp (v:=.int _ _) rfl)) ?_
                    refine D.pu (Pu.bin (.tmp rfl) .int .eql) ?_
                    refine D.pu (Pu.move (.tmp (v:=.bool _) rfl)) ?_
                    refine D.splitE (fun c=>?_) (fun c=>?_)
                    · rw [if_pos c] at h
                      refine D.gpu (W.t rfl rfl) (U.load (.tmp rfl) rfl rfl (U.whole rfl rfl)) ?_
                      obtain ⟨q146,Hq146,h⟩:=Option.bind_eq_some_iff.1 h
                      refine D.gpu (W.t rfl rfl) (U.call (ss:=[]) (.cons (.tmp (v:=.agg _) rfl) .nil) (.cons (.cl (.aggL (.cons .fi (.cons .bool .nil)))) .nil) (whole_Int_Abs.cs Hq146) (.inl rfl) (.aggL (.cons .fi .nil))) ?_
                      obtain ⟨q147,Hq147,h⟩:=Option.bind_eq_some_iff.1 h
                      refine D.gpu (W.t rfl rfl) (U.call (ss:=[]) (.cons (.tmp (v:=.agg _) rfl) (.cons .bool .nil)) (.cons (.cl (.aggL (.cons .fi .nil))) (.cons (.cl .bool) .nil)) (whole_Of.cs Hq147) (.inl rfl) (.aggL (.cons .fi (.cons .bool .nil)))) ?_
                      obtain ⟨q148,Hq148,h⟩:=Option.bind_eq_some_iff.1 h
                      refine D.gpu (W.t rfl rfl) (U.call (ss:=[]) (.cons (.tmp (v:=.agg _) rfl) .nil) (.cons (.cl (.aggL (.cons .fi (.cons .bool .nil)))) .nil) (frac_From.cs Hq148) (.inl rfl) (.aggL (.cons .fi (.cons .bool (.cons .fi .nil))))) ?_
                      refine D.gpu (W.t rfl rfl) (U.load (.tmp rfl) rfl rfl (U.whole rfl rfl)) ?_
                      obtain ⟨q149,Hq149,h⟩:=Option.bind_eq_some_iff.1 h
                      refine D.gpu (W.t rfl rfl) (U.call (ss:=[]) (.cons (.tmp (v:=.agg _) rfl) .nil) (.cons (.cl (.aggL (.cons .fi (.cons .bool (.cons .fi .nil))))) .nil) (chattellaw06_size.cs Hq149) (.inl rfl) (.aggL (.cons .fi (.cons .bool (.cons .fi .nil))))) ?_
                      obtain ⟨q150,Hq150,h⟩:=Option.bind_eq_some_iff.1 h
                      refine D.gpu (W.t rfl rfl) (U.call (ss:=[]) (.cons (.tmp (v:=.agg _) rfl) (.cons (.tmp (v:=.agg _) rfl) .nil)) (.cons (.cl (.aggL (.cons .fi (.cons .bool (.cons .fi .nil))))) (.cons (.cl (.aggL (.cons .fi (.cons .bool (.cons .fi .nil))))) .nil)) (frac_Frac_Cmp.cs Hq150) (.inl rfl) (.int)) ?_
                      refine D.gpu (W.t rfl rfl) (Pu.bin (.tmp rfl) .int .gtr) ?_
                      refine D.pu (Pu.pickT (.tmp rfl) (.tmp (v:=.bool _) rfl)) ?_
                      refine D.pu (Pu.move (.tmp (v:=.bool _) rfl)) ?_
                      refine D.splitP (fun c=>?_) (fun c=>?_)
                      · rw [if_pos c] at h
                        refine D.gskip (W.f rfl rfl rfl) ?_
                        refine D.gskip (W.f rfl rfl rfl) ?_
                        refine D.gskipN (b:=true) (W.f rfl rfl rfl) ?_
                        refine D.gskip (W.n rfl rfl) ?_
                        refine D.gskip (W.n rfl rfl) ?_
                        refine D.gskip (W.n rfl rfl) ?_
                        refine D.gskip (W.n rfl rfl) ?_
                        refine D.gskip (W.n rfl rfl) ?_
                        refine D.gskip (W.n rfl rfl) ?_
                        refine D.gskip (W.n rfl rfl) ?_
                        refine D.gskip (W.n rfl rfl) ?_
                        refine D.gskip (W.f rfl rfl rfl) ?_
                        refine D.pu (Pu.pickT (.tmp rfl) .bool) ?_
                        refine D.nil (by kernel_rfl) ?_
                        refine X.condT (.tmp rfl) ?_
                        refine X.seq ?_
                        refine X.still ?_
                        refine O.pu (Pu.assign .bool) ?_
                        refine O.nil ?_
                        refine X.ret ?_
                        cases h
                        exact E.fin [] (.tmp (v:=.bool _) rfl .nil) (.cons (.cl .bool) .nil)
                      · rw [if_neg c] at h
                        refine D.gpu (W.t rfl rfl) (Pu.move (.tmp (v:=.int _ _) rfl)) ?_
                        refine D.gpu (W.t rfl rfl) (Pu.bin (.tmp rfl) .int .eql) ?_
                        refine D.gpu (W.t rfl rfl) (Pu.move (.tmp (v:=.bool _) rfl)) ?_
                        refine D.splitE (fun c=>?_) (fun c=>?_)
                        · rw [if_pos c] at h
                          refine D.gpu (W.t rfl rfl) (U.load (.tmp rfl) rfl rfl (U.whole rfl rfl)) ?_
                          obtain ⟨q151,Hq151,h⟩:=Option.bind_eq_some_iff.1 h
                          refine D.gpu (W.t rfl rfl) (U.call (ss:=[]) (.cons (.tmp (v:=.agg _) rfl) .nil) (.cons (.cl (.aggL (.cons .fi (.cons .bool .nil)))) .nil) (whole_Int_Abs.cs Hq151) (.inl rfl) (.aggL (.cons .fi .nil))) ?_
                          obtain ⟨q152,Hq152,h⟩:=Option.bind_eq_some_iff.1 h
                          refine D.gpu (W.t rfl rfl) (U.call (ss:=[]) (.cons (.tmp (v:=.agg _) rfl) (.cons .bool .nil)) (.cons (.cl (.aggL (.cons .fi .nil))) (.cons (.cl .bool) .nil)) (whole_Of.cs Hq152) (.inl rfl) (.aggL (.cons .fi (.cons .bool .nil)))) ?_
                          obtain ⟨q153,Hq153,h⟩:=Option.bind_eq_some_iff.1 h
                          refine D.gpu (W.t rfl rfl) (U.call (ss:=[]) (.cons (.tmp (v:=.agg _) rfl) .nil) (.cons (.cl (.aggL (.cons .fi (.cons .bool .nil)))) .nil) (frac_From.cs Hq153) (.inl rfl) (.aggL (.cons .fi (.cons .bool (.cons .fi .nil))))) ?_
                          refine D.gpu (W.t rfl rfl) (U.load (.tmp rfl) rfl rfl (U.whole rfl rfl)) ?_
                          obtain ⟨q154,Hq154,h⟩:=Option.bind_eq_some_iff.1 h
                          refine D.gpu (W.t rfl rfl) (U.call (ss:=[]) (.cons (.tmp (v:=.agg _) rfl) .nil) (.cons (.cl (.aggL (.cons .fi (.cons .bool (.cons .fi .nil))))) .nil) (chattellaw06_size.cs Hq154) (.inl rfl) (.aggL (.cons .fi (.cons .bool (.cons .fi .nil))))) ?_
                          obtain ⟨q155,Hq155,h⟩:=Option.bind_eq_some_iff.1 h
                          refine D.gpu (W.t rfl rfl) (U.call (ss:=[]) (.cons (.tmp (v:=.agg _) rfl) (.cons (.tmp (v:=.agg _) rfl) .nil)) (.cons (.cl (.aggL (.cons .fi (.cons .bool (.cons .fi .nil))))) (.cons (.cl (.aggL (.cons .fi (.cons .bool (.cons .fi .nil))))) .nil)) (frac_Frac_Cmp.cs Hq155) (.inl rfl) (.int)) ?_
                          refine D.gpu (W.t rfl rfl) (Pu.bin (.tmp rfl) .int .lss) ?_
                          refine D.gpu (W.t rfl rfl) (Pu.pickT (.tmp rfl) (.tmp (v:=.bool _) rfl)) ?_
                          refine D.pu (Pu.pickF (.tmp rfl) (.tmp (v:=.bool _) rfl)) ?_
                          refine D.nil (by kernel_rfl) ?_
                          refine X.condP (.tmp rfl) (fun c=>?_) (fun c=>?_)
                          · rw [if_pos c] at h
                            refine X.seq ?_
                            refine X.still ?_
                            refine O.pu (Pu.assign .bool) ?_
                            refine O.nil ?_
                            refine X.ret ?_
                            cases h
                            exact E.fin [] (.tmp (v:=.bool _) rfl .nil) (.cons (.cl .bool) .nil)
                          · rw [if_neg c] at h
                            refine X.skip ?_
                            refine X.still ?_
                            refine O.pu (Pu.bin (.tmp rfl) .int U.add64) ?_
                            refine O.pu (Pu.move (.tmp (v:=.int _ _) rfl)) ?_
                            refine O.nil ?_
                            exact ⟨_,(by omega),_,_,_,_,_,_,_,_,_,_,_,_,_,_,_,_,_,rfl,rfl,rfl,rfl,rfl,rfl,rfl,rfl,rfl,h⟩
                        · rw [if_neg c] at h
                          refine D.gskip (W.f rfl rfl rfl) ?_
                          refine D.gskip (W.f rfl rfl rfl) ?_
                          refine D.gskip (W.f rfl rfl rfl) ?_
                          refine D.gskip (W.f rfl rfl rfl) ?_
                          refine D.gskip (W.f rfl rfl rfl) ?_
                          refine D.gskip (W.f rfl rfl rfl) ?_
                          refine D.gskip (W.f rfl rfl rfl) ?_
                          refine D.gskip (W.f rfl rfl rfl) ?_
                          refine D.gpu (W.t rfl rfl) (Pu.pickF (.tmp rfl) .bool) ?_
                          refine D.pu (Pu.pickF (.tmp rfl) (.tmp (v:=.bool _) rfl)) ?_
                          refine D.nil (by kernel_rfl) ?_
                          refine X.condF (.tmp rfl) ?_
                          refine X.skip ?_
                          refine X.still ?_
                          refine O.pu (Pu.bin (.tmp rfl) .int U.add64) ?_
                          refine O.pu (Pu.move (.tmp (v:=.int _ _) rfl)) ?_
                          refine O.nil ?_
                          exact ⟨_,(by omega),_,_,_,_,_,_,_,_,_,_,_,_,_,_,_,_,_,rfl,rfl,rfl,rfl,rfl,rfl,rfl,rfl,rfl,h⟩
                    · rw [if_neg c] at h
                      refine D.gskip (W.f rfl rfl rfl) ?_
                      refine D.gskip (W.f rfl rfl rfl) ?_
                      refine D.gskip (W.f rfl rfl rfl) ?_
                      refine D.gskip (W.f rfl rfl rfl) ?_
                      refine D.gskip (W.f rfl rfl rfl) ?_
                      refine D.gskip (W.f rfl rfl rfl) ?_
                      refine D.gskip (W.f rfl rfl rfl) ?_
                      refine D.gskip (W.f rfl rfl rfl) ?_
                      refine D.pu (Pu.pickF (.tmp rfl) .bool) ?_
                      refine D.pu (Pu.move (.tmp (v:=.bool _) rfl)) ?_
                      refine D.gpu (W.t rfl rfl) (Pu.move (.tmp (v:=.int _ _) rfl)) ?_
                      refine D.gpu (W.t rfl rfl) (Pu.bin (.tmp rfl) .int .eql) ?_
                      refine D.gpu (W.t rfl rfl) (Pu.move (.tmp (v:=.bool _) rfl)) ?_
                      refine D.splitE (fun c=>?_) (fun c=>?_)
                      · rw [if_pos c] at h
                        refine D.gpu (W.t rfl rfl) (U.load (.tmp rfl) rfl rfl (U.whole rfl rfl)) ?_
                        obtain ⟨q156,Hq156,h⟩:=Option.bind_eq_some_iff.1 h
                        refine D.gpu (W.t rfl rfl) (U.call (ss:=[]) (.cons (.tmp (v:=.agg _) rfl) .nil) (.cons (.cl (.aggL (.cons .fi (.cons .bool .nil)))) .nil) (whole_Int_Abs.cs Hq156) (.inl rfl) (.aggL (.cons .fi .nil))) ?_
                        obtain ⟨q157,Hq157,h⟩:=Option.bind_eq_some_iff.1 h
                        refine D.gpu (W.t rfl rfl) (U.call (ss:=[]) (.cons (.tmp (v:=.agg _) rfl) (.cons .bool .nil)) (.cons (.cl (.aggL (.cons .fi .nil))) (.cons (.cl .bool) .nil)) (whole_Of.cs Hq157) (.inl rfl) (.aggL (.cons .fi (.cons .bool .nil)))) ?_
                        obtain ⟨q158,Hq158,h⟩:=Option.bind_eq_some_iff.1 h
                        refine D.gpu (W.t rfl rfl) (U.call (ss:=[]) (.cons (.tmp (v:=.agg _) rfl) .nil) (.cons (.cl (.aggL (.cons .fi (.cons .bool .nil)))) .nil) (frac_From.cs Hq158) (.inl rfl) (.aggL (.cons .fi (.cons .bool (.cons .fi .nil))))) ?_
                        refine D.gpu (W.t rfl rfl) (U.load (.tmp rfl) rfl rfl (U.whole rfl rfl)) ?_
                        obtain ⟨q159,Hq159,h⟩:=Option.bind_eq_some_iff.1 h
                        refine D.gpu (W.t rfl rfl) (U.call (ss:=[]) (.cons (.tmp (v:=.agg _) rfl) .nil) (.cons (.cl (.aggL (.cons .fi (.cons .bool (.cons .fi .nil))))) .nil) (chattellaw06_size.cs Hq159) (.inl rfl) (.aggL (.cons .fi (.cons .bool (.cons .fi .nil))))) ?_
                        obtain ⟨q160,Hq160,h⟩:=Option.bind_eq_some_iff.1 h
                        refine D.gpu (W.t rfl rfl) (U.call (ss:=[]) (.cons (.tmp (v:=.agg _) rfl) (.cons (.tmp (v:=.agg _) rfl) .nil)) (.cons (.cl (.aggL (.cons .fi (.cons .bool (.cons .fi .nil))))) (.cons (.cl (.aggL (.cons .fi (.cons .bool (.cons .fi .nil))))) .nil)) (frac_Frac_Cmp.cs Hq160) (.inl rfl) (.int)) ?_
                        refine D.gpu (W.t rfl rfl) (Pu.bin (.tmp rfl) .int .lss) ?_
                        refine D.gpu (W.t rfl rfl) (Pu.pickT (.tmp rfl) (.tmp (v:=.bool _) rfl)) ?_
                        refine D.pu (Pu.pickF (.tmp rfl) (.tmp (v:=.bool _) rfl)) ?_
                        refine D.nil (by kernel_rfl) ?_
                        refine X.condP (.tmp rfl) (fun c=>?_) (fun c=>?_)
                        · rw [if_pos c] at h
                          refine X.seq ?_
                          refine X.still ?_
                          refine O.pu (Pu.assign .bool) ?_
                          refine O.nil ?_
                          refine X.ret ?_
                          cases h
                          exact E.fin [] (.tmp (v:=.bool _) rfl .nil) (.cons (.cl .bool) .nil)
                        · rw [if_neg c] at h
                          refine X.skip ?_
                          refine X.still ?_
                          refine O.pu (Pu.bin (.tmp rfl) .int U.add64) ?_
                          refine O.pu (Pu.move (.tmp (v:=.int _ _) rfl)) ?_
                          refine O.nil ?_
                          exact ⟨_,(by omega),_,_,_,_,_,_,_,_,_,_,_,_,_,_,_,_,_,rfl,rfl,rfl,rfl,rfl,rfl,rfl,rfl,rfl,h⟩
                      · rw [if_neg c] at h
                        refine D.gskip (W.f rfl rfl rfl) ?_
                        refine D.gskip (W.f rfl rfl rfl) ?_
                        refine D.gskip (W.f rfl rfl rfl) ?_
                        refine D.gskip (W.f rfl rfl rfl) ?_
                        refine D.gskip (W.f rfl rfl rfl) ?_
                        refine D.gskip (W.f rfl rfl rfl) ?_
                        refine D.gskip (W.f rfl rfl rfl) ?_
                        refine D.gskip (W.f rfl rfl rfl) ?_
                        refine D.gpu (W.t rfl rfl) (Pu.pickF (.tmp rfl) .bool) ?_
                        refine D.pu (Pu.pickF (.tmp rfl) (.tmp (v:=.bool _) rfl)) ?_
                        refine D.nil (by kernel_rfl) ?_
                        refine X.condF (.tmp rfl) ?_
                        refine X.skip ?_
                        refine X.still ?_
                        refine O.pu (Pu.bin (.tmp rfl) .int U.add64) ?_
                        refine O.pu (Pu.move (.tmp (v:=.int _ _) rfl)) ?_
                        refine O.nil ?_
                        exact ⟨_,(by omega),_,_,_,_,_,_,_,_,_,_,_,_,_,_,_,_,_,rfl,rfl,rfl,rfl,rfl,rfl,rfl,rfl,rfl,h⟩
    · rw [if_neg c] at h
      refine X.exit (B.out ?_)
      refine X.seq ?_
      refine X.still ?_
      obtain ⟨q161,Hq161,h⟩:=Option.bind_eq_some_iff.1 h
      refine O.pu (U.call (ss:=[]) .nil .nil (chattellaw06_wakes.cs Hq161) (.inl rfl) (.bool)) ?_
      refine O.pu (Pu.assign (.tmp (v:=.bool _) rfl)) ?_
      refine O.nil ?_
      refine X.ret ?_
      cases h
      exact E.fin [] (.tmp (v:=.bool _) rfl .nil) (.cons (.cl .bool) .nil)
end Go.Proofs.Ytkoccekiojhidaa
