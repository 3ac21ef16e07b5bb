-- Joined of: G16 G7
import Derived.Test.YtkoccekiojhidaaC82bJG2
import Derived.Test.YtkoccekiojhidaaC82bJG3
section
namespace Go.Proofs.Ytkoccekiojhidaa
open Go.AVL Go.RowKit Go.Proofs.Ytkoccekiojhidaa.F Go.Proofs.YtkoccekiojhidaaX Go.Proofs.YtkoccekiojhidaaW.PrintWords Go.Proofs.YtkoccekiojhidaaW.PrintLast Go.Proofs.YtkoccekiojhidaaW.PrintMore
set_option linter.unusedVariables false
set_option linter.unusedSimpArgs false
set_option maxRecDepth 100000
set_option maxHeartbeats 4000000
noncomputable def c16:Code:=Try.f16.body.getD .skip
theorem fn16:FnOk Try.prog 16 Try.f16 c16:=⟨Try.func16,rfl,by kernel_rfl,by kernel_rfl,mixed⟩
theorem frac_From.cs {l0_0:List Int} {a0_1:Bool} {r:List Int×Bool×List Int} (h:frac_From.f l0_0 a0_1=some r):CS Try.prog 16 [.agg [.fi .u64 l0_0, .bool a0_1]] .no [.agg [.fi .u64 r.1, .bool r.2.1, .fi .u64 r.2.2]]:=by
  unfold frac_From.f at h
  refine E.pure fn16 rfl ?_
  refine X.seq ?_
  refine X.still ?_
  refine O.puE (v':=.op 1 (1) 0 0) (b':=⟨1, .own,_,_⟩) (Pu.box (.tmp (v:=.agg _) rfl) rfl rfl) rfl rfl ?_
  refine O.puE (v':=.op 2 (1) 0 0) (b':=⟨1, .own,(.vals [.agg [.fi .u64 [], .bool false, .fi .u64 []]]),_⟩) Pu.alloc rfl rfl ?_
  refine O.nil ?_
  refine X.seq ?_
  refine X.still ?_
  refine O.pu (U.load (.tmp rfl) rfl rfl (U.whole rfl rfl)) ?_
  refine O.pu (Pu.build rfl (.cons (.tmp (v:=.agg _) rfl) rfl rfl rfl (.put (.put .done)) .nil)) ?_
  refine O.ef0 (U.storeE (.tmp rfl) rfl rfl (.tmp (v:=.agg _) rfl) rfl rfl (.whole (notBad_ne rfl) rfl) .one) ?_
  refine O.nil ?_
  refine X.ret ?_
  cases h
  exact E.fin [] (.cell rfl rfl (Mode.live_ne rfl) (U.whole rfl rfl) .nil) (.cons (.cl (.aggL (.cons .fi (.cons .bool (.cons .fi .nil))))) .nil)
noncomputable def c7:Code:=Try.f7.body.getD .skip
theorem fn7:FnOk Try.prog 7 Try.f7 c7:=⟨Try.func7,rfl,by kernel_rfl,by kernel_rfl,mixed⟩
theorem chattellaw05_FracMiddle.cs {k:Nat} {l0_0:List Int} {l0_1:List Int} {a0_2:Bool} {l1_0:List Int} {l1_1:List Int} {a1_2:Bool} {l2_0:List Int} {l2_1:List Int} {a2_2:Bool} {r:Bool} (h:chattellaw05_FracMiddle.f k l0_0 l0_1 a0_2 l1_0 l1_1 a1_2 l2_0 l2_1 a2_2=some r):CS Try.prog 7 [.agg [.fi .u64 l0_0, .fi .u64 l0_1, .bool a0_2], .agg [.fi .u64 l1_0, .fi .u64 l1_1, .bool a1_2], .agg [.fi .u64 l2_0, .fi .u64 l2_1, .bool a2_2]] .no [.bool r]:=by
  unfold chattellaw05_FracMiddle.f at h
  refine E.pure fn7 rfl ?_
  refine X.seq ?_
  refine X.still ?_
  refine O.puE (v':=.op 3 (1) 0 0) (b':=⟨1, .own,_,_⟩) (Pu.box (.tmp (v:=.agg _) rfl) rfl rfl) rfl rfl ?_
  refine O.puE (v':=.op 4 (1) 0 0) (b':=⟨1, .own,_,_⟩) (Pu.box (.tmp (v:=.agg _) rfl) rfl rfl) rfl rfl ?_
  refine O.puE (v':=.op 5 (1) 0 0) (b':=⟨1, .own,_,_⟩) (Pu.box (.tmp (v:=.agg _) rfl) rfl rfl) rfl rfl ?_
  refine O.pu (Pu.assign .bool) ?_
  refine O.nil ?_
  refine X.seq ?_
  refine X.still ?_
  refine O.pu (U.load (.tmp rfl) rfl rfl (U.whole rfl rfl)) ?_
  obtain ⟨q1,Hq1,h⟩:=Option.bind_eq_some_iff.1 h
  refine O.pu (U.call (ss:=[]) (.cons (.tmp (v:=.agg _) rfl) .nil) (.cons (.cl (.aggL (.cons .fi (.cons .fi (.cons .bool .nil))))) .nil) (chattellaw05_num.cs Hq1) (.inl rfl) (.tupL (.cons (.aggL (.cons .fi (.cons .bool (.cons .fi .nil)))) (.cons (.aggL (.cons .fi (.cons .bool (.cons .fi .nil)))) .nil)))) ?_
  refine O.pu (Pu.move (.tmp (v:=.tup _) rfl)) ?_
  refine O.pu (Pu.extract (.tmp rfl) rfl) ?_
  refine O.pu (Pu.extract (.tmp rfl) rfl) ?_
  refine O.puE (v':=.op 7 (1) 0 0) (b':=⟨1, .own,(.vals [.agg [.fi .u64 [], .bool false, .fi .u64 []]]),_⟩) Pu.alloc rfl rfl ?_
  refine O.puE (v':=.op 8 (1) 0 0) (b':=⟨1, .own,(.vals [.agg [.fi .i64 [], .bool false, .fi .i64 []]]),_⟩) Pu.alloc rfl rfl ?_
  refine O.ef0 (U.storeE (.tmp rfl) rfl rfl (.tmp (v:=.agg _) rfl) rfl rfl (.whole (notBad_ne rfl) rfl) .one) ?_
  refine O.ef0 (U.storeE (.tmp rfl) rfl rfl (.tmp (v:=.agg _) rfl) rfl rfl (.whole (notBad_ne rfl) rfl) .one) ?_
  refine O.nil ?_
  refine X.seq ?_
  refine X.still ?_
  refine O.pu (U.load (.tmp rfl) rfl rfl (U.whole rfl rfl)) ?_
  obtain ⟨q2,Hq2,h⟩:=Option.bind_eq_some_iff.1 h
  refine O.pu (U.call (ss:=[]) (.cons (.tmp (v:=.agg _) rfl) .nil) (.cons (.cl (.aggL (.cons .fi (.cons .fi (.cons .bool .nil))))) .nil) (chattellaw05_num.cs Hq2) (.inl rfl) (.tupL (.cons (.aggL (.cons .fi (.cons .bool (.cons .fi .nil)))) (.cons (.aggL (.cons .fi (.cons .bool (.cons .fi .nil)))) .nil)))) ?_
  refine O.pu (Pu.move (.tmp (v:=.tup _) rfl)) ?_
  refine O.pu (Pu.extract (.tmp rfl) rfl) ?_
  refine O.pu (Pu.extract (.tmp rfl) rfl) ?_
  refine O.puE (v':=.op 9 (1) 0 0) (b':=⟨1, .own,(.vals [.agg [.fi .u64 [], .bool false, .fi .u64 []]]),_⟩) Pu.alloc rfl rfl ?_
  refine O.puE (v':=.op 10 (1) 0 0) (b':=⟨1, .own,(.vals [.agg [.fi .i64 [], .bool false, .fi .i64 []]]),_⟩) Pu.alloc rfl rfl ?_
  refine O.ef0 (U.storeE (.tmp rfl) rfl rfl (.tmp (v:=.agg _) rfl) rfl rfl (.whole (notBad_ne rfl) rfl) .one) ?_
  refine O.ef0 (U.storeE (.tmp rfl) rfl rfl (.tmp (v:=.agg _) rfl) rfl rfl (.whole (notBad_ne rfl) rfl) .one) ?_
  refine O.nil ?_
  refine X.seq ?_
  refine X.still ?_
  refine O.pu (U.load (.tmp rfl) rfl rfl (U.whole rfl rfl)) ?_
  obtain ⟨q3,Hq3,h⟩:=Option.bind_eq_some_iff.1 h
  refine O.pu (U.call (ss:=[]) (.cons (.tmp (v:=.agg _) rfl) .nil) (.cons (.cl (.aggL (.cons .fi (.cons .fi (.cons .bool .nil))))) .nil) (chattellaw05_num.cs Hq3) (.inl rfl) (.tupL (.cons (.aggL (.cons .fi (.cons .bool (.cons .fi .nil)))) (.cons (.aggL (.cons .fi (.cons .bool (.cons .fi .nil)))) .nil)))) ?_
  refine O.pu (Pu.move (.tmp (v:=.tup _) rfl)) ?_
  refine O.pu (Pu.extract (.tmp rfl) rfl) ?_
  refine O.pu (Pu.extract (.tmp rfl) rfl) ?_
  refine O.puE (v':=.op 11 (1) 0 0) (b':=⟨1, .own,(.vals [.agg [.fi .u64 [], .bool false, .fi .u64 []]]),_⟩) Pu.alloc rfl rfl ?_
  refine O.puE (v':=.op 12 (1) 0 0) (b':=⟨1, .own,(.vals [.agg [.fi .i64 [], .bool false, .fi .i64 []]]),_⟩) Pu.alloc rfl rfl ?_
  refine O.ef0 (U.storeE (.tmp rfl) rfl rfl (.tmp (v:=.agg _) rfl) rfl rfl (.whole (notBad_ne rfl) rfl) .one) ?_
  refine O.ef0 (U.storeE (.tmp rfl) rfl rfl (.tmp (v:=.agg _) rfl) rfl rfl (.whole (notBad_ne rfl) rfl) .one) ?_
  refine O.nil ?_
  refine X.seq ?_
  refine X.still ?_
  refine O.pu (U.load (.tmp rfl) rfl rfl (U.whole rfl rfl)) ?_
  refine O.pu (U.load (.tmp rfl) rfl rfl (U.whole rfl rfl)) ?_
  obtain ⟨q4,Hq4,h⟩:=Option.bind_eq_some_iff.1 h
  refine O.pu (U.call (ss:=[]) (.cons (.tmp (v:=.agg _) rfl) (.cons (.tmp (v:=.agg _) rfl) .nil)) (.cons (.cl (.aggL (.cons .fi (.cons .bool (.cons .fi .nil))))) (.cons (.cl (.aggL (.cons .fi (.cons .bool (.cons .fi .nil))))) .nil)) (frac_Frac_Add.cs Hq4) (.inl rfl) (.aggL (.cons .fi (.cons .bool (.cons .fi .nil))))) ?_
  obtain ⟨q5,Hq5,h⟩:=Option.bind_eq_some_iff.1 h
  refine O.pu (U.call (ss:=[]) (.cons .int .nil) (.cons (.cl .int) .nil) (whole_From.cs Hq5) (.inl rfl) (.aggL (.cons .fi (.cons .bool .nil)))) ?_
  obtain ⟨q6,Hq6,h⟩:=Option.bind_eq_some_iff.1 h
  refine O.pu (U.call (ss:=[]) (.cons (.tmp (v:=.agg _) rfl) .nil) (.cons (.cl (.aggL (.cons .fi (.cons .bool .nil)))) .nil) (frac_From.cs Hq6) (.inl rfl) (.aggL (.cons .fi (.cons .bool (.cons .fi .nil))))) ?_
  obtain ⟨q7,Hq7,h⟩:=Option.bind_eq_some_iff.1 h
  refine O.pu (U.call (ss:=[]) (.cons (.tmp (v:=.agg _) rfl) (.cons (.tmp (v:=.agg _) rfl) .nil)) (.cons (.cl (.aggL (.cons .fi (.cons .bool (.cons .fi .nil))))) (.cons (.cl (.aggL (.cons .fi (.cons .bool (.cons .fi .nil))))) .nil)) (frac_Frac_Quo.cs Hq7) (.inl rfl) (.tupL (.cons (.aggL (.cons .fi (.cons .bool (.cons .fi .nil)))) (.cons .int .nil)))) ?_
  refine O.pu (Pu.move (.tmp (v:=.tup _) rfl)) ?_
  refine O.pu (Pu.extract (.tmp rfl) rfl) ?_
  refine O.pu (Pu.extract (.tmp rfl) rfl) ?_
  refine O.puE (v':=.op 13 (1) 0 0) (b':=⟨1, .own,(.vals [.agg [.fi .u64 [], .bool false, .fi .u64 []]]),_⟩) Pu.alloc rfl rfl ?_
  refine O.ef0 (U.storeE (.tmp rfl) rfl rfl (.tmp (v:=.agg _) rfl) rfl rfl (.whole (notBad_ne rfl) rfl) .one) ?_
  refine O.pu (Pu.assign (.tmp (v:=.int _ _) rfl)) ?_
  refine O.nil ?_
  refine X.seq ?_
  refine X.still ?_
  refine O.pu (U.load (.tmp rfl) rfl rfl (U.whole rfl rfl)) ?_
  refine O.pu (U.load (.tmp rfl) rfl rfl (U.whole rfl rfl)) ?_
  obtain ⟨q8,Hq8,h⟩:=Option.bind_eq_some_iff.1 h
  refine O.pu (U.call (ss:=[]) (.cons (.tmp (v:=.agg _) rfl) (.cons (.tmp (v:=.agg _) rfl) .nil)) (.cons (.cl (.aggL (.cons .fi (.cons .bool (.cons .fi .nil))))) (.cons (.cl (.aggL (.cons .fi (.cons .bool (.cons .fi .nil))))) .nil)) (frac_Frac_Cmp.cs Hq8) (.inl rfl) (.int)) ?_
  refine O.pu (Pu.assign (.tmp (v:=.int _ _) rfl)) ?_
  refine O.nil ?_
  refine X.seq ?_
  refine X.drawn ?_
  obtain ⟨q9,Hq9,h⟩:=Option.bind_eq_some_iff.1 h
  refine D.pu (U.call (ss:=[]) .nil .nil (chattellaw05_wakes.cs Hq9) (.inl rfl) (.bool)) ?_
  refine D.pu (Pu.move (.tmp (v:=.bool _) rfl)) ?_
  refine D.split (fun c=>?_) (fun c=>?_)
  · rw [if_pos c] at h
    refine D.gpu (W.t rfl rfl) (Pu.move (.tmp (v:=.int _ _) rfl)) ?_
    refine D.gpu (W.t rfl rfl) (Pu.bin (.tmp rfl) .int .eql) ?_
    refine D.pu (Pu.pickT (.tmp rfl) (.tmp (v:=.bool _) rfl)) ?_
    refine D.pu (Pu.move (.tmp (v:=.bool _) rfl)) ?_
    refine D.splitE (fun c=>?_) (fun c=>?_)
    · rw [if_pos c] at h
      refine D.gpu (W.t rfl rfl) (U.load (.tmp rfl) rfl rfl (U.whole rfl rfl)) ?_
      refine D.gpu (W.t rfl rfl) (U.load (.tmp rfl) rfl rfl (U.whole rfl rfl)) ?_
      obtain ⟨q10,Hq10,h⟩:=Option.bind_eq_some_iff.1 h
      refine D.gpu (W.t rfl rfl) (U.call (ss:=[]) (.cons (.tmp (v:=.agg _) rfl) (.cons (.tmp (v:=.agg _) rfl) .nil)) (.cons (.cl (.aggL (.cons .fi (.cons .bool (.cons .fi .nil))))) (.cons (.cl (.aggL (.cons .fi (.cons .bool (.cons .fi .nil))))) .nil)) (frac_Frac_Cmp.cs Hq10) (.inl rfl) (.int)) ?_
      refine D.gpu (W.t rfl rfl) (Pu.move (.tmp (v:=.int _ _) rfl)) ?_
      refine D.gpu (W.t rfl rfl) (Pu.bin (.tmp rfl) (.tmp rfl) .eql) ?_
      refine D.pu (Pu.pickT (.tmp rfl) (.tmp (v:=.bool _) rfl)) ?_
      refine D.pu (Pu.move (.tmp (v:=.bool _) rfl)) ?_
      refine D.splitE (fun c=>?_) (fun c=>?_)
      · rw [if_pos c] at h
        refine D.gpu (W.t rfl rfl) (U.load (.tmp rfl) rfl rfl (U.whole rfl rfl)) ?_
        refine D.gpu (W.t rfl rfl) (U.load (.tmp rfl) rfl rfl (U.whole rfl rfl)) ?_
        obtain ⟨q11,Hq11,h⟩:=Option.bind_eq_some_iff.1 h
        refine D.gpu (W.t rfl rfl) (U.call (ss:=[]) (.cons (.tmp (v:=.agg _) rfl) (.cons (.tmp (v:=.agg _) rfl) .nil)) (.cons (.cl (.aggL (.cons .fi (.cons .bool (.cons .fi .nil))))) (.cons (.cl (.aggL (.cons .fi (.cons .bool (.cons .fi .nil))))) .nil)) (frac_Frac_Cmp.cs Hq11) (.inl rfl) (.int)) ?_
        refine D.gpu (W.t rfl rfl) (Pu.move (.tmp (v:=.int _ _) rfl)) ?_
        refine D.gpu (W.t rfl rfl) (Pu.bin (.tmp rfl) (.tmp rfl) .eql) ?_
        refine D.pu (Pu.pickT (.tmp rfl) (.tmp (v:=.bool _) rfl)) ?_
        refine D.pu (Pu.move (.tmp (v:=.bool _) rfl)) ?_
        refine D.splitE (fun c=>?_) (fun c=>?_)
        · rw [if_pos c] at h
          refine D.gpu (W.t rfl rfl) (U.load (.tmp rfl) rfl rfl (U.whole rfl rfl)) ?_
          refine D.gpu (W.t rfl rfl) (U.load (.tmp rfl) rfl rfl (U.whole rfl rfl)) ?_
          obtain ⟨q12,Hq12,h⟩:=Option.bind_eq_some_iff.1 h
          refine D.gpu (W.t rfl rfl) (U.call (ss:=[]) (.cons (.tmp (v:=.agg _) rfl) (.cons (.tmp (v:=.agg _) rfl) .nil)) (.cons (.cl (.aggL (.cons .fi (.cons .bool (.cons .fi .nil))))) (.cons (.cl (.aggL (.cons .fi (.cons .bool (.cons .fi .nil))))) .nil)) (frac_Frac_Add.cs Hq12) (.inl rfl) (.aggL (.cons .fi (.cons .bool (.cons .fi .nil))))) ?_
          refine D.gpu (W.t rfl rfl) (U.load (.tmp rfl) rfl rfl (U.whole rfl rfl)) ?_
          refine D.gpu (W.t rfl rfl) (U.load (.tmp rfl) rfl rfl (U.whole rfl rfl)) ?_
          obtain ⟨q13,Hq13,h⟩:=Option.bind_eq_some_iff.1 h
          refine D.gpu (W.t rfl rfl) (U.call (ss:=[]) (.cons (.tmp (v:=.agg _) rfl) (.cons (.tmp (v:=.agg _) rfl) .nil)) (.cons (.cl (.aggL (.cons .fi (.cons .bool (.cons .fi .nil))))) (.cons (.cl (.aggL (.cons .fi (.cons .bool (.cons .fi .nil))))) .nil)) (frac_Frac_Add.cs Hq13) (.inl rfl) (.aggL (.cons .fi (.cons .bool (.cons .fi .nil))))) ?_
          obtain ⟨q14,Hq14,h⟩:=Option.bind_eq_some_iff.1 h
          refine D.gpu (W.t rfl rfl) (U.call (ss:=[]) (.cons (.tmp (v:=.agg _) rfl) (.cons (.tmp (v:=.agg _) rfl) .nil)) (.cons (.cl (.aggL (.cons .fi (.cons .bool (.cons .fi .nil))))) (.cons (.cl (.aggL (.cons .fi (.cons .bool (.cons .fi .nil))))) .nil)) (frac_Frac_Cmp.cs Hq14) (.inl rfl) (.int)) ?_
          refine D.gpu (W.t rfl rfl) (Pu.move (.tmp (v:=.int _ _) rfl)) ?_
          refine D.gpu (W.t rfl rfl) (Pu.bin (.tmp rfl) (.tmp rfl) .eql) ?_
          refine D.pu (Pu.pickT (.tmp rfl) (.tmp (v:=.bool _) rfl)) ?_
          refine D.pu (Pu.move (.tmp (v:=.bool _) rfl)) ?_
          refine D.splitE (fun c=>?_) (fun c=>?_)
          · rw [if_pos c] at h
            refine D.gpu (W.t rfl rfl) (U.load (.tmp rfl) rfl rfl (U.whole rfl rfl)) ?_
            obtain ⟨q15,Hq15,h⟩:=Option.bind_eq_some_iff.1 h
            refine D.gpu (W.t rfl rfl) (U.call (ss:=[]) (.cons (.tmp (v:=.agg _) rfl) .nil) (.cons (.cl (.aggL (.cons .fi (.cons .bool (.cons .fi .nil))))) .nil) (frac_Frac_Neg.cs Hq15) (.inl rfl) (.aggL (.cons .fi (.cons .bool (.cons .fi .nil))))) ?_
            refine D.gpu (W.t rfl rfl) (U.load (.tmp rfl) rfl rfl (U.whole rfl rfl)) ?_
            obtain ⟨q16,Hq16,h⟩:=Option.bind_eq_some_iff.1 h
            refine D.gpu (W.t rfl rfl) (U.call (ss:=[]) (.cons (.tmp (v:=.agg _) rfl) .nil) (.cons (.cl (.aggL (.cons .fi (.cons .bool (.cons .fi .nil))))) .nil) (frac_Frac_Neg.cs Hq16) (.inl rfl) (.aggL (.cons .fi (.cons .bool (.cons .fi .nil))))) ?_
            obtain ⟨q17,Hq17,h⟩:=Option.bind_eq_some_iff.1 h
            refine D.gpu (W.t rfl rfl) (U.call (ss:=[]) (.cons (.tmp (v:=.agg _) rfl) (.cons (.tmp (v:=.agg _) rfl) .nil)) (.cons (.cl (.aggL (.cons .fi (.cons .bool (.cons .fi .nil))))) (.cons (.cl (.aggL (.cons .fi (.cons .bool (.cons .fi .nil))))) .nil)) (frac_Frac_Cmp.cs Hq17) (.inl rfl) (.int)) ?_
            refine D.gpu (W.t rfl rfl) (Pu.move (.tmp (v:=.int _ _) rfl)) ?_
            refine D.gpu (W.t rfl rfl) (Pu.un (.tmp rfl) U.neg64) ?_
            refine D.gpu (W.t rfl rfl) (Pu.bin (.tmp rfl) (.tmp rfl) .eql) ?_
            refine D.pu (Pu.pickT (.tmp rfl) (.tmp (v:=.bool _) rfl)) ?_
            refine D.pu (Pu.move (.tmp (v:=.bool _) rfl)) ?_
            refine D.splitE (fun c=>?_) (fun c=>?_)
            · rw [if_pos c] at h
              refine D.gpu (W.t rfl rfl) (U.load (.tmp rfl) rfl rfl (U.whole rfl rfl)) ?_
              refine D.gpu (W.t rfl rfl) (U.load (.tmp rfl) rfl rfl (U.whole rfl rfl)) ?_
              obtain ⟨q18,Hq18,h⟩:=Option.bind_eq_some_iff.1 h
              refine D.gpu (W.t rfl rfl) (U.call (ss:=[]) (.cons (.tmp (v:=.agg _) rfl) (.cons (.tmp (v:=.agg _) rfl) .nil)) (.cons (.cl (.aggL (.cons .fi (.cons .bool (.cons .fi .nil))))) (.cons (.cl (.aggL (.cons .fi (.cons .bool (.cons .fi .nil))))) .nil)) (frac_Frac_Mul.cs Hq18) (.inl rfl) (.aggL (.cons .fi (.cons .bool (.cons .fi .nil))))) ?_
              obtain ⟨q19,Hq19,h⟩:=Option.bind_eq_some_iff.1 h
              refine D.gpu (W.t rfl rfl) (U.call (ss:=[]) (.cons (.tmp (v:=.agg _) rfl) .nil) (.cons (.cl (.aggL (.cons .fi (.cons .bool (.cons .fi .nil))))) .nil) (frac_Frac_Sign.cs Hq19) (.inl rfl) (.int)) ?_
              refine D.gpu (W.t rfl rfl) (Pu.bin (.tmp rfl) .int .geq) ?_
              refine D.pu (Pu.pickT (.tmp rfl) (.tmp (v:=.bool _) rfl)) ?_
              refine D.pu (Pu.assign (.tmp (v:=.bool _) rfl)) ?_
              refine D.nil (by kernel_rfl) ?_
              refine X.ret ?_
              cases h
              exact E.fin [] (.tmp (v:=.bool _) rfl .nil) (.cons (.cl .bool) .nil)
            · rw [if_neg c] at h
              refine D.gskip (W.f rfl rfl rfl) ?_
              refine D.gskip (W.f rfl rfl rfl) ?_
              refine D.gskip (W.f rfl rfl rfl) ?_
              refine D.gskip (W.f rfl rfl rfl) ?_
              refine D.gskip (W.f rfl rfl rfl) ?_
              refine D.pu (Pu.pickF (.tmp rfl) .bool) ?_
              refine D.pu (Pu.assign (.tmp (v:=.bool _) rfl)) ?_
              refine D.nil (by kernel_rfl) ?_
              refine X.ret ?_
              cases h
              exact E.fin [] (.tmp (v:=.bool _) rfl .nil) (.cons (.cl .bool) .nil)
          · rw [if_neg c] at h
            refine D.gskip (W.f rfl rfl rfl) ?_
            refine D.gskip (W.f rfl rfl rfl) ?_
            refine D.gskip (W.f rfl rfl rfl) ?_
            refine D.gskip (W.f rfl rfl rfl) ?_
            refine D.gskip (W.f rfl rfl rfl) ?_
            refine D.gskip (W.f rfl rfl rfl) ?_
            refine D.gskip (W.f rfl rfl rfl) ?_
            refine D.gskip (W.f rfl rfl rfl) ?_
            refine D.pu (Pu.pickF (.tmp rfl) .bool) ?_
            refine D.pu (Pu.move (.tmp (v:=.bool _) rfl)) ?_
            refine D.gskip (W.f rfl rfl rfl) ?_
            refine D.gskip (W.f rfl rfl rfl) ?_
            refine D.gskip (W.f rfl rfl rfl) ?_
            refine D.gskip (W.f rfl rfl rfl) ?_
            refine D.gskip (W.f rfl rfl rfl) ?_
            refine D.pu (Pu.pickF (.tmp rfl) .bool) ?_
            refine D.pu (Pu.assign (.tmp (v:=.bool _) rfl)) ?_
            refine D.nil (by kernel_rfl) ?_
            refine X.ret ?_
            cases h
            exact E.fin [] (.tmp (v:=.bool _) rfl .nil) (.cons (.cl .bool) .nil)
        · rw [if_neg c] at h
          refine D.gskip (W.f rfl rfl rfl) ?_
          refine D.gskip (W.f rfl rfl rfl) ?_
          refine D.gskip (W.f rfl rfl rfl) ?_
          refine D.gskip (W.f rfl rfl rfl) ?_
          refine D.gskip (W.f rfl rfl rfl) ?_
          refine D.gskip (W.f rfl rfl rfl) ?_
          refine D.gskip (W.f rfl rfl rfl) ?_
          refine D.gskip (W.f rfl rfl rfl) ?_
          refine D.gskip (W.f rfl rfl rfl) ?_
          refine D.pu (Pu.pickF (.tmp rfl) .bool) ?_
          refine D.pu (Pu.move (.tmp (v:=.bool _) rfl)) ?_
          refine D.gskip (W.f rfl rfl rfl) ?_
          refine D.gskip (W.f rfl rfl rfl) ?_
          refine D.gskip (W.f rfl rfl rfl) ?_
          refine D.gskip (W.f rfl rfl rfl) ?_
          refine D.gskip (W.f rfl rfl rfl) ?_
          refine D.gskip (W.f rfl rfl rfl) ?_
          refine D.gskip (W.f rfl rfl rfl) ?_
          refine D.gskip (W.f rfl rfl rfl) ?_
          refine D.pu (Pu.pickF (.tmp rfl) .bool) ?_
          refine D.pu (Pu.move (.tmp (v:=.bool _) rfl)) ?_
          refine D.gskip (W.f rfl rfl rfl) ?_
          refine D.gskip (W.f rfl rfl rfl) ?_
          refine D.gskip (W.f rfl rfl rfl) ?_
          refine D.gskip (W.f rfl rfl rfl) ?_
          refine D.gskip (W.f rfl rfl rfl) ?_
          refine D.pu (Pu.pickF (.tmp rfl) .bool) ?_
          refine D.pu (Pu.assign (.tmp (v:=.bool _) rfl)) ?_
          refine D.nil (by kernel_rfl) ?_
          refine X.ret ?_
          cases h
          exact E.fin [] (.tmp (v:=.bool _) rfl .nil) (.cons (.cl .bool) .nil)
      · rw [if_neg c] at h
        refine D.gskip (W.f rfl rfl rfl) ?_
        refine D.gskip (W.f rfl rfl rfl) ?_
        refine D.gskip (W.f rfl rfl rfl) ?_
        refine D.gskip (W.f rfl rfl rfl) ?_
        refine D.gskip (W.f rfl rfl rfl) ?_
        refine D.pu (Pu.pickF (.tmp rfl) .bool) ?_
        refine D.pu (Pu.move (.tmp (v:=.bool _) rfl)) ?_
        refine D.gskip (W.f rfl rfl rfl) ?_
        refine D.gskip (W.f rfl rfl rfl) ?_
        refine D.gskip (W.f rfl rfl rfl) ?_
        refine D.gskip (W.f rfl rfl rfl) ?_
        refine D.gskip (W.f rfl rfl rfl) ?_
        refine D.gskip (W.f rfl rfl rfl) ?_
        refine D.gskip (W.f rfl rfl rfl) ?_
        refine D.gskip (W.f rfl rfl rfl) ?_
        refine D.gskip (W.f rfl rfl rfl) ?_
        refine D.pu (Pu.pickF (.tmp rfl) .bool) ?_
        refine D.pu (Pu.move (.tmp (v:=.bool _) rfl)) ?_
        refine D.gskip (W.f rfl rfl rfl) ?_
        refine D.gskip (W.f rfl rfl rfl) ?_
        refine D.gskip (W.f rfl rfl rfl) ?_
        refine D.gskip (W.f rfl rfl rfl) ?_
        refine D.gskip (W.f rfl rfl rfl) ?_
        refine D.gskip (W.f rfl rfl rfl) ?_
        refine D.gskip (W.f rfl rfl rfl) ?_
        refine D.gskip (W.f rfl rfl rfl) ?_
        refine D.pu (Pu.pickF (.tmp rfl) .bool) ?_
        refine D.pu (Pu.move (.tmp (v:=.bool _) rfl)) ?_
        refine D.gskip (W.f rfl rfl rfl) ?_
        refine D.gskip (W.f rfl rfl rfl) ?_
        refine D.gskip (W.f rfl rfl rfl) ?_
        refine D.gskip (W.f rfl rfl rfl) ?_
        refine D.gskip (W.f rfl rfl rfl) ?_
        refine D.pu (Pu.pickF (.tmp rfl) .bool) ?_
        refine D.pu (Pu.assign (.tmp (v:=.bool _) rfl)) ?_
        refine D.nil (by kernel_rfl) ?_
        refine X.ret ?_
        cases h
        exact E.fin [] (.tmp (v:=.bool _) rfl .nil) (.cons (.cl .bool) .nil)
    · rw [if_neg c] at h
      refine D.gskip (W.f rfl rfl rfl) ?_
      refine D.gskip (W.f rfl rfl rfl) ?_
      refine D.gskip (W.f rfl rfl rfl) ?_
      refine D.gskip (W.f rfl rfl rfl) ?_
      refine D.gskip (W.f rfl rfl rfl) ?_
      refine D.pu (Pu.pickF (.tmp rfl) .bool) ?_
      refine D.pu (Pu.move (.tmp (v:=.bool _) rfl)) ?_
      refine D.gskip (W.f rfl rfl rfl) ?_
      refine D.gskip (W.f rfl rfl rfl) ?_
      refine D.gskip (W.f rfl rfl rfl) ?_
      refine D.gskip (W.f rfl rfl rfl) ?_
      refine D.gskip (W.f rfl rfl rfl) ?_
      refine D.pu (Pu.pickF (.tmp rfl) .bool) ?_
      refine D.pu (Pu.move (.tmp (v:=.bool _) rfl)) ?_
      refine D.gskip (W.f rfl rfl rfl) ?_
      refine D.gskip (W.f rfl rfl rfl) ?_
      refine D.gskip (W.f rfl rfl rfl) ?_
      refine D.gskip (W.f rfl rfl rfl) ?_
      refine D.gskip (W.f rfl rfl rfl) ?_
      refine D.gskip (W.f rfl rfl rfl) ?_
      refine D.gskip (W.f rfl rfl rfl) ?_
      refine D.gskip (W.f rfl rfl rfl) ?_
      refine D.gskip (W.f rfl rfl rfl) ?_
      refine D.pu (Pu.pickF (.tmp rfl) .bool) ?_
      refine D.pu (Pu.move (.tmp (v:=.bool _) rfl)) ?_
      refine D.gskip (W.f rfl rfl rfl) ?_
      refine D.gskip (W.f rfl rfl rfl) ?_
      refine D.gskip (W.f rfl rfl rfl) ?_
      refine D.gskip (W.f rfl rfl rfl) ?_
      refine D.gskip (W.f rfl rfl rfl) ?_
      refine D.gskip (W.f rfl rfl rfl) ?_
      refine D.gskip (W.f rfl rfl rfl) ?_
      refine D.gskip (W.f rfl rfl rfl) ?_
      refine D.pu (Pu.pickF (.tmp rfl) .bool) ?_
      refine D.pu (Pu.move (.tmp (v:=.bool _) rfl)) ?_
      refine D.gskip (W.f rfl rfl rfl) ?_
      refine D.gskip (W.f rfl rfl rfl) ?_
      refine D.gskip (W.f rfl rfl rfl) ?_
      refine D.gskip (W.f rfl rfl rfl) ?_
      refine D.gskip (W.f rfl rfl rfl) ?_
      refine D.pu (Pu.pickF (.tmp rfl) .bool) ?_
      refine D.pu (Pu.assign (.tmp (v:=.bool _) rfl)) ?_
      refine D.nil (by kernel_rfl) ?_
      refine X.ret ?_
      cases h
      exact E.fin [] (.tmp (v:=.bool _) rfl .nil) (.cons (.cl .bool) .nil)
  · rw [if_neg (bf c)] at h
    refine D.gskip (W.f rfl rfl rfl) ?_
    refine D.gskip (W.f rfl rfl rfl) ?_
    refine D.pu (Pu.pickF (.tmp rfl) .bool) ?_
    refine D.pu (Pu.move (.tmp (v:=.bool _) rfl)) ?_
    refine D.gskip (W.f rfl rfl rfl) ?_
    refine D.gskip (W.f rfl rfl rfl) ?_
    refine D.gskip (W.f rfl rfl rfl) ?_
    refine D.gskip (W.f rfl rfl rfl) ?_
    refine D.gskip (W.f rfl rfl rfl) ?_
    refine D.pu (Pu.pickF (.tmp rfl) .bool) ?_
    refine D.pu (Pu.move (.tmp (v:=.bool _) rfl)) ?_
    refine D.gskip (W.f rfl rfl rfl) ?_
    refine D.gskip (W.f rfl rfl rfl) ?_
    refine D.gskip (W.f rfl rfl rfl) ?_
    refine D.gskip (W.f rfl rfl rfl) ?_
    refine D.gskip (W.f rfl rfl rfl) ?_
    refine D.pu (Pu.pickF (.tmp rfl) .bool) ?_
    refine D.pu (Pu.move (.tmp (v:=.bool _) rfl)) ?_
    refine D.gskip (W.f rfl rfl rfl) ?_
    refine D.gskip (W.f rfl rfl rfl) ?_
    refine D.gskip (W.f rfl rfl rfl) ?_
    refine D.gskip (W.f rfl rfl rfl) ?_
    refine D.gskip (W.f rfl rfl rfl) ?_
    refine D.gskip (W.f rfl rfl rfl) ?_
    refine D.gskip (W.f rfl rfl rfl) ?_
    refine D.gskip (W.f rfl rfl rfl) ?_
    refine D.gskip (W.f rfl rfl rfl) ?_
    refine D.pu (Pu.pickF (.tmp rfl) .bool) ?_
    refine D.pu (Pu.move (.tmp (v:=.bool _) rfl)) ?_
    refine D.gskip (W.f rfl rfl rfl) ?_
    refine D.gskip (W.f rfl rfl rfl) ?_
    refine D.gskip (W.f rfl rfl rfl) ?_
    refine D.gskip (W.f rfl rfl rfl) ?_
    refine D.gskip (W.f rfl rfl rfl) ?_
    refine D.gskip (W.f rfl rfl rfl) ?_
    refine D.gskip (W.f rfl rfl rfl) ?_
    refine D.gskip (W.f rfl rfl rfl) ?_
    refine D.pu (Pu.pickF (.tmp rfl) .bool) ?_
    refine D.pu (Pu.move (.tmp (v:=.bool _) rfl)) ?_
    refine D.gskip (W.f rfl rfl rfl) ?_
    refine D.gskip (W.f rfl rfl rfl) ?_
    refine D.gskip (W.f rfl rfl rfl) ?_
    refine D.gskip (W.f rfl rfl rfl) ?_
    refine D.gskip (W.f rfl rfl rfl) ?_
    refine D.pu (Pu.pickF (.tmp rfl) .bool) ?_
    refine D.pu (Pu.assign (.tmp (v:=.bool _) rfl)) ?_
    refine D.nil (by kernel_rfl) ?_
    refine X.ret ?_
    cases h
    exact E.fin [] (.tmp (v:=.bool _) rfl .nil) (.cons (.cl .bool) .nil)
end Go.Proofs.Ytkoccekiojhidaa
end
