-- Joined of: G3 X6
import Derived.Test.YtiikhhemgplocaaCf3dJG3
import Derived.Test.YtiikhhemgplocaaCf3dJG2
import Derived.Test.YtiikhhemgplocaaCf3dWWords
section
namespace Go.Proofs.Ytiikhhemgplocaa
open Go.AVL Go.RowKit Go.Proofs.Ytiikhhemgplocaa.F Go.Proofs.YtiikhhemgplocaaX Go.Proofs.YtiikhhemgplocaaW.PrintWords Go.Proofs.YtiikhhemgplocaaW.PrintLast Go.Proofs.YtiikhhemgplocaaW.PrintMore
set_option linter.unusedVariables false
set_option linter.unusedSimpArgs false
set_option maxRecDepth 100000
set_option maxHeartbeats 4000000
theorem chattellaw13_PowerTells.j1_e {k y0 y1 y2 y3 y4 y5 y6 y7 y8 y9 y10 y11 y12 y13 y14 r}:(chattellaw13_PowerTells.j1 k y0 y1 y2 y3 y4 y5 y6 y7 y8 y9 y10 y11 y12 y13 y14=some r) = ∃ j,k=j + 1∧chattellaw13_PowerTells.j1 (j + 1) y0 y1 y2 y3 y4 y5 y6 y7 y8 y9 y10 y11 y12 y13 y14=some r:=propext ⟨fun h=>by cases k with|zero=>(unfold chattellaw13_PowerTells.j1 at h;cases h)|succ k=>exact ⟨k,rfl,h⟩,fun ⟨j,hj,h⟩=>by subst hj;exact h⟩
theorem chattellaw13_PowerTells.j2_e {k y0 y1 y2 y3 y4 y5 y6 y7 y8 y9 y10 y11 y12 y13 y14 r}:(chattellaw13_PowerTells.j2 k y0 y1 y2 y3 y4 y5 y6 y7 y8 y9 y10 y11 y12 y13 y14=some r) = ∃ j,k=j + 1∧chattellaw13_PowerTells.j2 (j + 1) y0 y1 y2 y3 y4 y5 y6 y7 y8 y9 y10 y11 y12 y13 y14=some r:=propext ⟨fun h=>by cases k with|zero=>(unfold chattellaw13_PowerTells.j2 at h;cases h)|succ k=>exact ⟨k,rfl,h⟩,fun ⟨j,hj,h⟩=>by subst hj;exact h⟩
noncomputable def c3:Code:=Try.f3.body.getD .skip
theorem fn3:FnOk Try.prog 3 Try.f3 c3:=⟨Try.func3,rfl,by kernel_rfl,by kernel_rfl,mixed⟩
theorem chattellaw13_PowerTells.cs {k:Nat} {a0:Int} {a1:Int} {a2:Int} {r:Bool} (h:chattellaw13_PowerTells.f k a0 a1 a2=some r):CS Try.prog 3 [.int .i32 a0, .int .i32 a1, .int .i64 a2] .no [.bool r]:=by
  unfold chattellaw13_PowerTells.f at h
  refine E.pure fn3 rfl ?_
  refine X.seq ?_
  refine X.still ?_
  refine O.pu (Pu.assign .bool) ?_
  refine O.nil ?_
  refine X.seq ?_
  refine X.still ?_
  refine O.pu (Pu.move (.tmp (v:=.int _ _) rfl)) ?_
  refine O.pu (U.conv64 rfl (.tmp rfl)) ?_
  refine O.pu (Pu.move (.tmp (v:=.int _ _) rfl)) ?_
  refine O.pu (U.conv64 rfl (.tmp rfl)) ?_
  refine O.pu (U.mx .int (.tmp rfl)) ?_
  refine O.pu (Pu.bin .int (.tmp rfl) U.add64) ?_
  obtain ⟨q1,Hq1,h⟩:=Option.bind_eq_some_iff.1 h
  refine O.pu (U.call (ss:=[]) (.cons (.tmp (v:=.int _ _) rfl) (.cons (.tmp (v:=.int _ _) rfl) .nil)) (.cons (.cl .int) (.cons (.cl .int) .nil)) (chattellaw13_of.cs Hq1) (.inl rfl) (.tupL (.cons (.aggL (.cons .fi (.cons .bool (.cons .fi .nil)))) (.cons (.aggL (.cons .fi (.cons .bool (.cons .fi .nil)))) .nil)))) ?_
  refine O.pu (Pu.move (.tmp (v:=.tup _) rfl)) ?_
  refine O.pu (Pu.extract (.tmp rfl) rfl) ?_
  refine O.pu (Pu.extract (.tmp rfl) rfl) ?_
  refine O.puE (v':=.op 7 (1) 0 0) (b':=⟨1, .own,(.vals [.agg [.fi .u64 [], .bool false, .fi .u64 []]]),_⟩) Pu.alloc rfl rfl ?_
  refine O.puE (v':=.op 8 (1) 0 0) (b':=⟨1, .own,(.vals [.agg [.fi .i64 [], .bool false, .fi .i64 []]]),_⟩) Pu.alloc rfl rfl ?_
  refine O.ef0 (U.storeE (.tmp rfl) rfl rfl (.tmp (v:=.agg _) rfl) rfl rfl (.whole (notBad_ne rfl) rfl) .one) ?_
  refine O.ef0 (U.storeE (.tmp rfl) rfl rfl (.tmp (v:=.agg _) rfl) rfl rfl (.whole (notBad_ne rfl) rfl) .one) ?_
  refine O.nil ?_
  refine X.seq ?_
  refine X.seq ?_
  refine X.still ?_
  refine O.pu (Pu.move (.tmp (v:=.int _ _) rfl)) ?_
  refine O.pu (Pu.move (.tmp (v:=.int _ _) rfl)) ?_
  refine O.pu (U.mx .int (.tmp rfl)) ?_
  refine O.pu (Pu.bin (.tmp rfl) .int (U.remE (mx_pos _) (by omega))) ?_
  refine O.puE (v':=.os 32 (1) 0 _ true) (b':=⟨1, .own,_,_⟩) (U.litI rfl rfl (.cons (.tmp (v:=.int _ _) rfl) (.cons (.tmp (v:=.int _ _) rfl) .nil)) rfl rfl) rfl rfl ?_
  refine O.pu (Pu.lenO rfl (.tmp rfl)) ?_
  refine O.pu (Pu.move .int) ?_
  refine O.nil ?_
  refine X.block ?_
  repeat rw [bdff] at h
  refine X.inv (fun k s=>∃ x32 x33 x34 x1181000 x1181001 x1181002 x1182000 x1182001 x1182002 n32 u32 u7 u8,s.b 32=⟨u32, .own, .ints .i64 x32,3⟩∧s.t 32 = .os 32 u32 0 n32 true∧x32.length=n32∧s.t 33 = .int .i64 x33∧s.t 34 = .int .i64 x34∧s.t 7 = .op 7 u7 0 0∧s.b 7=⟨u7, .own, .vals [.agg [.fi .u64 x1181000, .bool x1181001, .fi .u64 x1181002]],28⟩∧s.t 8 = .op 8 u8 0 0∧s.b 8=⟨u8, .own, .vals [.agg [.fi .i64 x1182000, .bool x1182001, .fi .i64 x1182002]],33⟩∧chattellaw13_PowerTells.l0 k x32 x33 x34 x1181000 x1181001 x1181002 x1182000 x1182001 x1182002=some r) ?_ ?_ ⟨_,_,_,_,_,_,_,_,_,_,_,_,_,rfl,rfl,rfl,rfl,rfl,rfl,rfl,rfl,rfl,h⟩
  · rintro s ⟨_,_,_,_,_,_,_,_,_,_,_,_,_,_,_,_,_,_,_,_,_,_,h⟩;unfold chattellaw13_PowerTells.l0 at h;cases h
  · rintro k1 s1 ⟨x32,x33,x34,x1181000,x1181001,x1181002,x1182000,x1182001,x1182002,n32,u32,u7,u8,e0,e1,rfl,e3,e4,e5,e6,e7,e8,h⟩
    unfold chattellaw13_PowerTells.l0 at h
    rw [St.fixB e0,St.fixT e1,St.fixT e3,St.fixT e4,St.fixT e5,St.fixB e6,St.fixT e7,St.fixB e8]
    refine X.seq ?_
    refine X.still ?_
    refine O.pu (Pu.bin (.tmp rfl) (.tmp rfl) .lss) ?_
    refine O.nil ?_
    refine X.seq ?_
    refine X.condP (.tmp rfl) (fun c=>?_) (fun c=>?_)
    · rw [if_pos c] at h
      refine X.skip ?_
      refine X.seq ?_
      refine X.block ?_
      refine X.seq ?_
      refine X.still ?_
      repeat (rw [giff] at h;obtain ⟨_,h⟩:=h)
      refine O.pu (U.indexO0 rfl (.tmp rfl) rfl rfl (.tmp rfl) (by first|omega|(simp only [List.length_set] at *;omega)) (by first|omega|(simp only [List.length_set] at *;omega)) rfl rfl) ?_
      refine O.pu (U.rdO (.tmp rfl) rfl rfl rfl rfl rfl) ?_
      refine O.pu (Pu.assign (.tmp (v:=.int _ _) rfl)) ?_
      refine O.nil ?_
      refine X.seq ?_
      refine X.still ?_
      refine O.pu (U.load (.tmp rfl) rfl rfl (U.whole rfl rfl)) ?_
      refine O.pu (Pu.move (.tmp (v:=.int _ _) rfl)) ?_
      obtain ⟨q2,Hq2,h⟩:=Option.bind_eq_some_iff.1 h
      refine O.pu (U.call (ss:=[]) (.cons (.tmp (v:=.agg _) rfl) (.cons (.tmp (v:=.int _ _) rfl) .nil)) (.cons (.cl (.aggL (.cons .fi (.cons .bool (.cons .fi .nil))))) (.cons (.cl .int) .nil)) (power_Pow.cs Hq2) (.inl rfl) (.tupL (.cons (.aggL (.cons .fi (.cons .bool (.cons .fi .nil)))) (.cons .int .nil)))) ?_
      refine O.pu (Pu.move (.tmp (v:=.tup _) rfl)) ?_
      refine O.pu (Pu.extract (.tmp rfl) rfl) ?_
      refine O.pu (Pu.extract (.tmp rfl) rfl) ?_
      refine O.puE (v':=.op 11 ((s1.b 11).ver + 1) 0 0) (b':=⟨(s1.b 11).ver + 1, .own,(.vals [.agg [.fi .u64 [], .bool false, .fi .u64 []]]),_⟩) Pu.alloc rfl rfl ?_
      refine O.ef0 (U.storeE (.tmp rfl) rfl rfl (.tmp (v:=.agg _) rfl) rfl rfl (.whole (notBad_ne rfl) rfl) .one) ?_
      refine O.pu (Pu.assign (.tmp (v:=.int _ _) rfl)) ?_
      refine O.nil ?_
      refine X.seq ?_
      refine X.still ?_
      refine O.pu (U.load (.tmp rfl) rfl rfl (U.whole rfl rfl)) ?_
      obtain ⟨q3,Hq3,h⟩:=Option.bind_eq_some_iff.1 h
      refine O.pu (U.call (ss:=[]) (.cons (.tmp (v:=.agg _) rfl) .nil) (.cons (.cl (.aggL (.cons .fi (.cons .bool (.cons .fi .nil))))) .nil) (frac_Frac_Num.cs Hq3) (.inl rfl) (.aggL (.cons .fi (.cons .bool .nil)))) ?_
      obtain ⟨q4,Hq4,h⟩:=Option.bind_eq_some_iff.1 h
      refine O.pu (U.call (ss:=[]) (.cons (.tmp (v:=.agg _) rfl) .nil) (.cons (.cl (.aggL (.cons .fi (.cons .bool .nil)))) .nil) (whole_Int_Abs.cs Hq4) (.inl rfl) (.aggL (.cons .fi .nil))) ?_
      refine O.pu (Pu.move (.tmp (v:=.int _ _) rfl)) ?_
      obtain ⟨q5,Hq5,h⟩:=Option.bind_eq_some_iff.1 h
      refine O.pu (U.call (ss:=[]) (.cons (.tmp (v:=.agg _) rfl) (.cons (.tmp (v:=.int _ _) rfl) .nil)) (.cons (.cl (.aggL (.cons .fi .nil))) (.cons (.cl .int) .nil)) (digits_Pow.cs Hq5) (.inl rfl) (.tupL (.cons (.aggL (.cons .fi .nil)) (.cons .int .nil)))) ?_
      refine O.pu (Pu.move (.tmp (v:=.tup _) rfl)) ?_
      refine O.pu (Pu.extract (.tmp rfl) rfl) ?_
      refine O.pu (Pu.extract (.tmp rfl) rfl) ?_
      refine O.puE (v':=.op 13 ((s1.b 13).ver + 1) 0 0) (b':=⟨(s1.b 13).ver + 1, .own,(.vals [.agg [.fi .u64 []]]),_⟩) Pu.alloc rfl rfl ?_
      refine O.ef0 (U.storeE (.tmp rfl) rfl rfl (.tmp (v:=.agg _) rfl) rfl rfl (.whole (notBad_ne rfl) rfl) .one) ?_
      refine O.pu (Pu.assign (.tmp (v:=.int _ _) rfl)) ?_
      refine O.nil ?_
      refine X.seq ?_
      refine X.still ?_
      refine O.pu (U.load (.tmp rfl) rfl rfl (U.whole rfl rfl)) ?_
      obtain ⟨q6,Hq6,h⟩:=Option.bind_eq_some_iff.1 h
      refine O.pu (U.call (ss:=[]) (.cons (.tmp (v:=.agg _) rfl) .nil) (.cons (.cl (.aggL (.cons .fi (.cons .bool (.cons .fi .nil))))) .nil) (frac_Frac_Den.cs Hq6) (.inl rfl) (.aggL (.cons .fi .nil))) ?_
      refine O.pu (Pu.move (.tmp (v:=.int _ _) rfl)) ?_
      obtain ⟨q7,Hq7,h⟩:=Option.bind_eq_some_iff.1 h
      refine O.pu (U.call (ss:=[]) (.cons (.tmp (v:=.agg _) rfl) (.cons (.tmp (v:=.int _ _) rfl) .nil)) (.cons (.cl (.aggL (.cons .fi .nil))) (.cons (.cl .int) .nil)) (digits_Pow.cs Hq7) (.inl rfl) (.tupL (.cons (.aggL (.cons .fi .nil)) (.cons .int .nil)))) ?_
      refine O.pu (Pu.move (.tmp (v:=.tup _) rfl)) ?_
      refine O.pu (Pu.extract (.tmp rfl) rfl) ?_
      refine O.pu (Pu.extract (.tmp rfl) rfl) ?_
      refine O.puE (v':=.op 15 ((s1.b 15).ver + 1) 0 0) (b':=⟨(s1.b 15).ver + 1, .own,(.vals [.agg [.fi .u64 []]]),_⟩) Pu.alloc rfl rfl ?_
      refine O.ef0 (U.storeE (.tmp rfl) rfl rfl (.tmp (v:=.agg _) rfl) rfl rfl (.whole (notBad_ne rfl) rfl) .one) ?_
      refine O.pu (Pu.assign (.tmp (v:=.int _ _) rfl)) ?_
      refine O.nil ?_
      refine X.seq ?_
      refine X.still ?_
      refine O.pu (Pu.move (.tmp (v:=.int _ _) rfl)) ?_
      refine O.pu (Pu.assign (.tmp (v:=.int _ _) rfl)) ?_
      refine O.nil ?_
      refine X.seq ?_
      refine X.seq ?_
      refine X.still ?_
      refine O.pu (Pu.move (.tmp (v:=.int _ _) rfl)) ?_
      refine O.pu (Pu.bin (.tmp rfl) .int .eql) ?_
      refine O.nil ?_
      refine X.condE (.tmp rfl) (fun c=>?_) (fun c=>?_)
      · rw [if_pos c] at h
        refine X.still ?_
        refine O.pu (Pu.move (.tmp (v:=.int _ _) rfl)) ?_
        refine O.pu (Pu.assign (.tmp (v:=.int _ _) rfl)) ?_
        refine O.nil ?_
        refine X.seq ?_
        refine X.seq ?_
        refine X.still ?_
        refine O.pu (Pu.move (.tmp (v:=.int _ _) rfl)) ?_
        refine O.pu (Pu.move (.tmp (v:=.int _ _) rfl)) ?_
        refine O.pu (Pu.bin (.tmp rfl) (.tmp rfl) .neq) ?_
        refine O.pu (Pu.move (.tmp (v:=.bool _) rfl)) ?_
        repeat (rw [chattellaw13_PowerTells.j1_e] at h;obtain ⟨k,_,h⟩:=h;unfold chattellaw13_PowerTells.j1 at h;try dsimp only at h)
        refine O.splitN (fun c=>?_) (fun c=>?_)
        · rw [if_neg c] at h
          refine G.skip (W.f rfl rfl rfl) ?_
          refine G.skip (W.f rfl rfl rfl) ?_
          refine G.skipN (b:=true) (W.f rfl rfl rfl) ?_
          refine G.skip (W.n rfl rfl) ?_
          refine G.skip (W.n rfl rfl) ?_
          refine G.skip (W.n rfl rfl) ?_
          refine G.skip (W.f rfl rfl rfl) ?_
          refine O.pu (Pu.pickT (.tmp rfl) .bool) ?_
          refine O.nil ?_
          repeat (rw [chattellaw13_PowerTells.j2_e] at h;obtain ⟨k,_,h⟩:=h;unfold chattellaw13_PowerTells.j2 at h;try dsimp only at h)
          rw [if_pos rfl] at h
          refine X.condT (.tmp rfl) ?_
          refine X.seq ?_
          refine X.still ?_
          refine O.pu (Pu.assign .bool) ?_
          refine O.nil ?_
          refine X.ret ?_
          cases h
          exact E.fin [] (.tmp (v:=.bool _) rfl .nil) (.cons (.cl .bool) .nil)
        · rw [if_pos c] at h
          refine G.pu (W.t rfl rfl) (Pu.move (.tmp (v:=.int _ _) rfl)) ?_
          refine G.pu (W.t rfl rfl) (Pu.bin (.tmp rfl) .int .neq) ?_
          refine G.pu (W.t rfl rfl) (Pu.move (.tmp (v:=.bool _) rfl)) ?_
          refine O.splitN (fun c=>?_) (fun c=>?_)
          · rw [if_neg c] at h
            refine G.pu (W.t rfl rfl) (U.load (.tmp rfl) rfl rfl (U.whole rfl rfl)) ?_
            obtain ⟨q8,Hq8,h⟩:=Option.bind_eq_some_iff.1 h
            refine G.pu (W.t rfl rfl) (U.call (ss:=[]) (.cons (.tmp (v:=.agg _) rfl) .nil) (.cons (.cl (.aggL (.cons .fi (.cons .bool (.cons .fi .nil))))) .nil) (frac_Frac_Sign.cs Hq8) (.inl rfl) (.int)) ?_
            refine G.pu (W.t rfl rfl) (Pu.bin (.tmp rfl) .int .neq) ?_
            refine G.pu (W.t rfl rfl) (Pu.pickT (.tmp rfl) (.tmp (v:=.bool _) rfl)) ?_
            refine O.pu (Pu.pickF (.tmp rfl) (.tmp (v:=.bool _) rfl)) ?_
            refine O.nil ?_
            repeat (rw [chattellaw13_PowerTells.j2_e] at h;obtain ⟨k,_,h⟩:=h;unfold chattellaw13_PowerTells.j2 at h;try dsimp only at h)
            refine X.condN (.tmp rfl) (fun c=>?_) (fun c=>?_)
            · rw [if_pos (ne1 c)] at h
              refine X.seq ?_
              refine X.still ?_
              refine O.pu (Pu.assign .bool) ?_
              refine O.nil ?_
              refine X.ret ?_
              cases h
              exact E.fin [] (.tmp (v:=.bool _) rfl .nil) (.cons (.cl .bool) .nil)
            · rw [if_neg (ne0 c)] at h
              refine X.skip ?_
              refine X.seq ?_
              refine X.drawn ?_
              refine D.pu (Pu.move (.tmp (v:=.int _ _) rfl)) ?_
              refine D.pu (Pu.bin (.tmp rfl) .int .eql) ?_
              refine D.pu (Pu.move (.tmp (v:=.bool _) rfl)) ?_
              refine D.splitE (fun c=>?_) (fun c=>?_)
              · rw [if_pos c] at h
                refine D.gpu (W.t rfl rfl) (Pu.move (.tmp (v:=.int _ _) rfl)) ?_
                refine D.gpu (W.t rfl rfl) (Pu.bin (.tmp rfl) .int .lss) ?_
                refine D.pu (Pu.pickT (.tmp rfl) (.tmp (v:=.bool _) rfl)) ?_
                refine D.pu (Pu.move (.tmp (v:=.bool _) rfl)) ?_
                refine D.splitP (fun c=>?_) (fun c=>?_)
                · rw [if_pos c] at h
                  refine D.gpu (W.t rfl rfl) (U.load (.tmp rfl) rfl rfl (U.whole rfl rfl)) ?_
                  obtain ⟨q9,Hq9,h⟩:=Option.bind_eq_some_iff.1 h
                  refine D.gpu (W.t rfl rfl) (U.call (ss:=[]) (.cons (.tmp (v:=.agg _) rfl) .nil) (.cons (.cl (.aggL (.cons .fi (.cons .bool (.cons .fi .nil))))) .nil) (frac_Frac_Print.cs Hq9) (.inl rfl) (.str)) ?_
                  refine D.gpu (W.t rfl rfl) (U.load (.tmp rfl) rfl rfl (U.whole rfl rfl)) ?_
                  refine D.gpu (W.t rfl rfl) (Pu.move (.tmp (v:=.int _ _) rfl)) ?_
                  obtain ⟨q10,Hq10,h⟩:=Option.bind_eq_some_iff.1 h
                  refine D.gpu (W.t rfl rfl) (U.call (ss:=[]) (.cons (.tmp (v:=.agg _) rfl) (.cons (.tmp (v:=.int _ _) rfl) .nil)) (.cons (.cl (.aggL (.cons .fi (.cons .bool (.cons .fi .nil))))) (.cons (.cl .int) .nil)) (chattelref13_Pow.cs Hq10) (.inl rfl) (.aggL (.cons .fi (.cons .bool (.cons .fi .nil))))) ?_
                  obtain ⟨q11,Hq11,h⟩:=Option.bind_eq_some_iff.1 h
                  refine D.gpu (W.t rfl rfl) (U.call (ss:=[]) (.cons (.tmp (v:=.agg _) rfl) .nil) (.cons (.cl (.aggL (.cons .fi (.cons .bool (.cons .fi .nil))))) .nil) (chattelref05_Print.cs Hq11) (.inl rfl) (.str)) ?_
                  refine D.gpu (W.t rfl rfl) (Pu.bin (.tmp rfl) (.tmp rfl) .sneq) ?_
                  refine D.pu (Pu.pickT (.tmp rfl) (.tmp (v:=.bool _) rfl)) ?_
                  refine D.nil (by kernel_rfl) ?_
                  refine X.condSN (.tmp rfl) rfl (fun c=>?_) (fun c=>?_)
                  · rw [if_neg c] at h
                    refine X.seq ?_
                    refine X.still ?_
                    refine O.pu (Pu.assign .bool) ?_
                    refine O.nil ?_
                    refine X.ret ?_
                    cases h
                    exact E.fin [] (.tmp (v:=.bool _) rfl .nil) (.cons (.cl .bool) .nil)
                  · rw [if_pos c] at h
                    refine X.skip ?_
                    refine X.still ?_
                    refine O.pu (Pu.bin (.tmp rfl) .int U.add64) ?_
                    refine O.pu (Pu.move (.tmp (v:=.int _ _) rfl)) ?_
                    refine O.nil ?_
                    exact ⟨_,(by omega),_,_,_,_,_,_,_,_,_,_,_,_,_,rfl,rfl,(by first|rfl|(simp only [List.length_set];done)|(simp only [List.length_drop,List.length_take,List.length_append,List.length_set] at *;omega)),rfl,rfl,rfl,rfl,rfl,rfl,h⟩
                · rw [if_neg c] at h
                  refine D.gskip (W.f rfl rfl rfl) ?_
                  refine D.gskip (W.f rfl rfl rfl) ?_
                  refine D.gskip (W.f rfl rfl rfl) ?_
                  refine D.gskip (W.f rfl rfl rfl) ?_
                  refine D.gskip (W.f rfl rfl rfl) ?_
                  refine D.gskip (W.f rfl rfl rfl) ?_
                  refine D.gskip (W.f rfl rfl rfl) ?_
                  refine D.pu (Pu.pickF (.tmp rfl) .bool) ?_
                  refine D.nil (by kernel_rfl) ?_
                  refine X.condF (.tmp rfl) ?_
                  refine X.skip ?_
                  refine X.still ?_
                  refine O.pu (Pu.bin (.tmp rfl) .int U.add64) ?_
                  refine O.pu (Pu.move (.tmp (v:=.int _ _) rfl)) ?_
                  refine O.nil ?_
                  exact ⟨_,(by omega),_,_,_,_,_,_,_,_,_,_,_,_,_,rfl,rfl,(by first|rfl|(simp only [List.length_set];done)|(simp only [List.length_drop,List.length_take,List.length_append,List.length_set] at *;omega)),rfl,rfl,rfl,rfl,rfl,rfl,h⟩
              · rw [if_neg c] at h
                refine D.gskip (W.f rfl rfl rfl) ?_
                refine D.gskip (W.f rfl rfl rfl) ?_
                refine D.pu (Pu.pickF (.tmp rfl) .bool) ?_
                refine D.pu (Pu.move (.tmp (v:=.bool _) rfl)) ?_
                refine D.gskip (W.f rfl rfl rfl) ?_
                refine D.gskip (W.f rfl rfl rfl) ?_
                refine D.gskip (W.f rfl rfl rfl) ?_
                refine D.gskip (W.f rfl rfl rfl) ?_
                refine D.gskip (W.f rfl rfl rfl) ?_
                refine D.gskip (W.f rfl rfl rfl) ?_
                refine D.gskip (W.f rfl rfl rfl) ?_
                refine D.pu (Pu.pickF (.tmp rfl) .bool) ?_
                refine D.nil (by kernel_rfl) ?_
                refine X.condF (.tmp rfl) ?_
                refine X.skip ?_
                refine X.still ?_
                refine O.pu (Pu.bin (.tmp rfl) .int U.add64) ?_
                refine O.pu (Pu.move (.tmp (v:=.int _ _) rfl)) ?_
                refine O.nil ?_
                exact ⟨_,(by omega),_,_,_,_,_,_,_,_,_,_,_,_,_,rfl,rfl,(by first|rfl|(simp only [List.length_set];done)|(simp only [List.length_drop,List.length_take,List.length_append,List.length_set] at *;omega)),rfl,rfl,rfl,rfl,rfl,rfl,h⟩
          · rw [if_pos c] at h
            refine G.skip (W.f rfl rfl rfl) ?_
            refine G.skip (W.f rfl rfl rfl) ?_
            refine G.skip (W.f rfl rfl rfl) ?_
            refine G.pu (W.t rfl rfl) (Pu.pickF (.tmp rfl) .bool) ?_
            refine O.pu (Pu.pickF (.tmp rfl) (.tmp (v:=.bool _) rfl)) ?_
            refine O.nil ?_
            repeat (rw [chattellaw13_PowerTells.j2_e] at h;obtain ⟨k,_,h⟩:=h;unfold chattellaw13_PowerTells.j2 at h;try dsimp only at h)
            rw [if_neg Bool.false_ne_true] at h
            refine X.condF (.tmp rfl) ?_
            refine X.skip ?_
            refine X.seq ?_
            refine X.drawn ?_
            refine D.pu (Pu.move (.tmp (v:=.int _ _) rfl)) ?_
            refine D.pu (Pu.bin (.tmp rfl) .int .eql) ?_
            refine D.pu (Pu.move (.tmp (v:=.bool _) rfl)) ?_
            refine D.splitE (fun c=>?_) (fun c=>?_)
            · rw [if_pos c] at h
              refine D.gpu (W.t rfl rfl) (Pu.move (.tmp (v:=.int _ _) rfl)) ?_
              refine D.gpu (W.t rfl rfl) (Pu.bin (.tmp rfl) .int .lss) ?_
              refine D.pu (Pu.pickT (.tmp rfl) (.tmp (v:=.bool _) rfl)) ?_
              refine D.pu (Pu.move (.tmp (v:=.bool _) rfl)) ?_
              refine D.splitP (fun c=>?_) (fun c=>?_)
              · rw [if_pos c] at h
                refine D.gpu (W.t rfl rfl) (U.load (.tmp rfl) rfl rfl (U.whole rfl rfl)) ?_
                obtain ⟨q12,Hq12,h⟩:=Option.bind_eq_some_iff.1 h
                refine D.gpu (W.t rfl rfl) (U.call (ss:=[]) (.cons (.tmp (v:=.agg _) rfl) .nil) (.cons (.cl (.aggL (.cons .fi (.cons .bool (.cons .fi .nil))))) .nil) (frac_Frac_Print.cs Hq12) (.inl rfl) (.str)) ?_
                refine D.gpu (W.t rfl rfl) (U.load (.tmp rfl) rfl rfl (U.whole rfl rfl)) ?_
                refine D.gpu (W.t rfl rfl) (Pu.move (.tmp (v:=.int _ _) rfl)) ?_
                obtain ⟨q13,Hq13,h⟩:=Option.bind_eq_some_iff.1 h
                refine D.gpu (W.t rfl rfl) (U.call (ss:=[]) (.cons (.tmp (v:=.agg _) rfl) (.cons (.tmp (v:=.int _ _) rfl) .nil)) (.cons (.cl (.aggL (.cons .fi (.cons .bool (.cons .fi .nil))))) (.cons (.cl .int) .nil)) (chattelref13_Pow.cs Hq13) (.inl rfl) (.aggL (.cons .fi (.cons .bool (.cons .fi .nil))))) ?_
                obtain ⟨q14,Hq14,h⟩:=Option.bind_eq_some_iff.1 h
                refine D.gpu (W.t rfl rfl) (U.call (ss:=[]) (.cons (.tmp (v:=.agg _) rfl) .nil) (.cons (.cl (.aggL (.cons .fi (.cons .bool (.cons .fi .nil))))) .nil) (chattelref05_Print.cs Hq14) (.inl rfl) (.str)) ?_
                refine D.gpu (W.t rfl rfl) (Pu.bin (.tmp rfl) (.tmp rfl) .sneq) ?_
                refine D.pu (Pu.pickT (.tmp rfl) (.tmp (v:=.bool _) rfl)) ?_
                refine D.nil (by kernel_rfl) ?_
                refine X.condSN (.tmp rfl) rfl (fun c=>?_) (fun c=>?_)
                · rw [if_neg c] at h
                  refine X.seq ?_
                  refine X.still ?_
                  refine O.pu (Pu.assign .bool) ?_
                  refine O.nil ?_
                  refine X.ret ?_
                  cases h
                  exact E.fin [] (.tmp (v:=.bool _) rfl .nil) (.cons (.cl .bool) .nil)
                · rw [if_pos c] at h
                  refine X.skip ?_
                  refine X.still ?_
                  refine O.pu (Pu.bin (.tmp rfl) .int U.add64) ?_
                  refine O.pu (Pu.move (.tmp (v:=.int _ _) rfl)) ?_
                  refine O.nil ?_
                  exact ⟨_,(by omega),_,_,_,_,_,_,_,_,_,_,_,_,_,rfl,rfl,(by first|rfl|(simp only [List.length_set];done)|(simp only [List.length_drop,List.length_take,List.length_append,List.length_set] at *;omega)),rfl,rfl,rfl,rfl,rfl,rfl,h⟩
              · rw [if_neg c] at h
                refine D.gskip (W.f rfl rfl rfl) ?_
                refine D.gskip (W.f rfl rfl rfl) ?_
                refine D.gskip (W.f rfl rfl rfl) ?_
                refine D.gskip (W.f rfl rfl rfl) ?_
                refine D.gskip (W.f rfl rfl rfl) ?_
                refine D.gskip (W.f rfl rfl rfl) ?_
                refine D.gskip (W.f rfl rfl rfl) ?_
                refine D.pu (Pu.pickF (.tmp rfl) .bool) ?_
                refine D.nil (by kernel_rfl) ?_
                refine X.condF (.tmp rfl) ?_
                refine X.skip ?_
                refine X.still ?_
                refine O.pu (Pu.bin (.tmp rfl) .int U.add64) ?_
                refine O.pu (Pu.move (.tmp (v:=.int _ _) rfl)) ?_
                refine O.nil ?_
                exact ⟨_,(by omega),_,_,_,_,_,_,_,_,_,_,_,_,_,rfl,rfl,(by first|rfl|(simp only [List.length_set];done)|(simp only [List.length_drop,List.length_take,List.length_append,List.length_set] at *;omega)),rfl,rfl,rfl,rfl,rfl,rfl,h⟩
            · rw [if_neg c] at h
              refine D.gskip (W.f rfl rfl rfl) ?_
              refine D.gskip (W.f rfl rfl rfl) ?_
              refine D.pu (Pu.pickF (.tmp rfl) .bool) ?_
              refine D.pu (Pu.move (.tmp (v:=.bool _) rfl)) ?_
              refine D.gskip (W.f rfl rfl rfl) ?_
              refine D.gskip (W.f rfl rfl rfl) ?_
              refine D.gskip (W.f rfl rfl rfl) ?_
              refine D.gskip (W.f rfl rfl rfl) ?_
              refine D.gskip (W.f rfl rfl rfl) ?_
              refine D.gskip (W.f rfl rfl rfl) ?_
              refine D.gskip (W.f rfl rfl rfl) ?_
              refine D.pu (Pu.pickF (.tmp rfl) .bool) ?_
              refine D.nil (by kernel_rfl) ?_
              refine X.condF (.tmp rfl) ?_
              refine X.skip ?_
              refine X.still ?_
              refine O.pu (Pu.bin (.tmp rfl) .int U.add64) ?_
              refine O.pu (Pu.move (.tmp (v:=.int _ _) rfl)) ?_
              refine O.nil ?_
              exact ⟨_,(by omega),_,_,_,_,_,_,_,_,_,_,_,_,_,rfl,rfl,(by first|rfl|(simp only [List.length_set];done)|(simp only [List.length_drop,List.length_take,List.length_append,List.length_set] at *;omega)),rfl,rfl,rfl,rfl,rfl,rfl,h⟩
      · rw [if_neg c] at h
        refine X.skip ?_
        refine X.seq ?_
        refine X.seq ?_
        refine X.still ?_
        refine O.pu (Pu.move (.tmp (v:=.int _ _) rfl)) ?_
        refine O.pu (Pu.move (.tmp (v:=.int _ _) rfl)) ?_
        refine O.pu (Pu.bin (.tmp rfl) (.tmp rfl) .neq) ?_
        refine O.pu (Pu.move (.tmp (v:=.bool _) rfl)) ?_
        repeat (rw [chattellaw13_PowerTells.j1_e] at h;obtain ⟨k,_,h⟩:=h;unfold chattellaw13_PowerTells.j1 at h;try dsimp only at h)
        refine O.splitN (fun c=>?_) (fun c=>?_)
        · rw [if_neg c] at h
          refine G.skip (W.f rfl rfl rfl) ?_
          refine G.skip (W.f rfl rfl rfl) ?_
          refine G.skipN (b:=true) (W.f rfl rfl rfl) ?_
          refine G.skip (W.n rfl rfl) ?_
          refine G.skip (W.n rfl rfl) ?_
          refine G.skip (W.n rfl rfl) ?_
          refine G.skip (W.f rfl rfl rfl) ?_
          refine O.pu (Pu.pickT (.tmp rfl) .bool) ?_
          refine O.nil ?_
          repeat (rw [chattellaw13_PowerTells.j2_e] at h;obtain ⟨k,_,h⟩:=h;unfold chattellaw13_PowerTells.j2 at h;try dsimp only at h)
          rw [if_pos rfl] at h
          refine X.condT (.tmp rfl) ?_
          refine X.seq ?_
          refine X.still ?_
          refine O.pu (Pu.assign .bool) ?_
          refine O.nil ?_
          refine X.ret ?_
          cases h
          exact E.fin [] (.tmp (v:=.bool _) rfl .nil) (.cons (.cl .bool) .nil)
        · rw [if_pos c] at h
          refine G.pu (W.t rfl rfl) (Pu.move (.tmp (v:=.int _ _) rfl)) ?_
          refine G.pu (W.t rfl rfl) (Pu.bin (.tmp rfl) .int .neq) ?_
          refine G.pu (W.t rfl rfl) (Pu.move (.tmp (v:=.bool _) rfl)) ?_
          refine O.splitN (fun c=>?_) (fun c=>?_)
          · rw [if_neg c] at h
            refine G.pu (W.t rfl rfl) (U.load (.tmp rfl) rfl rfl (U.whole rfl rfl)) ?_
            obtain ⟨q15,Hq15,h⟩:=Option.bind_eq_some_iff.1 h
            refine G.pu (W.t rfl rfl) (U.call (ss:=[]) (.cons (.tmp (v:=.agg _) rfl) .nil) (.cons (.cl (.aggL (.cons .fi (.cons .bool (.cons .fi .nil))))) .nil) (frac_Frac_Sign.cs Hq15) (.inl rfl) (.int)) ?_
            refine G.pu (W.t rfl rfl) (Pu.bin (.tmp rfl) .int .neq) ?_
            refine G.pu (W.t rfl rfl) (Pu.pickT (.tmp rfl) (.tmp (v:=.bool _) rfl)) ?_
            refine O.pu (Pu.pickF (.tmp rfl) (.tmp (v:=.bool _) rfl)) ?_
            refine O.nil ?_
            repeat (rw [chattellaw13_PowerTells.j2_e] at h;obtain ⟨k,_,h⟩:=h;unfold chattellaw13_PowerTells.j2 at h;try dsimp only at h)
            refine X.condN (.tmp rfl) (fun c=>?_) (fun c=>?_)
            · rw [if_pos (ne1 c)] at h
              refine X.seq ?_
              refine X.still ?_
              refine O.pu (Pu.assign .bool) ?_
              refine O.nil ?_
              refine X.ret ?_
              cases h
              exact E.fin [] (.tmp (v:=.bool _) rfl .nil) (.cons (.cl .bool) .nil)
            · rw [if_neg (ne0 c)] at h
              refine X.skip ?_
              refine X.seq ?_
              refine X.drawn ?_
              refine D.pu (Pu.move (.tmp (v:=.int _ _) rfl)) ?_
              refine D.pu (Pu.bin (.tmp rfl) .int .eql) ?_
              refine D.pu (Pu.move (.tmp (v:=.bool _) rfl)) ?_
              refine D.splitE (fun c=>?_) (fun c=>?_)
              · rw [if_pos c] at h
                refine D.gpu (W.t rfl rfl) (Pu.move (.tmp (v:=.int _ _) rfl)) ?_
                refine D.gpu (W.t rfl rfl) (Pu.bin (.tmp rfl) .int .lss) ?_
                refine D.pu (Pu.pickT (.tmp rfl) (.tmp (v:=.bool _) rfl)) ?_
                refine D.pu (Pu.move (.tmp (v:=.bool _) rfl)) ?_
                refine D.splitP (fun c=>?_) (fun c=>?_)
                · rw [if_pos c] at h
                  refine D.gpu (W.t rfl rfl) (U.load (.tmp rfl) rfl rfl (U.whole rfl rfl)) ?_
                  obtain ⟨q16,Hq16,h⟩:=Option.bind_eq_some_iff.1 h
                  refine D.gpu (W.t rfl rfl) (U.call (ss:=[]) (.cons (.tmp (v:=.agg _) rfl) .nil) (.cons (.cl (.aggL (.cons .fi (.cons .bool (.cons .fi .nil))))) .nil) (frac_Frac_Print.cs Hq16) (.inl rfl) (.str)) ?_
                  refine D.gpu (W.t rfl rfl) (U.load (.tmp rfl) rfl rfl (U.whole rfl rfl)) ?_
                  refine D.gpu (W.t rfl rfl) (Pu.move (.tmp (v:=.int _ _) rfl)) ?_
                  obtain ⟨q17,Hq17,h⟩:=Option.bind_eq_some_iff.1 h
                  refine D.gpu (W.t rfl rfl) (U.call (ss:=[]) (.cons (.tmp (v:=.agg _) rfl) (.cons (.tmp (v:=.int _ _) rfl) .nil)) (.cons (.cl (.aggL (.cons .fi (.cons .bool (.cons .fi .nil))))) (.cons (.cl .int) .nil)) (chattelref13_Pow.cs Hq17) (.inl rfl) (.aggL (.cons .fi (.cons .bool (.cons .fi .nil))))) ?_
                  obtain ⟨q18,Hq18,h⟩:=Option.bind_eq_some_iff.1 h
                  refine D.gpu (W.t rfl rfl) (U.call (ss:=[]) (.cons (.tmp (v:=.agg _) rfl) .nil) (.cons (.cl (.aggL (.cons .fi (.cons .bool (.cons .fi .nil))))) .nil) (chattelref05_Print.cs Hq18) (.inl rfl) (.str)) ?_
                  refine D.gpu (W.t rfl rfl) (Pu.bin (.tmp rfl) (.tmp rfl) .sneq) ?_
                  refine D.pu (Pu.pickT (.tmp rfl) (.tmp (v:=.bool _) rfl)) ?_
                  refine D.nil (by kernel_rfl) ?_
                  refine X.condSN (.tmp rfl) rfl (fun c=>?_) (fun c=>?_)
                  · rw [if_neg c] at h
                    refine X.seq ?_
                    refine X.still ?_
                    refine O.pu (Pu.assign .bool) ?_
                    refine O.nil ?_
                    refine X.ret ?_
                    cases h
                    exact E.fin [] (.tmp (v:=.bool _) rfl .nil) (.cons (.cl .bool) .nil)
                  · rw [if_pos c] at h
                    refine X.skip ?_
                    refine X.still ?_
                    refine O.pu (Pu.bin (.tmp rfl) .int U.add64) ?_
                    refine O.pu (Pu.move (.tmp (v:=.int _ _) rfl)) ?_
                    refine O.nil ?_
                    exact ⟨_,(by omega),_,_,_,_,_,_,_,_,_,_,_,_,_,rfl,rfl,(by first|rfl|(simp only [List.length_set];done)|(simp only [List.length_drop,List.length_take,List.length_append,List.length_set] at *;omega)),rfl,rfl,rfl,rfl,rfl,rfl,h⟩
                · rw [if_neg c] at h
                  refine D.gskip (W.f rfl rfl rfl) ?_
                  refine D.gskip (W.f rfl rfl rfl) ?_
                  refine D.gskip (W.f rfl rfl rfl) ?_
                  refine D.gskip (W.f rfl rfl rfl) ?_
                  refine D.gskip (W.f rfl rfl rfl) ?_
                  refine D.gskip (W.f rfl rfl rfl) ?_
                  refine D.gskip (W.f rfl rfl rfl) ?_
                  refine D.pu (Pu.pickF (.tmp rfl) .bool) ?_
                  refine D.nil (by kernel_rfl) ?_
                  refine X.condF (.tmp rfl) ?_
                  refine X.skip ?_
                  refine X.still ?_
                  refine O.pu (Pu.bin (.tmp rfl) .int U.add64) ?_
                  refine O.pu (Pu.move (.tmp (v:=.int _ _) rfl)) ?_
                  refine O.nil ?_
                  exact ⟨_,(by omega),_,_,_,_,_,_,_,_,_,_,_,_,_,rfl,rfl,(by first|rfl|(simp only [List.length_set];done)|(simp only [List.length_drop,List.length_take,List.length_append,List.length_set] at *;omega)),rfl,rfl,rfl,rfl,rfl,rfl,h⟩
              · rw [if_neg c] at h
                refine D.gskip (W.f rfl rfl rfl) ?_
                refine D.gskip (W.f rfl rfl rfl) ?_
                refine D.pu (Pu.pickF (.tmp rfl) .bool) ?_
                refine D.pu (Pu.move (.tmp (v:=.bool _) rfl)) ?_
                refine D.gskip (W.f rfl rfl rfl) ?_
                refine D.gskip (W.f rfl rfl rfl) ?_
                refine D.gskip (W.f rfl rfl rfl) ?_
                refine D.gskip (W.f rfl rfl rfl) ?_
                refine D.gskip (W.f rfl rfl rfl) ?_
                refine D.gskip (W.f rfl rfl rfl) ?_
                refine D.gskip (W.f rfl rfl rfl) ?_
                refine D.pu (Pu.pickF (.tmp rfl) .bool) ?_
                refine D.nil (by kernel_rfl) ?_
                refine X.condF (.tmp rfl) ?_
                refine X.skip ?_
                refine X.still ?_
                refine O.pu (Pu.bin (.tmp rfl) .int U.add64) ?_
                refine O.pu (Pu.move (.tmp (v:=.int _ _) rfl)) ?_
                refine O.nil ?_
                exact ⟨_,(by omega),_,_,_,_,_,_,_,_,_,_,_,_,_,rfl,rfl,(by first|rfl|(simp only [List.length_set];done)|(simp only [List.length_drop,List.length_take,List.length_append,List.length_set] at *;omega)),rfl,rfl,rfl,rfl,rfl,rfl,h⟩
          · rw [if_pos c] at h
            refine G.skip (W.f rfl rfl rfl) ?_
            refine G.skip (W.f rfl rfl rfl) ?_
            refine G.skip (W.f rfl rfl rfl) ?_
            refine G.pu (W.t rfl rfl) (Pu.pickF (.tmp rfl) .bool) ?_
            refine O.pu (Pu.pickF (.tmp rfl) (.tmp (v:=.bool _) rfl)) ?_
            refine O.nil ?_
            repeat (rw [chattellaw13_PowerTells.j2_e] at h;obtain ⟨k,_,h⟩:=h;unfold chattellaw13_PowerTells.j2 at h;try dsimp only at h)
            rw [if_neg Bool.false_ne_true] at h
            refine X.condF (.tmp rfl) ?_
            refine X.skip ?_
            refine X.seq ?_
            refine X.drawn ?_
            refine D.pu (Pu.move (.tmp (v:=.int _ _) rfl)) ?_
            refine D.pu (Pu.bin (.tmp rfl) .int .eql) ?_
            refine D.pu (Pu.move (.tmp (v:=.bool _) rfl)) ?_
            refine D.splitE (fun c=>?_) (fun c=>?_)
            · rw [if_pos c] at h
              refine D.gpu (W.t rfl rfl) (Pu.move (.tmp (v:=.int _ _) rfl)) ?_
              refine D.gpu (W.t rfl rfl) (Pu.bin (.tmp rfl) .int .lss) ?_
              refine D.pu (Pu.pickT (.tmp rfl) (.tmp (v:=.bool _) rfl)) ?_
              refine D.pu (Pu.move (.tmp (v:=.bool _) rfl)) ?_
              refine D.splitP (fun c=>?_) (fun c=>?_)
              · rw [if_pos c] at h
                refine D.gpu (W.t rfl rfl) (U.load (.tmp rfl) rfl rfl (U.whole rfl rfl)) ?_
                obtain ⟨q19,Hq19,h⟩:=Option.bind_eq_some_iff.1 h
                refine D.gpu (W.t rfl rfl) (U.call (ss:=[]) (.cons (.tmp (v:=.agg _) rfl) .nil) (.cons (.cl (.aggL (.cons .fi (.cons .bool (.cons .fi .nil))))) .nil) (frac_Frac_Print.cs Hq19) (.inl rfl) (.str)) ?_
                refine D.gpu (W.t rfl rfl) (U.load (.tmp rfl) rfl rfl (U.whole rfl rfl)) ?_
                refine D.gpu (W.t rfl rfl) (Pu.move (.tmp (v:=.int _ _) rfl)) ?_
                obtain ⟨q20,Hq20,h⟩:=Option.bind_eq_some_iff.1 h
                refine D.gpu (W.t rfl rfl) (U.call (ss:=[]) (.cons (.tmp (v:=.agg _) rfl) (.cons (.tmp (v:=.int _ _) rfl) .nil)) (.cons (.cl (.aggL (.cons .fi (.cons .bool (.cons .fi .nil))))) (.cons (.cl .int) .nil)) (chattelref13_Pow.cs Hq20) (.inl rfl) (.aggL (.cons .fi (.cons .bool (.cons .fi .nil))))) ?_
                obtain ⟨q21,Hq21,h⟩:=Option.bind_eq_some_iff.1 h
                refine D.gpu (W.t rfl rfl) (U.call (ss:=[]) (.cons (.tmp (v:=.agg _) rfl) .nil) (.cons (.cl (.aggL (.cons .fi (.cons .bool (.cons .fi .nil))))) .nil) (chattelref05_Print.cs Hq21) (.inl rfl) (.str)) ?_
                refine D.gpu (W.t rfl rfl) (Pu.bin (.tmp rfl) (.tmp rfl) .sneq) ?_
                refine D.pu (Pu.pickT (.tmp rfl) (.tmp (v:=.bool _) rfl)) ?_
                refine D.nil (by kernel_rfl) ?_
                refine X.condSN (.tmp rfl) rfl (fun c=>?_) (fun c=>?_)
                · rw [if_neg c] at h
                  refine X.seq ?_
                  refine X.still ?_
                  refine O.pu (Pu.assign .bool) ?_
                  refine O.nil ?_
                  refine X.ret ?_
                  cases h
                  exact E.fin [] (.tmp (v:=.bool _) rfl .nil) (.cons (.cl .bool) .nil)
                · rw [if_pos c] at h
                  refine X.skip ?_
                  refine X.still ?_
                  refine O.pu (Pu.bin (.tmp rfl) .int U.add64) ?_
                  refine O.pu (Pu.move (.tmp (v:=.int _ _) rfl)) ?_
                  refine O.nil ?_
                  exact ⟨_,(by omega),_,_,_,_,_,_,_,_,_,_,_,_,_,rfl,rfl,(by first|rfl|(simp only [List.length_set];done)|(simp only [List.length_drop,List.length_take,List.length_append,List.length_set] at *;omega)),rfl,rfl,rfl,rfl,rfl,rfl,h⟩
              · rw [if_neg c] at h
                refine D.gskip (W.f rfl rfl rfl) ?_
                refine D.gskip (W.f rfl rfl rfl) ?_
                refine D.gskip (W.f rfl rfl rfl) ?_
                refine D.gskip (W.f rfl rfl rfl) ?_
                refine D.gskip (W.f rfl rfl rfl) ?_
                refine D.gskip (W.f rfl rfl rfl) ?_
                refine D.gskip (W.f rfl rfl rfl) ?_
                refine D.pu (Pu.pickF (.tmp rfl) .bool) ?_
                refine D.nil (by kernel_rfl) ?_
                refine X.condF (.tmp rfl) ?_
                refine X.skip ?_
                refine X.still ?_
                refine O.pu (Pu.bin (.tmp rfl) .int U.add64) ?_
                refine O.pu (Pu.move (.tmp (v:=.int _ _) rfl)) ?_
                refine O.nil ?_
                exact ⟨_,(by omega),_,_,_,_,_,_,_,_,_,_,_,_,_,rfl,rfl,(by first|rfl|(simp only [List.length_set];done)|(simp only [List.length_drop,List.length_take,List.length_append,List.length_set] at *;omega)),rfl,rfl,rfl,rfl,rfl,rfl,h⟩
            · rw [if_neg c] at h
              refine D.gskip (W.f rfl rfl rfl) ?_
              refine D.gskip (W.f rfl rfl rfl) ?_
              refine D.pu (Pu.pickF (.tmp rfl) .bool) ?_
              refine D.pu (Pu.move (.tmp (v:=.bool _) rfl)) ?_
              refine D.gskip (W.f rfl rfl rfl) ?_
              refine D.gskip (W.f rfl rfl rfl) ?_
              refine D.gskip (W.f rfl rfl rfl) ?_
              refine D.gskip (W.f rfl rfl rfl) ?_
              refine D.gskip (W.f rfl rfl rfl) ?_
              refine D.gskip (W.f rfl rfl rfl) ?_
              refine D.gskip (W.f rfl rfl rfl) ?_
              refine D.pu (Pu.pickF (.tmp rfl) .bool) ?_
              refine D.nil (by kernel_rfl) ?_
              refine X.condF (.tmp rfl) ?_
              refine X.skip ?_
              refine X.still ?_
              refine O.pu (Pu.bin (.tmp rfl) .int U.add64) ?_
              refine O.pu (Pu.move (.tmp (v:=.int _ _) rfl)) ?_
              refine O.nil ?_
              exact ⟨_,(by omega),_,_,_,_,_,_,_,_,_,_,_,_,_,rfl,rfl,(by first|rfl|(simp only [List.length_set];done)|(simp only [List.length_drop,List.length_take,List.length_append,List.length_set] at *;omega)),rfl,rfl,rfl,rfl,rfl,rfl,h⟩
    · rw [if_neg c] at h
      refine X.exit (B.out ?_)
      refine X.seq ?_
      refine X.still ?_
      obtain ⟨q22,Hq22,h⟩:=Option.bind_eq_some_iff.1 h
      refine O.pu (U.call (ss:=[]) .nil .nil (chattellaw13_wakes.cs Hq22) (.inl rfl) (.bool)) ?_
      refine O.pu (Pu.assign (.tmp (v:=.bool _) rfl)) ?_
      refine O.nil ?_
      refine X.ret ?_
      cases h
      exact E.fin [] (.tmp (v:=.bool _) rfl .nil) (.cons (.cl .bool) .nil)
end Go.Proofs.Ytiikhhemgplocaa
end

section
namespace Go.AVL
open Go.RowKit Go.Proofs.YtiikhhemgplocaaW.PrintWords
set_option linter.unusedVariables false
section
variable {P : Program} {w : World} {m : Nat → Reg}
def allOf (w:World):Nat→Prop:=fun k=>k < w.heap.size
inductive VRs (w:World) (m:Nat→Reg):List AV→List Value→Prop
  | nil:VRs w m [] []
  | cons {v V vs Vs}:VR (allOf w) w noB m v V→V.oneCell'=true→VRs w m vs Vs→VRs w m (v :: vs) (V :: Vs)
theorem VRs.spec {vs:List AV} {Vs:List Value} (h:VRs w m vs Vs):vs.length=Vs.length∧(∀ u ∈ Vs,u.oneCell'=true)∧∀ i,i < vs.length→VR (allOf w) w noB m (vs.getD i .bad) (Vs.getD i undef):=by
  induction h with
  | nil=>exact ⟨rfl,fun u hu=>by simp at hu,fun i hi=>absurd hi (Nat.not_lt_zero i)⟩
  | cons hv h1 _ ih =>
    obtain ⟨i1,i2,i3⟩:=ih
    refine ⟨by simp [i1],fun u hu=>?_,fun i hi=>?_⟩
    · rcases List.mem_cons.1 hu with rfl|hu
      · exact h1
      · exact i2 u hu
    · cases i with
      | zero=>exact hv
      | succ i=>exact i3 i (by simpa using hi)
theorem VRs.agg {vs:List AV} {Vs:List Value} (h:VRs w m vs Vs):VR (allOf w) w noB m (.agg vs) (.agg Vs.toArray):=by
  obtain ⟨h1,h2,h3⟩:=h.spec
  refine .agg vs _ (by simpa using h1) (by simpa using h2) fun i hi=>?_
  have:=h3 i hi
  simpa [Array.getD_eq_getD_getElem?,List.getD_eq_getElem?_getD] using this
inductive VRa (w:World) (m:Nat→Reg):List AV→List Value→Prop
  | nil:VRa w m [] []
  | cons {v V vs Vs}:VR (allOf w) w noB m v V→VRa w m vs Vs→VRa w m (v :: vs) (V :: Vs)
theorem VRa.spec {vs:List AV} {Vs:List Value} (h:VRa w m vs Vs):vs.length=Vs.length∧∀ i,i < vs.length→VR (allOf w) w noB m (vs.getD i .bad) (Vs.getD i undef):=by
  induction h with
  | nil=>exact ⟨rfl,fun i hi=>absurd hi (Nat.not_lt_zero i)⟩
  | cons hv _ ih =>
    refine ⟨by simp [ih.1],fun i hi=>?_⟩
    cases i with
    | zero=>exact hv
    | succ i=>exact ih.2 i (by simpa using hi)
theorem calls_of_cs {f:FuncId} {fn:Func} {code:Code} (hf:FnOk P f fn code) {args:List AV} {Vs:List Value} {res:List AV} (h:CS P f args .no res) (hv:VRa w (fun _=>default) args Vs) :
    Calls P f Vs.toArray w fun e w'=>∃ v,e = .returned v∧Below w.heap.size w w'∧∃ I' m',VR I' w' noB m' (AV.mk res) v:=by
  obtain ⟨h1,h2⟩:=hv.spec
  have hc:=h (allOf w) none w (fun _=>default) Vs.toArray (fun _=>rfl) (WR.fresh _ w _ fun k hk=>hk) (by simpa using h1.symm) fun i hi=>by
    have:=h2 i hi
    show VR (allOf w) w noB (fun _=>default) _ _
    simpa [Array.getD_eq_getD_getElem?,List.getD_eq_getElem?_getD] using this
  have he:(callFunc f Vs.toArray).run P w = .ok (.enter f Vs.toArray) w:=by
    have hn:=hf.name
    simp only [beq_eq_false_iff_ne,ne_eq] at hn
    simp [callFunc,program,Sem.run,hf.eq,hn,hf.body]
  unfold CallW at hc
  rw [he] at hc
  refine Calls.mono hc fun e w' hr=>?_
  cases e with
  | returned v =>
    obtain ⟨I',m',hw,_,hvr⟩:=hr
    exact ⟨v,rfl,⟨hw.os,hw.tape,hw.output,hw.size,fun k hk=>hw.frame k hk (by simp)⟩,I',m',hvr⟩
  | _=>exact hr.elim
theorem calls_true {f:FuncId} {fn:Func} {code:Code} (hf:FnOk P f fn code) {args:List AV} {Vs:List Value} (h:CS P f args .no [.bool true]) (hv:VRa w (fun _=>default) args Vs) :
    Calls P f Vs.toArray w fun e w'=>e = .returned (.bool true)∧Below w.heap.size w w':=by
  refine (calls_of_cs hf h hv).mono ?_
  rintro e w' ⟨v,rfl,hb,I',m',hr⟩
  have hr:VR I' w' noB m' (.bool true) v:=hr
  rw [hr.bool_inv]
  exact ⟨rfl,hb⟩
end
end Go.AVL
end
