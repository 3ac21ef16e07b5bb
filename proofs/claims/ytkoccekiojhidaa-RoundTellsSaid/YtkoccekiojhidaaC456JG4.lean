-- Joined of: G51 G81 G42 G116 G94 G95 G52 G14 G96 G97 G54 G55 G53 G8 X6
import Derived.Test.YtkoccekiojhidaaC456JG3
import Derived.Test.YtkoccekiojhidaaC456JG2
import Derived.Test.YtkoccekiojhidaaC456WWords
section
namespace Go.Proofs.Ytkoccekiojhidaa
open Go.AVL Go.RowKit Go.Proofs.Ytkoccekiojhidaa.F Go.Proofs.YtkoccekiojhidaaX Go.Proofs.YtkoccekiojhidaaW.PrintWords Go.Proofs.YtkoccekiojhidaaW.PrintLast Go.Proofs.YtkoccekiojhidaaW.PrintMore
set_option linter.unusedVariables false
set_option linter.unusedSimpArgs false
set_option maxRecDepth 100000
set_option maxHeartbeats 4000000
theorem chattelref06_Whole.j0_e {k y0 y1 y2 y3 y4 y5 y6 y7 y8 r}:(chattelref06_Whole.j0 k y0 y1 y2 y3 y4 y5 y6 y7 y8=some r) = ∃ j,k=j + 1∧chattelref06_Whole.j0 (j + 1) y0 y1 y2 y3 y4 y5 y6 y7 y8=some r:=propext ⟨fun h=>by cases k with|zero=>(unfold chattelref06_Whole.j0 at h;cases h)|succ k=>exact ⟨k,rfl,h⟩,fun ⟨j,hj,h⟩=>by subst hj;exact h⟩
theorem chattelref06_Whole.j1_e {k y0 y1 y2 y3 y4 y5 y6 y7 y8 r}:(chattelref06_Whole.j1 k y0 y1 y2 y3 y4 y5 y6 y7 y8=some r) = ∃ j,k=j + 1∧chattelref06_Whole.j1 (j + 1) y0 y1 y2 y3 y4 y5 y6 y7 y8=some r:=propext ⟨fun h=>by cases k with|zero=>(unfold chattelref06_Whole.j1 at h;cases h)|succ k=>exact ⟨k,rfl,h⟩,fun ⟨j,hj,h⟩=>by subst hj;exact h⟩
theorem chattelref06_Whole.j2_e {k y0 y1 y2 y3 r}:(chattelref06_Whole.j2 k y0 y1 y2 y3=some r) = ∃ j,k=j + 1∧chattelref06_Whole.j2 (j + 1) y0 y1 y2 y3=some r:=propext ⟨fun h=>by cases k with|zero=>(unfold chattelref06_Whole.j2 at h;cases h)|succ k=>exact ⟨k,rfl,h⟩,fun ⟨j,hj,h⟩=>by subst hj;exact h⟩
noncomputable def c51:Code:=Try.f51.body.getD .skip
theorem fn51:FnOk Try.prog 51 Try.f51 c51:=⟨Try.func51,rfl,by kernel_rfl,by kernel_rfl,mixed⟩
theorem chattelref06_Whole.cs {k:Nat} {l0_0:List Int} {a0_1:Bool} {l0_2:List Int} {a1:Int} {r:List Int×Bool} (h:chattelref06_Whole.f k l0_0 a0_1 l0_2 a1=some r):CS Try.prog 51 [.agg [.fi .i64 l0_0, .bool a0_1, .fi .i64 l0_2], .int .i64 a1] .no [.agg [.fi .i64 r.1, .bool r.2]]:=by
  unfold chattelref06_Whole.f at h
  refine E.pure fn51 rfl ?_
  refine X.seq ?_
  refine X.still ?_
  refine O.puE (v':=.op 2 (1) 0 0) (b':=⟨1, .own,_,_⟩) (Pu.box (.tmp (v:=.agg _) rfl) rfl rfl) rfl rfl ?_
  refine O.puE (v':=.op 4 (1) 0 0) (b':=⟨1, .own,(.vals [.agg [.fi .i64 [], .bool false]]),_⟩) Pu.alloc rfl rfl ?_
  refine O.nil ?_
  refine X.seq ?_
  refine X.still ?_
  refine O.pu (U.fieldA rfl rfl rfl (.tmp rfl)) ?_
  refine O.pu (U.fieldA rfl rfl rfl (.tmp rfl)) ?_
  refine O.pu (U.load (.tmp rfl) rfl rfl (U.cell rfl rfl rfl)) ?_
  refine O.pu (U.fieldA rfl rfl rfl (.tmp rfl)) ?_
  refine O.pu (U.load (.tmp rfl) rfl rfl (U.cell rfl rfl rfl)) ?_
  obtain ⟨q1,Hq1,h⟩:=Option.bind_eq_some_iff.1 h
  refine O.pu (U.call (ss:=[]) (.cons (.tmp (v:=.fi _ _) rfl) (.cons (.tmp (v:=.fi _ _) rfl) .nil)) (.cons (.cl .fi) (.cons (.cl .fi) .nil)) (chattelref01_DivMod.cs Hq1) (.inl rfl) (.tupL (.cons .fi (.cons .fi .nil)))) ?_
  refine O.pu (Pu.move (.tmp (v:=.tup _) rfl)) ?_
  refine O.pu (Pu.extract (.tmp rfl) rfl) ?_
  refine O.pu (Pu.extract (.tmp rfl) rfl) ?_
  refine O.pu (Pu.assign (.tmp (v:=.fi _ _) rfl)) ?_
  refine O.pu (Pu.assign (.tmp (v:=.fi _ _) rfl)) ?_
  refine O.nil ?_
  refine X.seq ?_
  refine X.still ?_
  refine O.puE (v':=.os 24 (1) 0 _ true) (b':=⟨1, .own,_,_⟩) (U.litI rfl rfl (.cons .int .nil) rfl rfl) rfl rfl ?_
  refine O.pu (Pu.assign (.tmp (v:=.os _ _ _ _ _) rfl)) ?_
  refine O.nil ?_
  refine X.seq ?_
  refine X.still ?_
  refine O.pu (Pu.move (.tmp (v:=.fi _ _) rfl)) ?_
  refine O.pu (Pu.move (.tmp (v:=.os _ _ _ _ _) rfl)) ?_
  obtain ⟨q2,Hq2,h⟩:=Option.bind_eq_some_iff.1 h
  refine O.ef (U.callZ (ss:=[24]) (.cons (.tmp (v:=.fi _ _) rfl) (.cons (.tmp (v:=.os _ _ _ _ _) rfl) .nil)) (.cons (.cl .fi) (.cons (.osIf (by simp) rfl (Mode.live_ne rfl) rfl (by first|rfl|(simp only [List.length_set];done)|(simp only [List.length_drop,List.length_take,List.length_append,List.length_set] at *;omega))) .nil)) (chattelref01_Add.cs Hq2) (.fi) (nowin rfl)) ?_
  refine O.pu (Pu.assign (.tmp (v:=.fi _ _) rfl)) ?_
  refine O.nil ?_
  refine X.seq ?_
  refine X.still ?_
  refine O.puE (v':=.os 28 (1) 0 _ true) (b':=⟨1, .own,_,_⟩) (U.litI rfl rfl (.cons .int .nil) rfl rfl) rfl rfl ?_
  refine O.pu (Pu.assign (.tmp (v:=.os _ _ _ _ _) rfl)) ?_
  refine O.nil ?_
  refine X.seq ?_
  refine X.still ?_
  refine O.pu (Pu.move (.tmp (v:=.fi _ _) rfl)) ?_
  refine O.pu (Pu.move (.tmp (v:=.os _ _ _ _ _) rfl)) ?_
  repeat rw [bdff] at h
  obtain ⟨q3,Hq3,h⟩:=Option.bind_eq_some_iff.1 h
  refine O.ef (U.callZ (ss:=[28]) (.cons (.tmp (v:=.fi _ _) rfl) (.cons (.tmp (v:=.os _ _ _ _ _) rfl) .nil)) (.cons (.cl .fi) (.cons (.osIf (by simp) rfl (Mode.live_ne rfl) rfl (by first|rfl|(simp only [List.length_set];done)|(simp only [List.length_drop,List.length_take,List.length_append,List.length_set] at *;omega))) .nil)) (chattelref01_Mul.cs Hq3) (.fi) (nowin rfl)) ?_
  refine O.pu (Pu.assign (.tmp (v:=.fi _ _) rfl)) ?_
  refine O.nil ?_
  refine X.seq ?_
  refine X.still ?_
  refine O.pu (Pu.move (.tmp (v:=.fi _ _) rfl)) ?_
  refine O.pu (U.fieldA rfl rfl rfl (.tmp rfl)) ?_
  refine O.pu (U.load (.tmp rfl) rfl rfl (U.cell rfl rfl rfl)) ?_
  obtain ⟨q4,Hq4,h⟩:=Option.bind_eq_some_iff.1 h
  refine O.pu (U.call (ss:=[]) (.cons (.tmp (v:=.fi _ _) rfl) (.cons (.tmp (v:=.fi _ _) rfl) .nil)) (.cons (.cl .fi) (.cons (.cl .fi) .nil)) (chattelref01_Cmp.cs Hq4) (.inl rfl) (.int)) ?_
  refine O.pu (Pu.assign (.tmp (v:=.int _ _) rfl)) ?_
  refine O.nil ?_
  refine X.seq ?_
  refine X.still ?_
  refine O.pu (Pu.move (.tmp (v:=.fi _ _) rfl)) ?_
  refine O.pu (Pu.move (.tmp (v:=.os _ _ _ _ _) rfl)) ?_
  obtain ⟨q5,Hq5,h⟩:=Option.bind_eq_some_iff.1 h
  refine O.ef (U.callZ (ss:=[28]) (.cons (.tmp (v:=.fi _ _) rfl) (.cons (.tmp (v:=.os _ _ _ _ _) rfl) .nil)) (.cons (.cl .fi) (.cons (.osIf (by simp) rfl (Mode.live_ne rfl) rfl (by first|rfl|(simp only [List.length_set];done)|(simp only [List.length_drop,List.length_take,List.length_append,List.length_set] at *;omega))) .nil)) (chattelref01_DivMod.cs Hq5) (.tupL (.cons .fi (.cons .fi .nil))) (nowin rfl)) ?_
  refine O.pu (Pu.move (.tmp (v:=.tup _) rfl)) ?_
  refine O.pu (Pu.extract (.tmp rfl) rfl) ?_
  refine O.pu (Pu.extract (.tmp rfl) rfl) ?_
  refine O.pu (Pu.assign (.tmp (v:=.fi _ _) rfl)) ?_
  refine O.pu (Pu.assign (.tmp (v:=.fi _ _) rfl)) ?_
  refine O.nil ?_
  refine X.seq ?_
  refine X.still ?_
  refine O.pu (Pu.assign .bool) ?_
  refine O.nil ?_
  refine X.seq ?_
  refine X.seq ?_
  refine X.still ?_
  refine O.pu (Pu.move (.tmp (v:=.fi _ _) rfl)) ?_
  refine O.pu (Pu.lenI rfl (.tmp rfl)) ?_
  refine O.pu (Pu.bin (.tmp rfl) .int .gtr) ?_
  refine O.nil ?_
  refine X.condP (.tmp rfl) (fun c=>?_) (fun c=>?_)
  · rw [if_pos c] at h
    refine X.seq ?_
    refine X.seq ?_
    refine X.still ?_
    refine O.pu (Pu.move (.tmp (v:=.int _ _) rfl)) ?_
    refine O.pu (Pu.bin (.tmp rfl) .int .eql) ?_
    refine O.nil ?_
    refine X.condE (.tmp rfl) (fun c=>?_) (fun c=>?_)
    · rw [if_pos c] at h
      refine X.still ?_
      refine O.pu (Pu.assign .bool) ?_
      refine O.nil ?_
      refine X.seq ?_
      refine X.seq ?_
      refine X.still ?_
      refine O.pu (Pu.move (.tmp (v:=.int _ _) rfl)) ?_
      refine O.pu (Pu.bin (.tmp rfl) .int .eql) ?_
      refine O.nil ?_
      repeat (rw [chattelref06_Whole.j0_e] at h;obtain ⟨k,_,h⟩:=h;unfold chattelref06_Whole.j0 at h;try dsimp only at h)
      refine X.condE (.tmp rfl) (fun c=>?_) (fun c=>?_)
      · rw [if_pos c] at h
        refine X.still ?_
        refine O.pu (Pu.move (.tmp (v:=.int _ _) rfl)) ?_
        refine O.pu (Pu.bin (.tmp rfl) .int .geq) ?_
        refine O.pu (Pu.assign (.tmp (v:=.bool _) rfl)) ?_
        refine O.nil ?_
        refine X.seq ?_
        refine X.seq ?_
        refine X.still ?_
        refine O.pu (Pu.move (.tmp (v:=.int _ _) rfl)) ?_
        refine O.pu (Pu.bin (.tmp rfl) .int .eql) ?_
        refine O.nil ?_
        repeat (rw [chattelref06_Whole.j1_e] at h;obtain ⟨k,_,h⟩:=h;unfold chattelref06_Whole.j1 at h;try dsimp only at h)
        refine X.condE (.tmp rfl) (fun c=>?_) (fun c=>?_)
        · rw [if_pos c] at h
          refine X.still ?_
          refine O.pu (Pu.move (.tmp (v:=.int _ _) rfl)) ?_
          refine O.pu (Pu.bin (.tmp rfl) .int .gtr) ?_
          refine O.pu (Pu.assign (.tmp (v:=.bool _) rfl)) ?_
          refine O.nil ?_
          refine X.seq ?_
          refine X.still ?_
          refine O.pu (Pu.move (.tmp (v:=.int _ _) rfl)) ?_
          refine O.pu (Pu.bin (.tmp rfl) .int .eql) ?_
          refine O.nil ?_
          refine X.condE (.tmp rfl) (fun c=>?_) (fun c=>?_)
          · rw [if_pos c] at h
            refine X.still ?_
            refine O.pu (Pu.move (.tmp (v:=.int _ _) rfl)) ?_
            refine O.pu (Pu.bin (.tmp rfl) .int .gtr) ?_
            refine O.pu (Pu.move (.tmp (v:=.bool _) rfl)) ?_
            refine O.splitP (fun c=>?_) (fun c=>?_)
            · rw [if_pos c] at h
              refine G.skip (W.f rfl rfl rfl) ?_
              refine G.skip (W.f rfl rfl rfl) ?_
              refine G.skipN (b:=true) (W.f rfl rfl rfl) ?_
              refine G.skip (W.n rfl rfl) ?_
              refine G.skip (W.n rfl rfl) ?_
              refine G.skip (W.n rfl rfl) ?_
              refine G.skip (W.f rfl rfl rfl) ?_
              refine O.pu (Pu.pickT (.tmp rfl) .bool) ?_
              refine O.pu (Pu.assign (.tmp (v:=.bool _) rfl)) ?_
              refine O.nil ?_
              refine X.seq ?_
              refine X.seq ?_
              refine X.still ?_
              refine O.pu (Pu.move (.tmp (v:=.bool _) rfl)) ?_
              refine O.nil ?_
              repeat (rw [chattelref06_Whole.j2_e] at h;obtain ⟨k,_,h⟩:=h;unfold chattelref06_Whole.j2 at h;try dsimp only at h)
              rw [if_pos rfl] at h
              refine X.condT (.tmp rfl) ?_
              refine X.seq ?_
              refine X.still ?_
              refine O.pu (Pu.move (.tmp (v:=.fi _ _) rfl)) ?_
              refine O.pu (U.fieldA rfl rfl rfl (.tmp rfl)) ?_
              refine O.pu (U.fieldA rfl rfl rfl (.tmp rfl)) ?_
              refine O.pu (U.load (.tmp rfl) rfl rfl (U.cell rfl rfl rfl)) ?_
              obtain ⟨q6,Hq6,h⟩:=Option.bind_eq_some_iff.1 h
              refine O.pu (U.call (ss:=[]) (.cons (.tmp (v:=.fi _ _) rfl) (.cons (.tmp (v:=.bool _) rfl) .nil)) (.cons (.cl .fi) (.cons (.cl .bool) .nil)) (chattelref04_Of.cs Hq6) (.inl rfl) (.aggL (.cons .fi (.cons .bool .nil)))) ?_
              refine O.ef0 (U.storeE (.tmp rfl) rfl rfl (.tmp (v:=.agg _) rfl) rfl rfl (.whole (notBad_ne rfl) rfl) .one) ?_
              refine O.nil ?_
              refine X.ret ?_
              cases h
              exact E.fin [] (.cell rfl rfl (Mode.live_ne rfl) (U.whole rfl rfl) .nil) (.cons (.cl (.aggL (.cons .fi (.cons .bool .nil)))) .nil)
            · rw [if_neg c] at h
              refine G.pu (W.t rfl rfl) (Pu.move (.tmp (v:=.int _ _) rfl)) ?_
              refine G.pu (W.t rfl rfl) (Pu.bin (.tmp rfl) .int .eql) ?_
              refine G.pu (W.t rfl rfl) (Pu.move (.tmp (v:=.bool _) rfl)) ?_
              refine O.splitE (fun c=>?_) (fun c=>?_)
              · rw [if_pos c] at h
                refine G.pu (W.t rfl rfl) (Pu.move (.tmp (v:=.fi _ _) rfl)) ?_
                refine G.pu (W.t rfl rfl) (Pu.lenI rfl (.tmp rfl)) ?_
                refine G.pu (W.t rfl rfl) (Pu.bin (.tmp rfl) .int .gtr) ?_
                refine G.pu (W.t rfl rfl) (Pu.pickT (.tmp rfl) (.tmp (v:=.bool _) rfl)) ?_
                refine O.pu (Pu.pickF (.tmp rfl) (.tmp (v:=.bool _) rfl)) ?_
                refine O.pu (Pu.assign (.tmp (v:=.bool _) rfl)) ?_
                refine O.nil ?_
                refine X.seq ?_
                refine X.seq ?_
                refine X.still ?_
                refine O.pu (Pu.move (.tmp (v:=.bool _) rfl)) ?_
                refine O.nil ?_
                repeat (rw [chattelref06_Whole.j2_e] at h;obtain ⟨k,_,h⟩:=h;unfold chattelref06_Whole.j2 at h;try dsimp only at h)
                refine X.condP (.tmp rfl) (fun c=>?_) (fun c=>?_)
                · rw [if_pos (decide_eq_true c)] at h
                  refine X.seq ?_
                  refine X.still ?_
                  refine O.pu (Pu.move (.tmp (v:=.fi _ _) rfl)) ?_
                  refine O.pu (U.fieldA rfl rfl rfl (.tmp rfl)) ?_
                  refine O.pu (U.fieldA rfl rfl rfl (.tmp rfl)) ?_
                  refine O.pu (U.load (.tmp rfl) rfl rfl (U.cell rfl rfl rfl)) ?_
                  obtain ⟨q7,Hq7,h⟩:=Option.bind_eq_some_iff.1 h
                  refine O.pu (U.call (ss:=[]) (.cons (.tmp (v:=.fi _ _) rfl) (.cons (.tmp (v:=.bool _) rfl) .nil)) (.cons (.cl .fi) (.cons (.cl .bool) .nil)) (chattelref04_Of.cs Hq7) (.inl rfl) (.aggL (.cons .fi (.cons .bool .nil)))) ?_
                  refine O.ef0 (U.storeE (.tmp rfl) rfl rfl (.tmp (v:=.agg _) rfl) rfl rfl (.whole (notBad_ne rfl) rfl) .one) ?_
                  refine O.nil ?_
                  refine X.ret ?_
                  cases h
                  exact E.fin [] (.cell rfl rfl (Mode.live_ne rfl) (U.whole rfl rfl) .nil) (.cons (.cl (.aggL (.cons .fi (.cons .bool .nil)))) .nil)
                · rw [if_neg (nd c)] at h
                  refine X.skip ?_
                  refine X.seq ?_
                  refine X.still ?_
                  refine O.pu (Pu.move (.tmp (v:=.fi _ _) rfl)) ?_
                  refine O.pu (U.fieldA rfl rfl rfl (.tmp rfl)) ?_
                  refine O.pu (U.fieldA rfl rfl rfl (.tmp rfl)) ?_
                  refine O.pu (U.load (.tmp rfl) rfl rfl (U.cell rfl rfl rfl)) ?_
                  obtain ⟨q8,Hq8,h⟩:=Option.bind_eq_some_iff.1 h
                  refine O.pu (U.call (ss:=[]) (.cons (.tmp (v:=.fi _ _) rfl) (.cons (.tmp (v:=.bool _) rfl) .nil)) (.cons (.cl .fi) (.cons (.cl .bool) .nil)) (chattelref04_Of.cs Hq8) (.inl rfl) (.aggL (.cons .fi (.cons .bool .nil)))) ?_
                  refine O.ef0 (U.storeE (.tmp rfl) rfl rfl (.tmp (v:=.agg _) rfl) rfl rfl (.whole (notBad_ne rfl) rfl) .one) ?_
                  refine O.nil ?_
                  refine X.ret ?_
                  cases h
                  exact E.fin [] (.cell rfl rfl (Mode.live_ne rfl) (U.whole rfl rfl) .nil) (.cons (.cl (.aggL (.cons .fi (.cons .bool .nil)))) .nil)
              · rw [if_neg c] at h
                refine G.skip (W.f rfl rfl rfl) ?_
                refine G.skip (W.f rfl rfl rfl) ?_
                refine G.skip (W.f rfl rfl rfl) ?_
                refine G.pu (W.t rfl rfl) (Pu.pickF (.tmp rfl) .bool) ?_
                refine O.pu (Pu.pickF (.tmp rfl) (.tmp (v:=.bool _) rfl)) ?_
                refine O.pu (Pu.assign (.tmp (v:=.bool _) rfl)) ?_
                refine O.nil ?_
                refine X.seq ?_
                refine X.seq ?_
                refine X.still ?_
                refine O.pu (Pu.move (.tmp (v:=.bool _) rfl)) ?_
                refine O.nil ?_
                repeat (rw [chattelref06_Whole.j2_e] at h;obtain ⟨k,_,h⟩:=h;unfold chattelref06_Whole.j2 at h;try dsimp only at h)
                rw [if_neg Bool.false_ne_true] at h
                refine X.condF (.tmp rfl) ?_
                refine X.skip ?_
                refine X.seq ?_
                refine X.still ?_
                refine O.pu (Pu.move (.tmp (v:=.fi _ _) rfl)) ?_
                refine O.pu (U.fieldA rfl rfl rfl (.tmp rfl)) ?_
                refine O.pu (U.fieldA rfl rfl rfl (.tmp rfl)) ?_
                refine O.pu (U.load (.tmp rfl) rfl rfl (U.cell rfl rfl rfl)) ?_
                obtain ⟨q9,Hq9,h⟩:=Option.bind_eq_some_iff.1 h
                refine O.pu (U.call (ss:=[]) (.cons (.tmp (v:=.fi _ _) rfl) (.cons (.tmp (v:=.bool _) rfl) .nil)) (.cons (.cl .fi) (.cons (.cl .bool) .nil)) (chattelref04_Of.cs Hq9) (.inl rfl) (.aggL (.cons .fi (.cons .bool .nil)))) ?_
                refine O.ef0 (U.storeE (.tmp rfl) rfl rfl (.tmp (v:=.agg _) rfl) rfl rfl (.whole (notBad_ne rfl) rfl) .one) ?_
                refine O.nil ?_
                refine X.ret ?_
                cases h
                exact E.fin [] (.cell rfl rfl (Mode.live_ne rfl) (U.whole rfl rfl) .nil) (.cons (.cl (.aggL (.cons .fi (.cons .bool .nil)))) .nil)
          · rw [if_neg c] at h
            refine X.skip ?_
            refine X.seq ?_
            refine X.seq ?_
            refine X.still ?_
            refine O.pu (Pu.move (.tmp (v:=.bool _) rfl)) ?_
            refine O.nil ?_
            repeat (rw [chattelref06_Whole.j2_e] at h;obtain ⟨k,_,h⟩:=h;unfold chattelref06_Whole.j2 at h;try dsimp only at h)
            refine X.condP (.tmp rfl) (fun c=>?_) (fun c=>?_)
            · rw [if_pos (decide_eq_true c)] at h
              refine X.seq ?_
              refine X.still ?_
              refine O.pu (Pu.move (.tmp (v:=.fi _ _) rfl)) ?_
              refine O.pu (U.fieldA rfl rfl rfl (.tmp rfl)) ?_
              refine O.pu (U.fieldA rfl rfl rfl (.tmp rfl)) ?_
              refine O.pu (U.load (.tmp rfl) rfl rfl (U.cell rfl rfl rfl)) ?_
              obtain ⟨q10,Hq10,h⟩:=Option.bind_eq_some_iff.1 h
              refine O.pu (U.call (ss:=[]) (.cons (.tmp (v:=.fi _ _) rfl) (.cons (.tmp (v:=.bool _) rfl) .nil)) (.cons (.cl .fi) (.cons (.cl .bool) .nil)) (chattelref04_Of.cs Hq10) (.inl rfl) (.aggL (.cons .fi (.cons .bool .nil)))) ?_
              refine O.ef0 (U.storeE (.tmp rfl) rfl rfl (.tmp (v:=.agg _) rfl) rfl rfl (.whole (notBad_ne rfl) rfl) .one) ?_
              refine O.nil ?_
              refine X.ret ?_
              cases h
              exact E.fin [] (.cell rfl rfl (Mode.live_ne rfl) (U.whole rfl rfl) .nil) (.cons (.cl (.aggL (.cons .fi (.cons .bool .nil)))) .nil)
            · rw [if_neg (nd c)] at h
              refine X.skip ?_
              refine X.seq ?_
              refine X.still ?_
              refine O.pu (Pu.move (.tmp (v:=.fi _ _) rfl)) ?_
              refine O.pu (U.fieldA rfl rfl rfl (.tmp rfl)) ?_
              refine O.pu (U.fieldA rfl rfl rfl (.tmp rfl)) ?_
              refine O.pu (U.load (.tmp rfl) rfl rfl (U.cell rfl rfl rfl)) ?_
              obtain ⟨q11,Hq11,h⟩:=Option.bind_eq_some_iff.1 h
              refine O.pu (U.call (ss:=[]) (.cons (.tmp (v:=.fi _ _) rfl) (.cons (.tmp (v:=.bool _) rfl) .nil)) (.cons (.cl .fi) (.cons (.cl .bool) .nil)) (chattelref04_Of.cs Hq11) (.inl rfl) (.aggL (.cons .fi (.cons .bool .nil)))) ?_
              refine O.ef0 (U.storeE (.tmp rfl) rfl rfl (.tmp (v:=.agg _) rfl) rfl rfl (.whole (notBad_ne rfl) rfl) .one) ?_
              refine O.nil ?_
              refine X.ret ?_
              cases h
              exact E.fin [] (.cell rfl rfl (Mode.live_ne rfl) (U.whole rfl rfl) .nil) (.cons (.cl (.aggL (.cons .fi (.cons .bool .nil)))) .nil)
        · rw [if_neg c] at h
          refine X.skip ?_
          refine X.seq ?_
          refine X.still ?_
          refine O.pu (Pu.move (.tmp (v:=.int _ _) rfl)) ?_
          refine O.pu (Pu.bin (.tmp rfl) .int .eql) ?_
          refine O.nil ?_
          refine X.condE (.tmp rfl) (fun c=>?_) (fun c=>?_)
          · rw [if_pos c] at h
            refine X.still ?_
            refine O.pu (Pu.move (.tmp (v:=.int _ _) rfl)) ?_
            refine O.pu (Pu.bin (.tmp rfl) .int .gtr) ?_
            refine O.pu (Pu.move (.tmp (v:=.bool _) rfl)) ?_
            refine O.splitP (fun c=>?_) (fun c=>?_)
            · rw [if_pos c] at h
              refine G.skip (W.f rfl rfl rfl) ?_
              refine G.skip (W.f rfl rfl rfl) ?_
              refine G.skipN (b:=true) (W.f rfl rfl rfl) ?_
              refine G.skip (W.n rfl rfl) ?_
              refine G.skip (W.n rfl rfl) ?_
              refine G.skip (W.n rfl rfl) ?_
              refine G.skip (W.f rfl rfl rfl) ?_
              refine O.pu (Pu.pickT (.tmp rfl) .bool) ?_
              refine O.pu (Pu.assign (.tmp (v:=.bool _) rfl)) ?_
              refine O.nil ?_
              refine X.seq ?_
              refine X.seq ?_
              refine X.still ?_
              refine O.pu (Pu.move (.tmp (v:=.bool _) rfl)) ?_
              refine O.nil ?_
              repeat (rw [chattelref06_Whole.j2_e] at h;obtain ⟨k,_,h⟩:=h;unfold chattelref06_Whole.j2 at h;try dsimp only at h)
              rw [if_pos rfl] at h
              refine X.condT (.tmp rfl) ?_
              refine X.seq ?_
              refine X.still ?_
              refine O.pu (Pu.move (.tmp (v:=.fi _ _) rfl)) ?_
              refine O.pu (U.fieldA rfl rfl rfl (.tmp rfl)) ?_
              refine O.pu (U.fieldA rfl rfl rfl (.tmp rfl)) ?_
              refine O.pu (U.load (.tmp rfl) rfl rfl (U.cell rfl rfl rfl)) ?_
              obtain ⟨q12,Hq12,h⟩:=Option.bind_eq_some_iff.1 h
              refine O.pu (U.call (ss:=[]) (.cons (.tmp (v:=.fi _ _) rfl) (.cons (.tmp (v:=.bool _) rfl) .nil)) (.cons (.cl .fi) (.cons (.cl .bool) .nil)) (chattelref04_Of.cs Hq12) (.inl rfl) (.aggL (.cons .fi (.cons .bool .nil)))) ?_
              refine O.ef0 (U.storeE (.tmp rfl) rfl rfl (.tmp (v:=.agg _) rfl) rfl rfl (.whole (notBad_ne rfl) rfl) .one) ?_
              refine O.nil ?_
              refine X.ret ?_
              cases h
              exact E.fin [] (.cell rfl rfl (Mode.live_ne rfl) (U.whole rfl rfl) .nil) (.cons (.cl (.aggL (.cons .fi (.cons .bool .nil)))) .nil)
            · rw [if_neg c] at h
              refine G.pu (W.t rfl rfl) (Pu.move (.tmp (v:=.int _ _) rfl)) ?_
              refine G.pu (W.t rfl rfl) (Pu.bin (.tmp rfl) .int .eql) ?_
              refine G.pu (W.t rfl rfl) (Pu.move (.tmp (v:=.bool _) rfl)) ?_
              refine O.splitE (fun c=>?_) (fun c=>?_)
              · rw [if_pos c] at h
                refine G.pu (W.t rfl rfl) (Pu.move (.tmp (v:=.fi _ _) rfl)) ?_
                refine G.pu (W.t rfl rfl) (Pu.lenI rfl (.tmp rfl)) ?_
                refine G.pu (W.t rfl rfl) (Pu.bin (.tmp rfl) .int .gtr) ?_
                refine G.pu (W.t rfl rfl) (Pu.pickT (.tmp rfl) (.tmp (v:=.bool _) rfl)) ?_
                refine O.pu (Pu.pickF (.tmp rfl) (.tmp (v:=.bool _) rfl)) ?_
                refine O.pu (Pu.assign (.tmp (v:=.bool _) rfl)) ?_
                refine O.nil ?_
                refine X.seq ?_
                refine X.seq ?_
                refine X.still ?_
                refine O.pu (Pu.move (.tmp (v:=.bool _) rfl)) ?_
                refine O.nil ?_
                repeat (rw [chattelref06_Whole.j2_e] at h;obtain ⟨k,_,h⟩:=h;unfold chattelref06_Whole.j2 at h;try dsimp only at h)
                refine X.condP (.tmp rfl) (fun c=>?_) (fun c=>?_)
                · rw [if_pos (decide_eq_true c)] at h
                  refine X.seq ?_
                  refine X.still ?_
                  refine O.pu (Pu.move (.tmp (v:=.fi _ _) rfl)) ?_
                  refine O.pu (U.fieldA rfl rfl rfl (.tmp rfl)) ?_
                  refine O.pu (U.fieldA rfl rfl rfl (.tmp rfl)) ?_
                  refine O.pu (U.load (.tmp rfl) rfl rfl (U.cell rfl rfl rfl)) ?_
                  obtain ⟨q13,Hq13,h⟩:=Option.bind_eq_some_iff.1 h
                  refine O.pu (U.call (ss:=[]) (.cons (.tmp (v:=.fi _ _) rfl) (.cons (.tmp (v:=.bool _) rfl) .nil)) (.cons (.cl .fi) (.cons (.cl .bool) .nil)) (chattelref04_Of.cs Hq13) (.inl rfl) (.aggL (.cons .fi (.cons .bool .nil)))) ?_
                  refine O.ef0 (U.storeE (.tmp rfl) rfl rfl (.tmp (v:=.agg _) rfl) rfl rfl (.whole (notBad_ne rfl) rfl) .one) ?_
                  refine O.nil ?_
                  refine X.ret ?_
                  cases h
                  exact E.fin [] (.cell rfl rfl (Mode.live_ne rfl) (U.whole rfl rfl) .nil) (.cons (.cl (.aggL (.cons .fi (.cons .bool .nil)))) .nil)
                · rw [if_neg (nd c)] at h
                  refine X.skip ?_
                  refine X.seq ?_
                  refine X.still ?_
                  refine O.pu (Pu.move (.tmp (v:=.fi _ _) rfl)) ?_
                  refine O.pu (U.fieldA rfl rfl rfl (.tmp rfl)) ?_
                  refine O.pu (U.fieldA rfl rfl rfl (.tmp rfl)) ?_
                  refine O.pu (U.load (.tmp rfl) rfl rfl (U.cell rfl rfl rfl)) ?_
                  obtain ⟨q14,Hq14,h⟩:=Option.bind_eq_some_iff.1 h
                  refine O.pu (U.call (ss:=[]) (.cons (.tmp (v:=.fi _ _) rfl) (.cons (.tmp (v:=.bool _) rfl) .nil)) (.cons (.cl .fi) (.cons (.cl .bool) .nil)) (chattelref04_Of.cs Hq14) (.inl rfl) (.aggL (.cons .fi (.cons .bool .nil)))) ?_
                  refine O.ef0 (U.storeE (.tmp rfl) rfl rfl (.tmp (v:=.agg _) rfl) rfl rfl (.whole (notBad_ne rfl) rfl) .one) ?_
                  refine O.nil ?_
                  refine X.ret ?_
                  cases h
                  exact E.fin [] (.cell rfl rfl (Mode.live_ne rfl) (U.whole rfl rfl) .nil) (.cons (.cl (.aggL (.cons .fi (.cons .bool .nil)))) .nil)
              · rw [if_neg c] at h
                refine G.skip (W.f rfl rfl rfl) ?_
                refine G.skip (W.f rfl rfl rfl) ?_
                refine G.skip (W.f rfl rfl rfl) ?_
                refine G.pu (W.t rfl rfl) (Pu.pickF (.tmp rfl) .bool) ?_
                refine O.pu (Pu.pickF (.tmp rfl) (.tmp (v:=.bool _) rfl)) ?_
                refine O.pu (Pu.assign (.tmp (v:=.bool _) rfl)) ?_
                refine O.nil ?_
                refine X.seq ?_
                refine X.seq ?_
                refine X.still ?_
                refine O.pu (Pu.move (.tmp (v:=.bool _) rfl)) ?_
                refine O.nil ?_
                repeat (rw [chattelref06_Whole.j2_e] at h;obtain ⟨k,_,h⟩:=h;unfold chattelref06_Whole.j2 at h;try dsimp only at h)
                rw [if_neg Bool.false_ne_true] at h
                refine X.condF (.tmp rfl) ?_
                refine X.skip ?_
                refine X.seq ?_
                refine X.still ?_
                refine O.pu (Pu.move (.tmp (v:=.fi _ _) rfl)) ?_
                refine O.pu (U.fieldA rfl rfl rfl (.tmp rfl)) ?_
                refine O.pu (U.fieldA rfl rfl rfl (.tmp rfl)) ?_
                refine O.pu (U.load (.tmp rfl) rfl rfl (U.cell rfl rfl rfl)) ?_
                obtain ⟨q15,Hq15,h⟩:=Option.bind_eq_some_iff.1 h
                refine O.pu (U.call (ss:=[]) (.cons (.tmp (v:=.fi _ _) rfl) (.cons (.tmp (v:=.bool _) rfl) .nil)) (.cons (.cl .fi) (.cons (.cl .bool) .nil)) (chattelref04_Of.cs Hq15) (.inl rfl) (.aggL (.cons .fi (.cons .bool .nil)))) ?_
                refine O.ef0 (U.storeE (.tmp rfl) rfl rfl (.tmp (v:=.agg _) rfl) rfl rfl (.whole (notBad_ne rfl) rfl) .one) ?_
                refine O.nil ?_
                refine X.ret ?_
                cases h
                exact E.fin [] (.cell rfl rfl (Mode.live_ne rfl) (U.whole rfl rfl) .nil) (.cons (.cl (.aggL (.cons .fi (.cons .bool .nil)))) .nil)
          · rw [if_neg c] at h
            refine X.skip ?_
            refine X.seq ?_
            refine X.seq ?_
            refine X.still ?_
            refine O.pu (Pu.move (.tmp (v:=.bool _) rfl)) ?_
            refine O.nil ?_
            repeat (rw [chattelref06_Whole.j2_e] at h;obtain ⟨k,_,h⟩:=h;unfold chattelref06_Whole.j2 at h;try dsimp only at h)
            refine X.condP (.tmp rfl) (fun c=>?_) (fun c=>?_)
            · rw [if_pos (decide_eq_true c)] at h
              refine X.seq ?_
              refine X.still ?_
              refine O.pu (Pu.move (.tmp (v:=.fi _ _) rfl)) ?_
              refine O.pu (U.fieldA rfl rfl rfl (.tmp rfl)) ?_
              refine O.pu (U.fieldA rfl rfl rfl (.tmp rfl)) ?_
              refine O.pu (U.load (.tmp rfl) rfl rfl (U.cell rfl rfl rfl)) ?_
              obtain ⟨q16,Hq16,h⟩:=Option.bind_eq_some_iff.1 h
              refine O.pu (U.call (ss:=[]) (.cons (.tmp (v:=.fi _ _) rfl) (.cons (.tmp (v:=.bool _) rfl) .nil)) (.cons (.cl .fi) (.cons (.cl .bool) .nil)) (chattelref04_Of.cs Hq16) (.inl rfl) (.aggL (.cons .fi (.cons .bool .nil)))) ?_
              refine O.ef0 (U.storeE (.tmp rfl) rfl rfl (.tmp (v:=.agg _) rfl) rfl rfl (.whole (notBad_ne rfl) rfl) .one) ?_
              refine O.nil ?_
              refine X.ret ?_
              cases h
              exact E.fin [] (.cell rfl rfl (Mode.live_ne rfl) (U.whole rfl rfl) .nil) (.cons (.cl (.aggL (.cons .fi (.cons .bool .nil)))) .nil)
            · rw [if_neg (nd c)] at h
              refine X.skip ?_
              refine X.seq ?_
              refine X.still ?_
              refine O.pu (Pu.move (.tmp (v:=.fi _ _) rfl)) ?_
              refine O.pu (U.fieldA rfl rfl rfl (.tmp rfl)) ?_
              refine O.pu (U.fieldA rfl rfl rfl (.tmp rfl)) ?_
              refine O.pu (U.load (.tmp rfl) rfl rfl (U.cell rfl rfl rfl)) ?_
              obtain ⟨q17,Hq17,h⟩:=Option.bind_eq_some_iff.1 h
              refine O.pu (U.call (ss:=[]) (.cons (.tmp (v:=.fi _ _) rfl) (.cons (.tmp (v:=.bool _) rfl) .nil)) (.cons (.cl .fi) (.cons (.cl .bool) .nil)) (chattelref04_Of.cs Hq17) (.inl rfl) (.aggL (.cons .fi (.cons .bool .nil)))) ?_
              refine O.ef0 (U.storeE (.tmp rfl) rfl rfl (.tmp (v:=.agg _) rfl) rfl rfl (.whole (notBad_ne rfl) rfl) .one) ?_
              refine O.nil ?_
              refine X.ret ?_
              cases h
              exact E.fin [] (.cell rfl rfl (Mode.live_ne rfl) (U.whole rfl rfl) .nil) (.cons (.cl (.aggL (.cons .fi (.cons .bool .nil)))) .nil)
      · rw [if_neg c] at h
        refine X.skip ?_
        refine X.seq ?_
        refine X.seq ?_
        refine X.still ?_
        refine O.pu (Pu.move (.tmp (v:=.int _ _) rfl)) ?_
        refine O.pu (Pu.bin (.tmp rfl) .int .eql) ?_
        refine O.nil ?_
        repeat (rw [chattelref06_Whole.j1_e] at h;obtain ⟨k,_,h⟩:=h;unfold chattelref06_Whole.j1 at h;try dsimp only at h)
        refine X.condE (.tmp rfl) (fun c=>?_) (fun c=>?_)
        · rw [if_pos c] at h
          refine X.still ?_
          refine O.pu (Pu.move (.tmp (v:=.int _ _) rfl)) ?_
          refine O.pu (Pu.bin (.tmp rfl) .int .gtr) ?_
          refine O.pu (Pu.assign (.tmp (v:=.bool _) rfl)) ?_
          refine O.nil ?_
          refine X.seq ?_
          refine X.still ?_
          refine O.pu (Pu.move (.tmp (v:=.int _ _) rfl)) ?_
          refine O.pu (Pu.bin (.tmp rfl) .int .eql) ?_
          refine O.nil ?_
          refine X.condE (.tmp rfl) (fun c=>?_) (fun c=>?_)
          · rw [if_pos c] at h
            refine X.still ?_
            refine O.pu (Pu.move (.tmp (v:=.int _ _) rfl)) ?_
            refine O.pu (Pu.bin (.tmp rfl) .int .gtr) ?_
            refine O.pu (Pu.move (.tmp (v:=.bool _) rfl)) ?_
            refine O.splitP (fun c=>?_) (fun c=>?_)
            · rw [if_pos c] at h
              refine G.skip (W.f rfl rfl rfl) ?_
              refine G.skip (W.f rfl rfl rfl) ?_
              refine G.skipN (b:=true) (W.f rfl rfl rfl) ?_
              refine G.skip (W.n rfl rfl) ?_
              refine G.skip (W.n rfl rfl) ?_
              refine G.skip (W.n rfl rfl) ?_
              refine G.skip (W.f rfl rfl rfl) ?_
              refine O.pu (Pu.pickT (.tmp rfl) .bool) ?_
              refine O.pu (Pu.assign (.tmp (v:=.bool _) rfl)) ?_
              refine O.nil ?_
              refine X.seq ?_
              refine X.seq ?_
              refine X.still ?_
              refine O.pu (Pu.move (.tmp (v:=.bool _) rfl)) ?_
              refine O.nil ?_
              repeat (rw [chattelref06_Whole.j2_e] at h;obtain ⟨k,_,h⟩:=h;unfold chattelref06_Whole.j2 at h;try dsimp only at h)
              rw [if_pos rfl] at h
              refine X.condT (.tmp rfl) ?_
              refine X.seq ?_
              refine X.still ?_
              refine O.pu (Pu.move (.tmp (v:=.fi _ _) rfl)) ?_
              refine O.pu (U.fieldA rfl rfl rfl (.tmp rfl)) ?_
              refine O.pu (U.fieldA rfl rfl rfl (.tmp rfl)) ?_
              refine O.pu (U.load (.tmp rfl) rfl rfl (U.cell rfl rfl rfl)) ?_
              obtain ⟨q18,Hq18,h⟩:=Option.bind_eq_some_iff.1 h
              refine O.pu (U.call (ss:=[]) (.cons (.tmp (v:=.fi _ _) rfl) (.cons (.tmp (v:=.bool _) rfl) .nil)) (.cons (.cl .fi) (.cons (.cl .bool) .nil)) (chattelref04_Of.cs Hq18) (.inl rfl) (.aggL (.cons .fi (.cons .bool .nil)))) ?_
              refine O.ef0 (U.storeE (.tmp rfl) rfl rfl (.tmp (v:=.agg _) rfl) rfl rfl (.whole (notBad_ne rfl) rfl) .one) ?_
              refine O.nil ?_
              refine X.ret ?_
              cases h
              exact E.fin [] (.cell rfl rfl (Mode.live_ne rfl) (U.whole rfl rfl) .nil) (.cons (.cl (.aggL (.cons .fi (.cons .bool .nil)))) .nil)
            · rw [if_neg c] at h
              refine G.pu (W.t rfl rfl) (Pu.move (.tmp (v:=.int _ _) rfl)) ?_
              refine G.pu (W.t rfl rfl) (Pu.bin (.tmp rfl) .int .eql) ?_
              refine G.pu (W.t rfl rfl) (Pu.move (.tmp (v:=.bool _) rfl)) ?_
              refine O.splitE (fun c=>?_) (fun c=>?_)
              · rw [if_pos c] at h
                refine G.pu (W.t rfl rfl) (Pu.move (.tmp (v:=.fi _ _) rfl)) ?_
                refine G.pu (W.t rfl rfl) (Pu.lenI rfl (.tmp rfl)) ?_
                refine G.pu (W.t rfl rfl) (Pu.bin (.tmp rfl) .int .gtr) ?_
                refine G.pu (W.t rfl rfl) (Pu.pickT (.tmp rfl) (.tmp (v:=.bool _) rfl)) ?_
                refine O.pu (Pu.pickF (.tmp rfl) (.tmp (v:=.bool _) rfl)) ?_
                refine O.pu (Pu.assign (.tmp (v:=.bool _) rfl)) ?_
                refine O.nil ?_
                refine X.seq ?_
                refine X.seq ?_
                refine X.still ?_
                refine O.pu (Pu.move (.tmp (v:=.bool _) rfl)) ?_
                refine O.nil ?_
                repeat (rw [chattelref06_Whole.j2_e] at h;obtain ⟨k,_,h⟩:=h;unfold chattelref06_Whole.j2 at h;try dsimp only at h)
                refine X.condP (.tmp rfl) (fun c=>?_) (fun c=>?_)
                · rw [if_pos (decide_eq_true c)] at h
                  refine X.seq ?_
                  refine X.still ?_
                  refine O.pu (Pu.move (.tmp (v:=.fi _ _) rfl)) ?_
                  refine O.pu (U.fieldA rfl rfl rfl (.tmp rfl)) ?_
                  refine O.pu (U.fieldA rfl rfl rfl (.tmp rfl)) ?_
                  refine O.pu (U.load (.tmp rfl) rfl rfl (U.cell rfl rfl rfl)) ?_
                  obtain ⟨q19,Hq19,h⟩:=Option.bind_eq_some_iff.1 h
                  refine O.pu (U.call (ss:=[]) (.cons (.tmp (v:=.fi _ _) rfl) (.cons (.tmp (v:=.bool _) rfl) .nil)) (.cons (.cl .fi) (.cons (.cl .bool) .nil)) (chattelref04_Of.cs Hq19) (.inl rfl) (.aggL (.cons .fi (.cons .bool .nil)))) ?_
                  refine O.ef0 (U.storeE (.tmp rfl) rfl rfl (.tmp (v:=.agg _) rfl) rfl rfl (.whole (notBad_ne rfl) rfl) .one) ?_
                  refine O.nil ?_
                  refine X.ret ?_
                  cases h
                  exact E.fin [] (.cell rfl rfl (Mode.live_ne rfl) (U.whole rfl rfl) .nil) (.cons (.cl (.aggL (.cons .fi (.cons .bool .nil)))) .nil)
                · rw [if_neg (nd c)] at h
                  refine X.skip ?_
                  refine X.seq ?_
                  refine X.still ?_
                  refine O.pu (Pu.move (.tmp (v:=.fi _ _) rfl)) ?_
                  refine O.pu (U.fieldA rfl rfl rfl (.tmp rfl)) ?_
                  refine O.pu (U.fieldA rfl rfl rfl (.tmp rfl)) ?_
                  refine O.pu (U.load (.tmp rfl) rfl rfl (U.cell rfl rfl rfl)) ?_
                  obtain ⟨q20,Hq20,h⟩:=Option.bind_eq_some_iff.1 h
                  refine O.pu (U.call (ss:=[]) (.cons (.tmp (v:=.fi _ _) rfl) (.cons (.tmp (v:=.bool _) rfl) .nil)) (.cons (.cl .fi) (.cons (.cl .bool) .nil)) (chattelref04_Of.cs Hq20) (.inl rfl) (.aggL (.cons .fi (.cons .bool .nil)))) ?_
                  refine O.ef0 (U.storeE (.tmp rfl) rfl rfl (.tmp (v:=.agg _) rfl) rfl rfl (.whole (notBad_ne rfl) rfl) .one) ?_
                  refine O.nil ?_
                  refine X.ret ?_
                  cases h
                  exact E.fin [] (.cell rfl rfl (Mode.live_ne rfl) (U.whole rfl rfl) .nil) (.cons (.cl (.aggL (.cons .fi (.cons .bool .nil)))) .nil)
              · rw [if_neg c] at h
                refine G.skip (W.f rfl rfl rfl) ?_
                refine G.skip (W.f rfl rfl rfl) ?_
                refine G.skip (W.f rfl rfl rfl) ?_
                refine G.pu (W.t rfl rfl) (Pu.pickF (.tmp rfl) .bool) ?_
                refine O.pu (Pu.pickF (.tmp rfl) (.tmp (v:=.bool _) rfl)) ?_
                refine O.pu (Pu.assign (.tmp (v:=.bool _) rfl)) ?_
                refine O.nil ?_
                refine X.seq ?_
                refine X.seq ?_
                refine X.still ?_
                refine O.pu (Pu.move (.tmp (v:=.bool _) rfl)) ?_
                refine O.nil ?_
                repeat (rw [chattelref06_Whole.j2_e] at h;obtain ⟨k,_,h⟩:=h;unfold chattelref06_Whole.j2 at h;try dsimp only at h)
                rw [if_neg Bool.false_ne_true] at h
                refine X.condF (.tmp rfl) ?_
                refine X.skip ?_
                refine X.seq ?_
                refine X.still ?_
                refine O.pu (Pu.move (.tmp (v:=.fi _ _) rfl)) ?_
                refine O.pu (U.fieldA rfl rfl rfl (.tmp rfl)) ?_
                refine O.pu (U.fieldA rfl rfl rfl (.tmp rfl)) ?_
                refine O.pu (U.load (.tmp rfl) rfl rfl (U.cell rfl rfl rfl)) ?_
                obtain ⟨q21,Hq21,h⟩:=Option.bind_eq_some_iff.1 h
                refine O.pu (U.call (ss:=[]) (.cons (.tmp (v:=.fi _ _) rfl) (.cons (.tmp (v:=.bool _) rfl) .nil)) (.cons (.cl .fi) (.cons (.cl .bool) .nil)) (chattelref04_Of.cs Hq21) (.inl rfl) (.aggL (.cons .fi (.cons .bool .nil)))) ?_
                refine O.ef0 (U.storeE (.tmp rfl) rfl rfl (.tmp (v:=.agg _) rfl) rfl rfl (.whole (notBad_ne rfl) rfl) .one) ?_
                refine O.nil ?_
                refine X.ret ?_
                cases h
                exact E.fin [] (.cell rfl rfl (Mode.live_ne rfl) (U.whole rfl rfl) .nil) (.cons (.cl (.aggL (.cons .fi (.cons .bool .nil)))) .nil)
          · rw [if_neg c] at h
            refine X.skip ?_
            refine X.seq ?_
            refine X.seq ?_
            refine X.still ?_
            refine O.pu (Pu.move (.tmp (v:=.bool _) rfl)) ?_
            refine O.nil ?_
            repeat (rw [chattelref06_Whole.j2_e] at h;obtain ⟨k,_,h⟩:=h;unfold chattelref06_Whole.j2 at h;try dsimp only at h)
            refine X.condP (.tmp rfl) (fun c=>?_) (fun c=>?_)
            · rw [if_pos (decide_eq_true c)] at h
              refine X.seq ?_
              refine X.still ?_
              refine O.pu (Pu.move (.tmp (v:=.fi _ _) rfl)) ?_
              refine O.pu (U.fieldA rfl rfl rfl (.tmp rfl)) ?_
              refine O.pu (U.fieldA rfl rfl rfl (.tmp rfl)) ?_
              refine O.pu (U.load (.tmp rfl) rfl rfl (U.cell rfl rfl rfl)) ?_
              obtain ⟨q22,Hq22,h⟩:=Option.bind_eq_some_iff.1 h
              refine O.pu (U.call (ss:=[]) (.cons (.tmp (v:=.fi _ _) rfl) (.cons (.tmp (v:=.bool _) rfl) .nil)) (.cons (.cl .fi) (.cons (.cl .bool) .nil)) (chattelref04_Of.cs Hq22) (.inl rfl) (.aggL (.cons .fi (.cons .bool .nil)))) ?_
              refine O.ef0 (U.storeE (.tmp rfl) rfl rfl (.tmp (v:=.agg _) rfl) rfl rfl (.whole (notBad_ne rfl) rfl) .one) ?_
              refine O.nil ?_
              refine X.ret ?_
              cases h
              exact E.fin [] (.cell rfl rfl (Mode.live_ne rfl) (U.whole rfl rfl) .nil) (.cons (.cl (.aggL (.cons .fi (.cons .bool .nil)))) .nil)
            · rw [if_neg (nd c)] at h
              refine X.skip ?_
              refine X.seq ?_
              refine X.still ?_
              refine O.pu (Pu.move (.tmp (v:=.fi _ _) rfl)) ?_
              refine O.pu (U.fieldA rfl rfl rfl (.tmp rfl)) ?_
              refine O.pu (U.fieldA rfl rfl rfl (.tmp rfl)) ?_
              refine O.pu (U.load (.tmp rfl) rfl rfl (U.cell rfl rfl rfl)) ?_
              obtain ⟨q23,Hq23,h⟩:=Option.bind_eq_some_iff.1 h
              refine O.pu (U.call (ss:=[]) (.cons (.tmp (v:=.fi _ _) rfl) (.cons (.tmp (v:=.bool _) rfl) .nil)) (.cons (.cl .fi) (.cons (.cl .bool) .nil)) (chattelref04_Of.cs Hq23) (.inl rfl) (.aggL (.cons .fi (.cons .bool .nil)))) ?_
              refine O.ef0 (U.storeE (.tmp rfl) rfl rfl (.tmp (v:=.agg _) rfl) rfl rfl (.whole (notBad_ne rfl) rfl) .one) ?_
              refine O.nil ?_
              refine X.ret ?_
              cases h
              exact E.fin [] (.cell rfl rfl (Mode.live_ne rfl) (U.whole rfl rfl) .nil) (.cons (.cl (.aggL (.cons .fi (.cons .bool .nil)))) .nil)
        · rw [if_neg c] at h
          refine X.skip ?_
          refine X.seq ?_
          refine X.still ?_
          refine O.pu (Pu.move (.tmp (v:=.int _ _) rfl)) ?_
          refine O.pu (Pu.bin (.tmp rfl) .int .eql) ?_
          refine O.nil ?_
          refine X.condE (.tmp rfl) (fun c=>?_) (fun c=>?_)
          · rw [if_pos c] at h
            refine X.still ?_
            refine O.pu (Pu.move (.tmp (v:=.int _ _) rfl)) ?_
            refine O.pu (Pu.bin (.tmp rfl) .int .gtr) ?_
            refine O.pu (Pu.move (.tmp (v:=.bool _) rfl)) ?_
            refine O.splitP (fun c=>?_) (fun c=>?_)
            · rw [if_pos c] at h
              refine G.skip (W.f rfl rfl rfl) ?_
              refine G.skip (W.f rfl rfl rfl) ?_
              refine G.skipN (b:=true) (W.f rfl rfl rfl) ?_
              refine G.skip (W.n rfl rfl) ?_
              refine G.skip (W.n rfl rfl) ?_
              refine G.skip (W.n rfl rfl) ?_
              refine G.skip (W.f rfl rfl rfl) ?_
              refine O.pu (Pu.pickT (.tmp rfl) .bool) ?_
              refine O.pu (Pu.assign (.tmp (v:=.bool _) rfl)) ?_
              refine O.nil ?_
              refine X.seq ?_
              refine X.seq ?_
              refine X.still ?_
              refine O.pu (Pu.move (.tmp (v:=.bool _) rfl)) ?_
              refine O.nil ?_
              repeat (rw [chattelref06_Whole.j2_e] at h;obtain ⟨k,_,h⟩:=h;unfold chattelref06_Whole.j2 at h;try dsimp only at h)
              rw [if_pos rfl] at h
              refine X.condT (.tmp rfl) ?_
              refine X.seq ?_
              refine X.still ?_
              refine O.pu (Pu.move (.tmp (v:=.fi _ _) rfl)) ?_
              refine O.pu (U.fieldA rfl rfl rfl (.tmp rfl)) ?_
              refine O.pu (U.fieldA rfl rfl rfl (.tmp rfl)) ?_
              refine O.pu (U.load (.tmp rfl) rfl rfl (U.cell rfl rfl rfl)) ?_
              obtain ⟨q24,Hq24,h⟩:=Option.bind_eq_some_iff.1 h
              refine O.pu (U.call (ss:=[]) (.cons (.tmp (v:=.fi _ _) rfl) (.cons (.tmp (v:=.bool _) rfl) .nil)) (.cons (.cl .fi) (.cons (.cl .bool) .nil)) (chattelref04_Of.cs Hq24) (.inl rfl) (.aggL (.cons .fi (.cons .bool .nil)))) ?_
              refine O.ef0 (U.storeE (.tmp rfl) rfl rfl (.tmp (v:=.agg _) rfl) rfl rfl (.whole (notBad_ne rfl) rfl) .one) ?_
              refine O.nil ?_
              refine X.ret ?_
              cases h
              exact E.fin [] (.cell rfl rfl (Mode.live_ne rfl) (U.whole rfl rfl) .nil) (.cons (.cl (.aggL (.cons .fi (.cons .bool .nil)))) .nil)
            · rw [if_neg c] at h
              refine G.pu (W.t rfl rfl) (Pu.move (.tmp (v:=.int _ _) rfl)) ?_
              refine G.pu (W.t rfl rfl) (Pu.bin (.tmp rfl) .int .eql) ?_
              refine G.pu (W.t rfl rfl) (Pu.move (.tmp (v:=.bool _) rfl)) ?_
              refine O.splitE (fun c=>?_) (fun c=>?_)
              · rw [if_pos c] at h
                refine G.pu (W.t rfl rfl) (Pu.move (.tmp (v:=.fi _ _) rfl)) ?_
                refine G.pu (W.t rfl rfl) (Pu.lenI rfl (.tmp rfl)) ?_
                refine G.pu (W.t rfl rfl) (Pu.bin (.tmp rfl) .int .gtr) ?_
                refine G.pu (W.t rfl rfl) (Pu.pickT (.tmp rfl) (.tmp (v:=.bool _) rfl)) ?_
                refine O.pu (Pu.pickF (.tmp rfl) (.tmp (v:=.bool _) rfl)) ?_
                refine O.pu (Pu.assign (.tmp (v:=.bool _) rfl)) ?_
                refine O.nil ?_
                refine X.seq ?_
                refine X.seq ?_
                refine X.still ?_
                refine O.pu (Pu.move (.tmp (v:=.bool _) rfl)) ?_
                refine O.nil ?_
                repeat (rw [chattelref06_Whole.j2_e] at h;obtain ⟨k,_,h⟩:=h;unfold chattelref06_Whole.j2 at h;try dsimp only at h)
                refine X.condP (.tmp rfl) (fun c=>?_) (fun c=>?_)
                · rw [if_pos (decide_eq_true c)] at h
                  refine X.seq ?_
                  refine X.still ?_
                  refine O.pu (Pu.move (.tmp (v:=.fi _ _) rfl)) ?_
                  refine O.pu (U.fieldA rfl rfl rfl (.tmp rfl)) ?_
                  refine O.pu (U.fieldA rfl rfl rfl (.tmp rfl)) ?_
                  refine O.pu (U.load (.tmp rfl) rfl rfl (U.cell rfl rfl rfl)) ?_
                  obtain ⟨q25,Hq25,h⟩:=Option.bind_eq_some_iff.1 h
                  refine O.pu (U.call (ss:=[]) (.cons (.tmp (v:=.fi _ _) rfl) (.cons (.tmp (v:=.bool _) rfl) .nil)) (.cons (.cl .fi) (.cons (.cl .bool) .nil)) (chattelref04_Of.cs Hq25) (.inl rfl) (.aggL (.cons .fi (.cons .bool .nil)))) ?_
                  refine O.ef0 (U.storeE (.tmp rfl) rfl rfl (.tmp (v:=.agg _) rfl) rfl rfl (.whole (notBad_ne rfl) rfl) .one) ?_
                  refine O.nil ?_
                  refine X.ret ?_
                  cases h
                  exact E.fin [] (.cell rfl rfl (Mode.live_ne rfl) (U.whole rfl rfl) .nil) (.cons (.cl (.aggL (.cons .fi (.cons .bool .nil)))) .nil)
                · rw [if_neg (nd c)] at h
                  refine X.skip ?_
                  refine X.seq ?_
                  refine X.still ?_
                  refine O.pu (Pu.move (.tmp (v:=.fi _ _) rfl)) ?_
                  refine O.pu (U.fieldA rfl rfl rfl (.tmp rfl)) ?_
                  refine O.pu (U.fieldA rfl rfl rfl (.tmp rfl)) ?_
                  refine O.pu (U.load (.tmp rfl) rfl rfl (U.cell rfl rfl rfl)) ?_
                  obtain ⟨q26,Hq26,h⟩:=Option.bind_eq_some_iff.1 h
                  refine O.pu (U.call (ss:=[]) (.cons (.tmp (v:=.fi _ _) rfl) (.cons (.tmp (v:=.bool _) rfl) .nil)) (.cons (.cl .fi) (.cons (.cl .bool) .nil)) (chattelref04_Of.cs Hq26) (.inl rfl) (.aggL (.cons .fi (.cons .bool .nil)))) ?_
                  refine O.ef0 (U.storeE (.tmp rfl) rfl rfl (.tmp (v:=.agg _) rfl) rfl rfl (.whole (notBad_ne rfl) rfl) .one) ?_
                  refine O.nil ?_
                  refine X.ret ?_
                  cases h
                  exact E.fin [] (.cell rfl rfl (Mode.live_ne rfl) (U.whole rfl rfl) .nil) (.cons (.cl (.aggL (.cons .fi (.cons .bool .nil)))) .nil)
              · rw [if_neg c] at h
                refine G.skip (W.f rfl rfl rfl) ?_
                refine G.skip (W.f rfl rfl rfl) ?_
                refine G.skip (W.f rfl rfl rfl) ?_
                refine G.pu (W.t rfl rfl) (Pu.pickF (.tmp rfl) .bool) ?_
                refine O.pu (Pu.pickF (.tmp rfl) (.tmp (v:=.bool _) rfl)) ?_
                refine O.pu (Pu.assign (.tmp (v:=.bool _) rfl)) ?_
                refine O.nil ?_
                refine X.seq ?_
                refine X.seq ?_
                refine X.still ?_
                refine O.pu (Pu.move (.tmp (v:=.bool _) rfl)) ?_
                refine O.nil ?_
                repeat (rw [chattelref06_Whole.j2_e] at h;obtain ⟨k,_,h⟩:=h;unfold chattelref06_Whole.j2 at h;try dsimp only at h)
                rw [if_neg Bool.false_ne_true] at h
                refine X.condF (.tmp rfl) ?_
                refine X.skip ?_
                refine X.seq ?_
                refine X.still ?_
                refine O.pu (Pu.move (.tmp (v:=.fi _ _) rfl)) ?_
                refine O.pu (U.fieldA rfl rfl rfl (.tmp rfl)) ?_
                refine O.pu (U.fieldA rfl rfl rfl (.tmp rfl)) ?_
                refine O.pu (U.load (.tmp rfl) rfl rfl (U.cell rfl rfl rfl)) ?_
                obtain ⟨q27,Hq27,h⟩:=Option.bind_eq_some_iff.1 h
                refine O.pu (U.call (ss:=[]) (.cons (.tmp (v:=.fi _ _) rfl) (.cons (.tmp (v:=.bool _) rfl) .nil)) (.cons (.cl .fi) (.cons (.cl .bool) .nil)) (chattelref04_Of.cs Hq27) (.inl rfl) (.aggL (.cons .fi (.cons .bool .nil)))) ?_
                refine O.ef0 (U.storeE (.tmp rfl) rfl rfl (.tmp (v:=.agg _) rfl) rfl rfl (.whole (notBad_ne rfl) rfl) .one) ?_
                refine O.nil ?_
                refine X.ret ?_
                cases h
                exact E.fin [] (.cell rfl rfl (Mode.live_ne rfl) (U.whole rfl rfl) .nil) (.cons (.cl (.aggL (.cons .fi (.cons .bool .nil)))) .nil)
          · rw [if_neg c] at h
            refine X.skip ?_
            refine X.seq ?_
            refine X.seq ?_
            refine X.still ?_
            refine O.pu (Pu.move (.tmp (v:=.bool _) rfl)) ?_
            refine O.nil ?_
            repeat (rw [chattelref06_Whole.j2_e] at h;obtain ⟨k,_,h⟩:=h;unfold chattelref06_Whole.j2 at h;try dsimp only at h)
            rw [if_pos rfl] at h
            refine X.condT (.tmp rfl) ?_
            refine X.seq ?_
            refine X.still ?_
            refine O.pu (Pu.move (.tmp (v:=.fi _ _) rfl)) ?_
            refine O.pu (U.fieldA rfl rfl rfl (.tmp rfl)) ?_
            refine O.pu (U.fieldA rfl rfl rfl (.tmp rfl)) ?_
            refine O.pu (U.load (.tmp rfl) rfl rfl (U.cell rfl rfl rfl)) ?_
            obtain ⟨q28,Hq28,h⟩:=Option.bind_eq_some_iff.1 h
            refine O.pu (U.call (ss:=[]) (.cons (.tmp (v:=.fi _ _) rfl) (.cons (.tmp (v:=.bool _) rfl) .nil)) (.cons (.cl .fi) (.cons (.cl .bool) .nil)) (chattelref04_Of.cs Hq28) (.inl rfl) (.aggL (.cons .fi (.cons .bool .nil)))) ?_
            refine O.ef0 (U.storeE (.tmp rfl) rfl rfl (.tmp (v:=.agg _) rfl) rfl rfl (.whole (notBad_ne rfl) rfl) .one) ?_
            refine O.nil ?_
            refine X.ret ?_
            cases h
            exact E.fin [] (.cell rfl rfl (Mode.live_ne rfl) (U.whole rfl rfl) .nil) (.cons (.cl (.aggL (.cons .fi (.cons .bool .nil)))) .nil)
    · rw [if_neg c] at h
      refine X.skip ?_
      refine X.seq ?_
      refine X.seq ?_
      refine X.still ?_
      refine O.pu (Pu.move (.tmp (v:=.int _ _) rfl)) ?_
      refine O.pu (Pu.bin (.tmp rfl) .int .eql) ?_
      refine O.nil ?_
      repeat (rw [chattelref06_Whole.j0_e] at h;obtain ⟨k,_,h⟩:=h;unfold chattelref06_Whole.j0 at h;try dsimp only at h)
      refine X.condE (.tmp rfl) (fun c=>?_) (fun c=>?_)
      · rw [if_pos c] at h
        refine X.still ?_
        refine O.pu (Pu.move (.tmp (v:=.int _ _) rfl)) ?_
        refine O.pu (Pu.bin (.tmp rfl) .int .geq) ?_
        refine O.pu (Pu.assign (.tmp (v:=.bool _) rfl)) ?_
        refine O.nil ?_
        refine X.seq ?_
        refine X.seq ?_
        refine X.still ?_
        refine O.pu (Pu.move (.tmp (v:=.int _ _) rfl)) ?_
        refine O.pu (Pu.bin (.tmp rfl) .int .eql) ?_
        refine O.nil ?_
        repeat (rw [chattelref06_Whole.j1_e] at h;obtain ⟨k,_,h⟩:=h;unfold chattelref06_Whole.j1 at h;try dsimp only at h)
        refine X.condE (.tmp rfl) (fun c=>?_) (fun c=>?_)
        · rw [if_pos c] at h
          refine X.still ?_
          refine O.pu (Pu.move (.tmp (v:=.int _ _) rfl)) ?_
          refine O.pu (Pu.bin (.tmp rfl) .int .gtr) ?_
          refine O.pu (Pu.assign (.tmp (v:=.bool _) rfl)) ?_
          refine O.nil ?_
          refine X.seq ?_
          refine X.still ?_
          refine O.pu (Pu.move (.tmp (v:=.int _ _) rfl)) ?_
          refine O.pu (Pu.bin (.tmp rfl) .int .eql) ?_
          refine O.nil ?_
          refine X.condE (.tmp rfl) (fun c=>?_) (fun c=>?_)
          · rw [if_pos c] at h
            refine X.still ?_
            refine O.pu (Pu.move (.tmp (v:=.int _ _) rfl)) ?_
            refine O.pu (Pu.bin (.tmp rfl) .int .gtr) ?_
            refine O.pu (Pu.move (.tmp (v:=.bool _) rfl)) ?_
            refine O.splitP (fun c=>?_) (fun c=>?_)
            · rw [if_pos c] at h
              refine G.skip (W.f rfl rfl rfl) ?_
              refine G.skip (W.f rfl rfl rfl) ?_
              refine G.skipN (b:=true) (W.f rfl rfl rfl) ?_
              refine G.skip (W.n rfl rfl) ?_
              refine G.skip (W.n rfl rfl) ?_
              refine G.skip (W.n rfl rfl) ?_
              refine G.skip (W.f rfl rfl rfl) ?_
              refine O.pu (Pu.pickT (.tmp rfl) .bool) ?_
              refine O.pu (Pu.assign (.tmp (v:=.bool _) rfl)) ?_
              refine O.nil ?_
              refine X.seq ?_
              refine X.seq ?_
              refine X.still ?_
              refine O.pu (Pu.move (.tmp (v:=.bool _) rfl)) ?_
              refine O.nil ?_
              repeat (rw [chattelref06_Whole.j2_e] at h;obtain ⟨k,_,h⟩:=h;unfold chattelref06_Whole.j2 at h;try dsimp only at h)
              rw [if_pos rfl] at h
              refine X.condT (.tmp rfl) ?_
              refine X.seq ?_
              refine X.still ?_
              refine O.pu (Pu.move (.tmp (v:=.fi _ _) rfl)) ?_
              refine O.pu (U.fieldA rfl rfl rfl (.tmp rfl)) ?_
              refine O.pu (U.fieldA rfl rfl rfl (.tmp rfl)) ?_
              refine O.pu (U.load (.tmp rfl) rfl rfl (U.cell rfl rfl rfl)) ?_
              obtain ⟨q29,Hq29,h⟩:=Option.bind_eq_some_iff.1 h
              refine O.pu (U.call (ss:=[]) (.cons (.tmp (v:=.fi _ _) rfl) (.cons (.tmp (v:=.bool _) rfl) .nil)) (.cons (.cl .fi) (.cons (.cl .bool) .nil)) (chattelref04_Of.cs Hq29) (.inl rfl) (.aggL (.cons .fi (.cons .bool .nil)))) ?_
              refine O.ef0 (U.storeE (.tmp rfl) rfl rfl (.tmp (v:=.agg _) rfl) rfl rfl (.whole (notBad_ne rfl) rfl) .one) ?_
              refine O.nil ?_
              refine X.ret ?_
              cases h
              exact E.fin [] (.cell rfl rfl (Mode.live_ne rfl) (U.whole rfl rfl) .nil) (.cons (.cl (.aggL (.cons .fi (.cons .bool .nil)))) .nil)
            · rw [if_neg c] at h
              refine G.pu (W.t rfl rfl) (Pu.move (.tmp (v:=.int _ _) rfl)) ?_
              refine G.pu (W.t rfl rfl) (Pu.bin (.tmp rfl) .int .eql) ?_
              refine G.pu (W.t rfl rfl) (Pu.move (.tmp (v:=.bool _) rfl)) ?_
              refine O.splitE (fun c=>?_) (fun c=>?_)
              · rw [if_pos c] at h
                refine G.pu (W.t rfl rfl) (Pu.move (.tmp (v:=.fi _ _) rfl)) ?_
                refine G.pu (W.t rfl rfl) (Pu.lenI rfl (.tmp rfl)) ?_
                refine G.pu (W.t rfl rfl) (Pu.bin (.tmp rfl) .int .gtr) ?_
                refine G.pu (W.t rfl rfl) (Pu.pickT (.tmp rfl) (.tmp (v:=.bool _) rfl)) ?_
                refine O.pu (Pu.pickF (.tmp rfl) (.tmp (v:=.bool _) rfl)) ?_
                refine O.pu (Pu.assign (.tmp (v:=.bool _) rfl)) ?_
                refine O.nil ?_
                refine X.seq ?_
                refine X.seq ?_
                refine X.still ?_
                refine O.pu (Pu.move (.tmp (v:=.bool _) rfl)) ?_
                refine O.nil ?_
                repeat (rw [chattelref06_Whole.j2_e] at h;obtain ⟨k,_,h⟩:=h;unfold chattelref06_Whole.j2 at h;try dsimp only at h)
                refine X.condP (.tmp rfl) (fun c=>?_) (fun c=>?_)
                · rw [if_pos (decide_eq_true c)] at h
                  refine X.seq ?_
                  refine X.still ?_
                  refine O.pu (Pu.move (.tmp (v:=.fi _ _) rfl)) ?_
                  refine O.pu (U.fieldA rfl rfl rfl (.tmp rfl)) ?_
                  refine O.pu (U.fieldA rfl rfl rfl (.tmp rfl)) ?_
                  refine O.pu (U.load (.tmp rfl) rfl rfl (U.cell rfl rfl rfl)) ?_
                  obtain ⟨q30,Hq30,h⟩:=Option.bind_eq_some_iff.1 h
                  refine O.pu (U.call (ss:=[]) (.cons (.tmp (v:=.fi _ _) rfl) (.cons (.tmp (v:=.bool _) rfl) .nil)) (.cons (.cl .fi) (.cons (.cl .bool) .nil)) (chattelref04_Of.cs Hq30) (.inl rfl) (.aggL (.cons .fi (.cons .bool .nil)))) ?_
                  refine O.ef0 (U.storeE (.tmp rfl) rfl rfl (.tmp (v:=.agg _) rfl) rfl rfl (.whole (notBad_ne rfl) rfl) .one) ?_
                  refine O.nil ?_
                  refine X.ret ?_
                  cases h
                  exact E.fin [] (.cell rfl rfl (Mode.live_ne rfl) (U.whole rfl rfl) .nil) (.cons (.cl (.aggL (.cons .fi (.cons .bool .nil)))) .nil)
                · rw [if_neg (nd c)] at h
                  refine X.skip ?_
                  refine X.seq ?_
                  refine X.still ?_
                  refine O.pu (Pu.move (.tmp (v:=.fi _ _) rfl)) ?_
                  refine O.pu (U.fieldA rfl rfl rfl (.tmp rfl)) ?_
                  refine O.pu (U.fieldA rfl rfl rfl (.tmp rfl)) ?_
                  refine O.pu (U.load (.tmp rfl) rfl rfl (U.cell rfl rfl rfl)) ?_
                  obtain ⟨q31,Hq31,h⟩:=Option.bind_eq_some_iff.1 h
                  refine O.pu (U.call (ss:=[]) (.cons (.tmp (v:=.fi _ _) rfl) (.cons (.tmp (v:=.bool _) rfl) .nil)) (.cons (.cl .fi) (.cons (.cl .bool) .nil)) (chattelref04_Of.cs Hq31) (.inl rfl) (.aggL (.cons .fi (.cons .bool .nil)))) ?_
                  refine O.ef0 (U.storeE (.tmp rfl) rfl rfl (.tmp (v:=.agg _) rfl) rfl rfl (.whole (notBad_ne rfl) rfl) .one) ?_
                  refine O.nil ?_
                  refine X.ret ?_
                  cases h
                  exact E.fin [] (.cell rfl rfl (Mode.live_ne rfl) (U.whole rfl rfl) .nil) (.cons (.cl (.aggL (.cons .fi (.cons .bool .nil)))) .nil)
              · rw [if_neg c] at h
                refine G.skip (W.f rfl rfl rfl) ?_
                refine G.skip (W.f rfl rfl rfl) ?_
                refine G.skip (W.f rfl rfl rfl) ?_
                refine G.pu (W.t rfl rfl) (Pu.pickF (.tmp rfl) .bool) ?_
                refine O.pu (Pu.pickF (.tmp rfl) (.tmp (v:=.bool _) rfl)) ?_
                refine O.pu (Pu.assign (.tmp (v:=.bool _) rfl)) ?_
                refine O.nil ?_
                refine X.seq ?_
                refine X.seq ?_
                refine X.still ?_
                refine O.pu (Pu.move (.tmp (v:=.bool _) rfl)) ?_
                refine O.nil ?_
                repeat (rw [chattelref06_Whole.j2_e] at h;obtain ⟨k,_,h⟩:=h;unfold chattelref06_Whole.j2 at h;try dsimp only at h)
                rw [if_neg Bool.false_ne_true] at h
                refine X.condF (.tmp rfl) ?_
                refine X.skip ?_
                refine X.seq ?_
                refine X.still ?_
                refine O.pu (Pu.move (.tmp (v:=.fi _ _) rfl)) ?_
                refine O.pu (U.fieldA rfl rfl rfl (.tmp rfl)) ?_
                refine O.pu (U.fieldA rfl rfl rfl (.tmp rfl)) ?_
                refine O.pu (U.load (.tmp rfl) rfl rfl (U.cell rfl rfl rfl)) ?_
                obtain ⟨q32,Hq32,h⟩:=Option.bind_eq_some_iff.1 h
                refine O.pu (U.call (ss:=[]) (.cons (.tmp (v:=.fi _ _) rfl) (.cons (.tmp (v:=.bool _) rfl) .nil)) (.cons (.cl .fi) (.cons (.cl .bool) .nil)) (chattelref04_Of.cs Hq32) (.inl rfl) (.aggL (.cons .fi (.cons .bool .nil)))) ?_
                refine O.ef0 (U.storeE (.tmp rfl) rfl rfl (.tmp (v:=.agg _) rfl) rfl rfl (.whole (notBad_ne rfl) rfl) .one) ?_
                refine O.nil ?_
                refine X.ret ?_
                cases h
                exact E.fin [] (.cell rfl rfl (Mode.live_ne rfl) (U.whole rfl rfl) .nil) (.cons (.cl (.aggL (.cons .fi (.cons .bool .nil)))) .nil)
          · rw [if_neg c] at h
            refine X.skip ?_
            refine X.seq ?_
            refine X.seq ?_
            refine X.still ?_
            refine O.pu (Pu.move (.tmp (v:=.bool _) rfl)) ?_
            refine O.nil ?_
            repeat (rw [chattelref06_Whole.j2_e] at h;obtain ⟨k,_,h⟩:=h;unfold chattelref06_Whole.j2 at h;try dsimp only at h)
            refine X.condP (.tmp rfl) (fun c=>?_) (fun c=>?_)
            · rw [if_pos (decide_eq_true c)] at h
              refine X.seq ?_
              refine X.still ?_
              refine O.pu (Pu.move (.tmp (v:=.fi _ _) rfl)) ?_
              refine O.pu (U.fieldA rfl rfl rfl (.tmp rfl)) ?_
              refine O.pu (U.fieldA rfl rfl rfl (.tmp rfl)) ?_
              refine O.pu (U.load (.tmp rfl) rfl rfl (U.cell rfl rfl rfl)) ?_
              obtain ⟨q33,Hq33,h⟩:=Option.bind_eq_some_iff.1 h
              refine O.pu (U.call (ss:=[]) (.cons (.tmp (v:=.fi _ _) rfl) (.cons (.tmp (v:=.bool _) rfl) .nil)) (.cons (.cl .fi) (.cons (.cl .bool) .nil)) (chattelref04_Of.cs Hq33) (.inl rfl) (.aggL (.cons .fi (.cons .bool .nil)))) ?_
              refine O.ef0 (U.storeE (.tmp rfl) rfl rfl (.tmp (v:=.agg _) rfl) rfl rfl (.whole (notBad_ne rfl) rfl) .one) ?_
              refine O.nil ?_
              refine X.ret ?_
              cases h
              exact E.fin [] (.cell rfl rfl (Mode.live_ne rfl) (U.whole rfl rfl) .nil) (.cons (.cl (.aggL (.cons .fi (.cons .bool .nil)))) .nil)
            · rw [if_neg (nd c)] at h
              refine X.skip ?_
              refine X.seq ?_
              refine X.still ?_
              refine O.pu (Pu.move (.tmp (v:=.fi _ _) rfl)) ?_
              refine O.pu (U.fieldA rfl rfl rfl (.tmp rfl)) ?_
              refine O.pu (U.fieldA rfl rfl rfl (.tmp rfl)) ?_
              refine O.pu (U.load (.tmp rfl) rfl rfl (U.cell rfl rfl rfl)) ?_
              obtain ⟨q34,Hq34,h⟩:=Option.bind_eq_some_iff.1 h
              refine O.pu (U.call (ss:=[]) (.cons (.tmp (v:=.fi _ _) rfl) (.cons (.tmp (v:=.bool _) rfl) .nil)) (.cons (.cl .fi) (.cons (.cl .bool) .nil)) (chattelref04_Of.cs Hq34) (.inl rfl) (.aggL (.cons .fi (.cons .bool .nil)))) ?_
              refine O.ef0 (U.storeE (.tmp rfl) rfl rfl (.tmp (v:=.agg _) rfl) rfl rfl (.whole (notBad_ne rfl) rfl) .one) ?_
              refine O.nil ?_
              refine X.ret ?_
              cases h
              exact E.fin [] (.cell rfl rfl (Mode.live_ne rfl) (U.whole rfl rfl) .nil) (.cons (.cl (.aggL (.cons .fi (.cons .bool .nil)))) .nil)
        · rw [if_neg c] at h
          refine X.skip ?_
          refine X.seq ?_
          refine X.still ?_
          refine O.pu (Pu.move (.tmp (v:=.int _ _) rfl)) ?_
          refine O.pu (Pu.bin (.tmp rfl) .int .eql) ?_
          refine O.nil ?_
          refine X.condE (.tmp rfl) (fun c=>?_) (fun c=>?_)
          · rw [if_pos c] at h
            refine X.still ?_
            refine O.pu (Pu.move (.tmp (v:=.int _ _) rfl)) ?_
            refine O.pu (Pu.bin (.tmp rfl) .int .gtr) ?_
            refine O.pu (Pu.move (.tmp (v:=.bool _) rfl)) ?_
            refine O.splitP (fun c=>?_) (fun c=>?_)
            · rw [if_pos c] at h
              refine G.skip (W.f rfl rfl rfl) ?_
              refine G.skip (W.f rfl rfl rfl) ?_
              refine G.skipN (b:=true) (W.f rfl rfl rfl) ?_
              refine G.skip (W.n rfl rfl) ?_
              refine G.skip (W.n rfl rfl) ?_
              refine G.skip (W.n rfl rfl) ?_
              refine G.skip (W.f rfl rfl rfl) ?_
              refine O.pu (Pu.pickT (.tmp rfl) .bool) ?_
              refine O.pu (Pu.assign (.tmp (v:=.bool _) rfl)) ?_
              refine O.nil ?_
              refine X.seq ?_
              refine X.seq ?_
              refine X.still ?_
              refine O.pu (Pu.move (.tmp (v:=.bool _) rfl)) ?_
              refine O.nil ?_
              repeat (rw [chattelref06_Whole.j2_e] at h;obtain ⟨k,_,h⟩:=h;unfold chattelref06_Whole.j2 at h;try dsimp only at h)
              rw [if_pos rfl] at h
              refine X.condT (.tmp rfl) ?_
              refine X.seq ?_
              refine X.still ?_
              refine O.pu (Pu.move (.tmp (v:=.fi _ _) rfl)) ?_
              refine O.pu (U.fieldA rfl rfl rfl (.tmp rfl)) ?_
              refine O.pu (U.fieldA rfl rfl rfl (.tmp rfl)) ?_
              refine O.pu (U.load (.tmp rfl) rfl rfl (U.cell rfl rfl rfl)) ?_
              obtain ⟨q35,Hq35,h⟩:=Option.bind_eq_some_iff.1 h
              refine O.pu (U.call (ss:=[]) (.cons (.tmp (v:=.fi _ _) rfl) (.cons (.tmp (v:=.bool _) rfl) .nil)) (.cons (.cl .fi) (.cons (.cl .bool) .nil)) (chattelref04_Of.cs Hq35) (.inl rfl) (.aggL (.cons .fi (.cons .bool .nil)))) ?_
              refine O.ef0 (U.storeE (.tmp rfl) rfl rfl (.tmp (v:=.agg _) rfl) rfl rfl (.whole (notBad_ne rfl) rfl) .one) ?_
              refine O.nil ?_
              refine X.ret ?_
              cases h
              exact E.fin [] (.cell rfl rfl (Mode.live_ne rfl) (U.whole rfl rfl) .nil) (.cons (.cl (.aggL (.cons .fi (.cons .bool .nil)))) .nil)
            · rw [if_neg c] at h
              refine G.pu (W.t rfl rfl) (Pu.move (.tmp (v:=.int _ _) rfl)) ?_
              refine G.pu (W.t rfl rfl) (Pu.bin (.tmp rfl) .int .eql) ?_
              refine G.pu (W.t rfl rfl) (Pu.move (.tmp (v:=.bool _) rfl)) ?_
              refine O.splitE (fun c=>?_) (fun c=>?_)
              · rw [if_pos c] at h
                refine G.pu (W.t rfl rfl) (Pu.move (.tmp (v:=.fi _ _) rfl)) ?_
                refine G.pu (W.t rfl rfl) (Pu.lenI rfl (.tmp rfl)) ?_
                refine G.pu (W.t rfl rfl) (Pu.bin (.tmp rfl) .int .gtr) ?_
                refine G.pu (W.t rfl rfl) (Pu.pickT (.tmp rfl) (.tmp (v:=.bool _) rfl)) ?_
                refine O.pu (Pu.pickF (.tmp rfl) (.tmp (v:=.bool _) rfl)) ?_
                refine O.pu (Pu.assign (.tmp (v:=.bool _) rfl)) ?_
                refine O.nil ?_
                refine X.seq ?_
                refine X.seq ?_
                refine X.still ?_
                refine O.pu (Pu.move (.tmp (v:=.bool _) rfl)) ?_
                refine O.nil ?_
                repeat (rw [chattelref06_Whole.j2_e] at h;obtain ⟨k,_,h⟩:=h;unfold chattelref06_Whole.j2 at h;try dsimp only at h)
                refine X.condP (.tmp rfl) (fun c=>?_) (fun c=>?_)
                · rw [if_pos (decide_eq_true c)] at h
                  refine X.seq ?_
                  refine X.still ?_
                  refine O.pu (Pu.move (.tmp (v:=.fi _ _) rfl)) ?_
                  refine O.pu (U.fieldA rfl rfl rfl (.tmp rfl)) ?_
                  refine O.pu (U.fieldA rfl rfl rfl (.tmp rfl)) ?_
                  refine O.pu (U.load (.tmp rfl) rfl rfl (U.cell rfl rfl rfl)) ?_
                  obtain ⟨q36,Hq36,h⟩:=Option.bind_eq_some_iff.1 h
                  refine O.pu (U.call (ss:=[]) (.cons (.tmp (v:=.fi _ _) rfl) (.cons (.tmp (v:=.bool _) rfl) .nil)) (.cons (.cl .fi) (.cons (.cl .bool) .nil)) (chattelref04_Of.cs Hq36) (.inl rfl) (.aggL (.cons .fi (.cons .bool .nil)))) ?_
                  refine O.ef0 (U.storeE (.tmp rfl) rfl rfl (.tmp (v:=.agg _) rfl) rfl rfl (.whole (notBad_ne rfl) rfl) .one) ?_
                  refine O.nil ?_
                  refine X.ret ?_
                  cases h
                  exact E.fin [] (.cell rfl rfl (Mode.live_ne rfl) (U.whole rfl rfl) .nil) (.cons (.cl (.aggL (.cons .fi (.cons .bool .nil)))) .nil)
                · rw [if_neg (nd c)] at h
                  refine X.skip ?_
                  refine X.seq ?_
                  refine X.still ?_
                  refine O.pu (Pu.move (.tmp (v:=.fi _ _) rfl)) ?_
                  refine O.pu (U.fieldA rfl rfl rfl (.tmp rfl)) ?_
                  refine O.pu (U.fieldA rfl rfl rfl (.tmp rfl)) ?_
                  refine O.pu (U.load (.tmp rfl) rfl rfl (U.cell rfl rfl rfl)) ?_
                  obtain ⟨q37,Hq37,h⟩:=Option.bind_eq_some_iff.1 h
                  refine O.pu (U.call (ss:=[]) (.cons (.tmp (v:=.fi _ _) rfl) (.cons (.tmp (v:=.bool _) rfl) .nil)) (.cons (.cl .fi) (.cons (.cl .bool) .nil)) (chattelref04_Of.cs Hq37) (.inl rfl) (.aggL (.cons .fi (.cons .bool .nil)))) ?_
                  refine O.ef0 (U.storeE (.tmp rfl) rfl rfl (.tmp (v:=.agg _) rfl) rfl rfl (.whole (notBad_ne rfl) rfl) .one) ?_
                  refine O.nil ?_
                  refine X.ret ?_
                  cases h
                  exact E.fin [] (.cell rfl rfl (Mode.live_ne rfl) (U.whole rfl rfl) .nil) (.cons (.cl (.aggL (.cons .fi (.cons .bool .nil)))) .nil)
              · rw [if_neg c] at h
                refine G.skip (W.f rfl rfl rfl) ?_
                refine G.skip (W.f rfl rfl rfl) ?_
                refine G.skip (W.f rfl rfl rfl) ?_
                refine G.pu (W.t rfl rfl) (Pu.pickF (.tmp rfl) .bool) ?_
                refine O.pu (Pu.pickF (.tmp rfl) (.tmp (v:=.bool _) rfl)) ?_
                refine O.pu (Pu.assign (.tmp (v:=.bool _) rfl)) ?_
                refine O.nil ?_
                refine X.seq ?_
                refine X.seq ?_
                refine X.still ?_
                refine O.pu (Pu.move (.tmp (v:=.bool _) rfl)) ?_
                refine O.nil ?_
                repeat (rw [chattelref06_Whole.j2_e] at h;obtain ⟨k,_,h⟩:=h;unfold chattelref06_Whole.j2 at h;try dsimp only at h)
                rw [if_neg Bool.false_ne_true] at h
                refine X.condF (.tmp rfl) ?_
                refine X.skip ?_
                refine X.seq ?_
                refine X.still ?_
                refine O.pu (Pu.move (.tmp (v:=.fi _ _) rfl)) ?_
                refine O.pu (U.fieldA rfl rfl rfl (.tmp rfl)) ?_
                refine O.pu (U.fieldA rfl rfl rfl (.tmp rfl)) ?_
                refine O.pu (U.load (.tmp rfl) rfl rfl (U.cell rfl rfl rfl)) ?_
                obtain ⟨q38,Hq38,h⟩:=Option.bind_eq_some_iff.1 h
                refine O.pu (U.call (ss:=[]) (.cons (.tmp (v:=.fi _ _) rfl) (.cons (.tmp (v:=.bool _) rfl) .nil)) (.cons (.cl .fi) (.cons (.cl .bool) .nil)) (chattelref04_Of.cs Hq38) (.inl rfl) (.aggL (.cons .fi (.cons .bool .nil)))) ?_
                refine O.ef0 (U.storeE (.tmp rfl) rfl rfl (.tmp (v:=.agg _) rfl) rfl rfl (.whole (notBad_ne rfl) rfl) .one) ?_
                refine O.nil ?_
                refine X.ret ?_
                cases h
                exact E.fin [] (.cell rfl rfl (Mode.live_ne rfl) (U.whole rfl rfl) .nil) (.cons (.cl (.aggL (.cons .fi (.cons .bool .nil)))) .nil)
          · rw [if_neg c] at h
            refine X.skip ?_
            refine X.seq ?_
            refine X.seq ?_
            refine X.still ?_
            refine O.pu (Pu.move (.tmp (v:=.bool _) rfl)) ?_
            refine O.nil ?_
            repeat (rw [chattelref06_Whole.j2_e] at h;obtain ⟨k,_,h⟩:=h;unfold chattelref06_Whole.j2 at h;try dsimp only at h)
            refine X.condP (.tmp rfl) (fun c=>?_) (fun c=>?_)
            · rw [if_pos (decide_eq_true c)] at h
              refine X.seq ?_
              refine X.still ?_
              refine O.pu (Pu.move (.tmp (v:=.fi _ _) rfl)) ?_
              refine O.pu (U.fieldA rfl rfl rfl (.tmp rfl)) ?_
              refine O.pu (U.fieldA rfl rfl rfl (.tmp rfl)) ?_
              refine O.pu (U.load (.tmp rfl) rfl rfl (U.cell rfl rfl rfl)) ?_
              obtain ⟨q39,Hq39,h⟩:=Option.bind_eq_some_iff.1 h
              refine O.pu (U.call (ss:=[]) (.cons (.tmp (v:=.fi _ _) rfl) (.cons (.tmp (v:=.bool _) rfl) .nil)) (.cons (.cl .fi) (.cons (.cl .bool) .nil)) (chattelref04_Of.cs Hq39) (.inl rfl) (.aggL (.cons .fi (.cons .bool .nil)))) ?_
              refine O.ef0 (U.storeE (.tmp rfl) rfl rfl (.tmp (v:=.agg _) rfl) rfl rfl (.whole (notBad_ne rfl) rfl) .one) ?_
              refine O.nil ?_
              refine X.ret ?_
              cases h
              exact E.fin [] (.cell rfl rfl (Mode.live_ne rfl) (U.whole rfl rfl) .nil) (.cons (.cl (.aggL (.cons .fi (.cons .bool .nil)))) .nil)
            · rw [if_neg (nd c)] at h
              refine X.skip ?_
              refine X.seq ?_
              refine X.still ?_
              refine O.pu (Pu.move (.tmp (v:=.fi _ _) rfl)) ?_
              refine O.pu (U.fieldA rfl rfl rfl (.tmp rfl)) ?_
              refine O.pu (U.fieldA rfl rfl rfl (.tmp rfl)) ?_
              refine O.pu (U.load (.tmp rfl) rfl rfl (U.cell rfl rfl rfl)) ?_
              obtain ⟨q40,Hq40,h⟩:=Option.bind_eq_some_iff.1 h
              refine O.pu (U.call (ss:=[]) (.cons (.tmp (v:=.fi _ _) rfl) (.cons (.tmp (v:=.bool _) rfl) .nil)) (.cons (.cl .fi) (.cons (.cl .bool) .nil)) (chattelref04_Of.cs Hq40) (.inl rfl) (.aggL (.cons .fi (.cons .bool .nil)))) ?_
              refine O.ef0 (U.storeE (.tmp rfl) rfl rfl (.tmp (v:=.agg _) rfl) rfl rfl (.whole (notBad_ne rfl) rfl) .one) ?_
              refine O.nil ?_
              refine X.ret ?_
              cases h
              exact E.fin [] (.cell rfl rfl (Mode.live_ne rfl) (U.whole rfl rfl) .nil) (.cons (.cl (.aggL (.cons .fi (.cons .bool .nil)))) .nil)
      · rw [if_neg c] at h
        refine X.skip ?_
        refine X.seq ?_
        refine X.seq ?_
        refine X.still ?_
        refine O.pu (Pu.move (.tmp (v:=.int _ _) rfl)) ?_
        refine O.pu (Pu.bin (.tmp rfl) .int .eql) ?_
        refine O.nil ?_
        repeat (rw [chattelref06_Whole.j1_e] at h;obtain ⟨k,_,h⟩:=h;unfold chattelref06_Whole.j1 at h;try dsimp only at h)
        refine X.condE (.tmp rfl) (fun c=>?_) (fun c=>?_)
        · rw [if_pos c] at h
          refine X.still ?_
          refine O.pu (Pu.move (.tmp (v:=.int _ _) rfl)) ?_
          refine O.pu (Pu.bin (.tmp rfl) .int .gtr) ?_
          refine O.pu (Pu.assign (.tmp (v:=.bool _) rfl)) ?_
          refine O.nil ?_
          refine X.seq ?_
          refine X.still ?_
          refine O.pu (Pu.move (.tmp (v:=.int _ _) rfl)) ?_
          refine O.pu (Pu.bin (.tmp rfl) .int .eql) ?_
          refine O.nil ?_
          refine X.condE (.tmp rfl) (fun c=>?_) (fun c=>?_)
          · rw [if_pos c] at h
            refine X.still ?_
            refine O.pu (Pu.move (.tmp (v:=.int _ _) rfl)) ?_
            refine O.pu (Pu.bin (.tmp rfl) .int .gtr) ?_
            refine O.pu (Pu.move (.tmp (v:=.bool _) rfl)) ?_
            refine O.splitP (fun c=>?_) (fun c=>?_)
            · rw [if_pos c] at h
              refine G.skip (W.f rfl rfl rfl) ?_
              refine G.skip (W.f rfl rfl rfl) ?_
              refine G.skipN (b:=true) (W.f rfl rfl rfl) ?_
              refine G.skip (W.n rfl rfl) ?_
              refine G.skip (W.n rfl rfl) ?_
              refine G.skip (W.n rfl rfl) ?_
              refine G.skip (W.f rfl rfl rfl) ?_
              refine O.pu (Pu.pickT (.tmp rfl) .bool) ?_
              refine O.pu (Pu.assign (.tmp (v:=.bool _) rfl)) ?_
              refine O.nil ?_
              refine X.seq ?_
              refine X.seq ?_
              refine X.still ?_
              refine O.pu (Pu.move (.tmp (v:=.bool _) rfl)) ?_
              refine O.nil ?_
              repeat (rw [chattelref06_Whole.j2_e] at h;obtain ⟨k,_,h⟩:=h;unfold chattelref06_Whole.j2 at h;try dsimp only at h)
              rw [if_pos rfl] at h
              refine X.condT (.tmp rfl) ?_
              refine X.seq ?_
              refine X.still ?_
              refine O.pu (Pu.move (.tmp (v:=.fi _ _) rfl)) ?_
              refine O.pu (U.fieldA rfl rfl rfl (.tmp rfl)) ?_
              refine O.pu (U.fieldA rfl rfl rfl (.tmp rfl)) ?_
              refine O.pu (U.load (.tmp rfl) rfl rfl (U.cell rfl rfl rfl)) ?_
              obtain ⟨q41,Hq41,h⟩:=Option.bind_eq_some_iff.1 h
              refine O.pu (U.call (ss:=[]) (.cons (.tmp (v:=.fi _ _) rfl) (.cons (.tmp (v:=.bool _) rfl) .nil)) (.cons (.cl .fi) (.cons (.cl .bool) .nil)) (chattelref04_Of.cs Hq41) (.inl rfl) (.aggL (.cons .fi (.cons .bool .nil)))) ?_
              refine O.ef0 (U.storeE (.tmp rfl) rfl rfl (.tmp (v:=.agg _) rfl) rfl rfl (.whole (notBad_ne rfl) rfl) .one) ?_
              refine O.nil ?_
              refine X.ret ?_
              cases h
              exact E.fin [] (.cell rfl rfl (Mode.live_ne rfl) (U.whole rfl rfl) .nil) (.cons (.cl (.aggL (.cons .fi (.cons .bool .nil)))) .nil)
            · rw [if_neg c] at h
              refine G.pu (W.t rfl rfl) (Pu.move (.tmp (v:=.int _ _) rfl)) ?_
              refine G.pu (W.t rfl rfl) (Pu.bin (.tmp rfl) .int .eql) ?_
              refine G.pu (W.t rfl rfl) (Pu.move (.tmp (v:=.bool _) rfl)) ?_
              refine O.splitE (fun c=>?_) (fun c=>?_)
              · rw [if_pos c] at h
                refine G.pu (W.t rfl rfl) (Pu.move (.tmp (v:=.fi _ _) rfl)) ?_
                refine G.pu (W.t rfl rfl) (Pu.lenI rfl (.tmp rfl)) ?_
                refine G.pu (W.t rfl rfl) (Pu.bin (.tmp rfl) .int .gtr) ?_
                refine G.pu (W.t rfl rfl) (Pu.pickT (.tmp rfl) (.tmp (v:=.bool _) rfl)) ?_
                refine O.pu (Pu.pickF (.tmp rfl) (.tmp (v:=.bool _) rfl)) ?_
                refine O.pu (Pu.assign (.tmp (v:=.bool _) rfl)) ?_
                refine O.nil ?_
                refine X.seq ?_
                refine X.seq ?_
                refine X.still ?_
                refine O.pu (Pu.move (.tmp (v:=.bool _) rfl)) ?_
                refine O.nil ?_
                repeat (rw [chattelref06_Whole.j2_e] at h;obtain ⟨k,_,h⟩:=h;unfold chattelref06_Whole.j2 at h;try dsimp only at h)
                refine X.condP (.tmp rfl) (fun c=>?_) (fun c=>?_)
                · rw [if_pos (decide_eq_true c)] at h
                  refine X.seq ?_
                  refine X.still ?_
                  refine O.pu (Pu.move (.tmp (v:=.fi _ _) rfl)) ?_
                  refine O.pu (U.fieldA rfl rfl rfl (.tmp rfl)) ?_
                  refine O.pu (U.fieldA rfl rfl rfl (.tmp rfl)) ?_
                  refine O.pu (U.load (.tmp rfl) rfl rfl (U.cell rfl rfl rfl)) ?_
                  obtain ⟨q42,Hq42,h⟩:=Option.bind_eq_some_iff.1 h
                  refine O.pu (U.call (ss:=[]) (.cons (.tmp (v:=.fi _ _) rfl) (.cons (.tmp (v:=.bool _) rfl) .nil)) (.cons (.cl .fi) (.cons (.cl .bool) .nil)) (chattelref04_Of.cs Hq42) (.inl rfl) (.aggL (.cons .fi (.cons .bool .nil)))) ?_
                  refine O.ef0 (U.storeE (.tmp rfl) rfl rfl (.tmp (v:=.agg _) rfl) rfl rfl (.whole (notBad_ne rfl) rfl) .one) ?_
                  refine O.nil ?_
                  refine X.ret ?_
                  cases h
                  exact E.fin [] (.cell rfl rfl (Mode.live_ne rfl) (U.whole rfl rfl) .nil) (.cons (.cl (.aggL (.cons .fi (.cons .bool .nil)))) .nil)
                · rw [if_neg (nd c)] at h
                  refine X.skip ?_
                  refine X.seq ?_
                  refine X.still ?_
                  refine O.pu (Pu.move (.tmp (v:=.fi _ _) rfl)) ?_
                  refine O.pu (U.fieldA rfl rfl rfl (.tmp rfl)) ?_
                  refine O.pu (U.fieldA rfl rfl rfl (.tmp rfl)) ?_
                  refine O.pu (U.load (.tmp rfl) rfl rfl (U.cell rfl rfl rfl)) ?_
                  obtain ⟨q43,Hq43,h⟩:=Option.bind_eq_some_iff.1 h
                  refine O.pu (U.call (ss:=[]) (.cons (.tmp (v:=.fi _ _) rfl) (.cons (.tmp (v:=.bool _) rfl) .nil)) (.cons (.cl .fi) (.cons (.cl .bool) .nil)) (chattelref04_Of.cs Hq43) (.inl rfl) (.aggL (.cons .fi (.cons .bool .nil)))) ?_
                  refine O.ef0 (U.storeE (.tmp rfl) rfl rfl (.tmp (v:=.agg _) rfl) rfl rfl (.whole (notBad_ne rfl) rfl) .one) ?_
                  refine O.nil ?_
                  refine X.ret ?_
                  cases h
                  exact E.fin [] (.cell rfl rfl (Mode.live_ne rfl) (U.whole rfl rfl) .nil) (.cons (.cl (.aggL (.cons .fi (.cons .bool .nil)))) .nil)
              · rw [if_neg c] at h
                refine G.skip (W.f rfl rfl rfl) ?_
                refine G.skip (W.f rfl rfl rfl) ?_
                refine G.skip (W.f rfl rfl rfl) ?_
                refine G.pu (W.t rfl rfl) (Pu.pickF (.tmp rfl) .bool) ?_
                refine O.pu (Pu.pickF (.tmp rfl) (.tmp (v:=.bool _) rfl)) ?_
                refine O.pu (Pu.assign (.tmp (v:=.bool _) rfl)) ?_
                refine O.nil ?_
                refine X.seq ?_
                refine X.seq ?_
                refine X.still ?_
                refine O.pu (Pu.move (.tmp (v:=.bool _) rfl)) ?_
                refine O.nil ?_
                repeat (rw [chattelref06_Whole.j2_e] at h;obtain ⟨k,_,h⟩:=h;unfold chattelref06_Whole.j2 at h;try dsimp only at h)
                rw [if_neg Bool.false_ne_true] at h
                refine X.condF (.tmp rfl) ?_
                refine X.skip ?_
                refine X.seq ?_
                refine X.still ?_
                refine O.pu (Pu.move (.tmp (v:=.fi _ _) rfl)) ?_
                refine O.pu (U.fieldA rfl rfl rfl (.tmp rfl)) ?_
                refine O.pu (U.fieldA rfl rfl rfl (.tmp rfl)) ?_
                refine O.pu (U.load (.tmp rfl) rfl rfl (U.cell rfl rfl rfl)) ?_
                obtain ⟨q44,Hq44,h⟩:=Option.bind_eq_some_iff.1 h
                refine O.pu (U.call (ss:=[]) (.cons (.tmp (v:=.fi _ _) rfl) (.cons (.tmp (v:=.bool _) rfl) .nil)) (.cons (.cl .fi) (.cons (.cl .bool) .nil)) (chattelref04_Of.cs Hq44) (.inl rfl) (.aggL (.cons .fi (.cons .bool .nil)))) ?_
                refine O.ef0 (U.storeE (.tmp rfl) rfl rfl (.tmp (v:=.agg _) rfl) rfl rfl (.whole (notBad_ne rfl) rfl) .one) ?_
                refine O.nil ?_
                refine X.ret ?_
                cases h
                exact E.fin [] (.cell rfl rfl (Mode.live_ne rfl) (U.whole rfl rfl) .nil) (.cons (.cl (.aggL (.cons .fi (.cons .bool .nil)))) .nil)
          · rw [if_neg c] at h
            refine X.skip ?_
            refine X.seq ?_
            refine X.seq ?_
            refine X.still ?_
            refine O.pu (Pu.move (.tmp (v:=.bool _) rfl)) ?_
            refine O.nil ?_
            repeat (rw [chattelref06_Whole.j2_e] at h;obtain ⟨k,_,h⟩:=h;unfold chattelref06_Whole.j2 at h;try dsimp only at h)
            refine X.condP (.tmp rfl) (fun c=>?_) (fun c=>?_)
            · rw [if_pos (decide_eq_true c)] at h
              refine X.seq ?_
              refine X.still ?_
              refine O.pu (Pu.move (.tmp (v:=.fi _ _) rfl)) ?_
              refine O.pu (U.fieldA rfl rfl rfl (.tmp rfl)) ?_
              refine O.pu (U.fieldA rfl rfl rfl (.tmp rfl)) ?_
              refine O.pu (U.load (.tmp rfl) rfl rfl (U.cell rfl rfl rfl)) ?_
              obtain ⟨q45,Hq45,h⟩:=Option.bind_eq_some_iff.1 h
              refine O.pu (U.call (ss:=[]) (.cons (.tmp (v:=.fi _ _) rfl) (.cons (.tmp (v:=.bool _) rfl) .nil)) (.cons (.cl .fi) (.cons (.cl .bool) .nil)) (chattelref04_Of.cs Hq45) (.inl rfl) (.aggL (.cons .fi (.cons .bool .nil)))) ?_
              refine O.ef0 (U.storeE (.tmp rfl) rfl rfl (.tmp (v:=.agg _) rfl) rfl rfl (.whole (notBad_ne rfl) rfl) .one) ?_
              refine O.nil ?_
              refine X.ret ?_
              cases h
              exact E.fin [] (.cell rfl rfl (Mode.live_ne rfl) (U.whole rfl rfl) .nil) (.cons (.cl (.aggL (.cons .fi (.cons .bool .nil)))) .nil)
            · rw [if_neg (nd c)] at h
              refine X.skip ?_
              refine X.seq ?_
              refine X.still ?_
              refine O.pu (Pu.move (.tmp (v:=.fi _ _) rfl)) ?_
              refine O.pu (U.fieldA rfl rfl rfl (.tmp rfl)) ?_
              refine O.pu (U.fieldA rfl rfl rfl (.tmp rfl)) ?_
              refine O.pu (U.load (.tmp rfl) rfl rfl (U.cell rfl rfl rfl)) ?_
              obtain ⟨q46,Hq46,h⟩:=Option.bind_eq_some_iff.1 h
              refine O.pu (U.call (ss:=[]) (.cons (.tmp (v:=.fi _ _) rfl) (.cons (.tmp (v:=.bool _) rfl) .nil)) (.cons (.cl .fi) (.cons (.cl .bool) .nil)) (chattelref04_Of.cs Hq46) (.inl rfl) (.aggL (.cons .fi (.cons .bool .nil)))) ?_
              refine O.ef0 (U.storeE (.tmp rfl) rfl rfl (.tmp (v:=.agg _) rfl) rfl rfl (.whole (notBad_ne rfl) rfl) .one) ?_
              refine O.nil ?_
              refine X.ret ?_
              cases h
              exact E.fin [] (.cell rfl rfl (Mode.live_ne rfl) (U.whole rfl rfl) .nil) (.cons (.cl (.aggL (.cons .fi (.cons .bool .nil)))) .nil)
        · rw [if_neg c] at h
          refine X.skip ?_
          refine X.seq ?_
          refine X.still ?_
          refine O.pu (Pu.move (.tmp (v:=.int _ _) rfl)) ?_
          refine O.pu (Pu.bin (.tmp rfl) .int .eql) ?_
          refine O.nil ?_
          refine X.condE (.tmp rfl) (fun c=>?_) (fun c=>?_)
          · rw [if_pos c] at h
            refine X.still ?_
            refine O.pu (Pu.move (.tmp (v:=.int _ _) rfl)) ?_
            refine O.pu (Pu.bin (.tmp rfl) .int .gtr) ?_
            refine O.pu (Pu.move (.tmp (v:=.bool _) rfl)) ?_
            refine O.splitP (fun c=>?_) (fun c=>?_)
            · rw [if_pos c] at h
              refine G.skip (W.f rfl rfl rfl) ?_
              refine G.skip (W.f rfl rfl rfl) ?_
              refine G.skipN (b:=true) (W.f rfl rfl rfl) ?_
              refine G.skip (W.n rfl rfl) ?_
              refine G.skip (W.n rfl rfl) ?_
              refine G.skip (W.n rfl rfl) ?_
              refine G.skip (W.f rfl rfl rfl) ?_
              refine O.pu (Pu.pickT (.tmp rfl) .bool) ?_
              refine O.pu (Pu.assign (.tmp (v:=.bool _) rfl)) ?_
              refine O.nil ?_
              refine X.seq ?_
              refine X.seq ?_
              refine X.still ?_
              refine O.pu (Pu.move (.tmp (v:=.bool _) rfl)) ?_
              refine O.nil ?_
              repeat (rw [chattelref06_Whole.j2_e] at h;obtain ⟨k,_,h⟩:=h;unfold chattelref06_Whole.j2 at h;try dsimp only at h)
              rw [if_pos rfl] at h
              refine X.condT (.tmp rfl) ?_
              refine X.seq ?_
              refine X.still ?_
              refine O.pu (Pu.move (.tmp (v:=.fi _ _) rfl)) ?_
              refine O.pu (U.fieldA rfl rfl rfl (.tmp rfl)) ?_
              refine O.pu (U.fieldA rfl rfl rfl (.tmp rfl)) ?_
              refine O.pu (U.load (.tmp rfl) rfl rfl (U.cell rfl rfl rfl)) ?_
              obtain ⟨q47,Hq47,h⟩:=Option.bind_eq_some_iff.1 h
              refine O.pu (U.call (ss:=[]) (.cons (.tmp (v:=.fi _ _) rfl) (.cons (.tmp (v:=.bool _) rfl) .nil)) (.cons (.cl .fi) (.cons (.cl .bool) .nil)) (chattelref04_Of.cs Hq47) (.inl rfl) (.aggL (.cons .fi (.cons .bool .nil)))) ?_
              refine O.ef0 (U.storeE (.tmp rfl) rfl rfl (.tmp (v:=.agg _) rfl) rfl rfl (.whole (notBad_ne rfl) rfl) .one) ?_
              refine O.nil ?_
              refine X.ret ?_
              cases h
              exact E.fin [] (.cell rfl rfl (Mode.live_ne rfl) (U.whole rfl rfl) .nil) (.cons (.cl (.aggL (.cons .fi (.cons .bool .nil)))) .nil)
            · rw [if_neg c] at h
              refine G.pu (W.t rfl rfl) (Pu.move (.tmp (v:=.int _ _) rfl)) ?_
              refine G.pu (W.t rfl rfl) (Pu.bin (.tmp rfl) .int .eql) ?_
              refine G.pu (W.t rfl rfl) (Pu.move (.tmp (v:=.bool _) rfl)) ?_
              refine O.splitE (fun c=>?_) (fun c=>?_)
              · rw [if_pos c] at h
                refine G.pu (W.t rfl rfl) (Pu.move (.tmp (v:=.fi _ _) rfl)) ?_
                refine G.pu (W.t rfl rfl) (Pu.lenI rfl (.tmp rfl)) ?_
                refine G.pu (W.t rfl rfl) (Pu.bin (.tmp rfl) .int .gtr) ?_
                refine G.pu (W.t rfl rfl) (Pu.pickT (.tmp rfl) (.tmp (v:=.bool _) rfl)) ?_
                refine O.pu (Pu.pickF (.tmp rfl) (.tmp (v:=.bool _) rfl)) ?_
                refine O.pu (Pu.assign (.tmp (v:=.bool _) rfl)) ?_
                refine O.nil ?_
                refine X.seq ?_
                refine X.seq ?_
                refine X.still ?_
                refine O.pu (Pu.move (.tmp (v:=.bool _) rfl)) ?_
                refine O.nil ?_
                repeat (rw [chattelref06_Whole.j2_e] at h;obtain ⟨k,_,h⟩:=h;unfold chattelref06_Whole.j2 at h;try dsimp only at h)
                refine X.condP (.tmp rfl) (fun c=>?_) (fun c=>?_)
                · rw [if_pos (decide_eq_true c)] at h
                  refine X.seq ?_
                  refine X.still ?_
                  refine O.pu (Pu.move (.tmp (v:=.fi _ _) rfl)) ?_
                  refine O.pu (U.fieldA rfl rfl rfl (.tmp rfl)) ?_
                  refine O.pu (U.fieldA rfl rfl rfl (.tmp rfl)) ?_
                  refine O.pu (U.load (.tmp rfl) rfl rfl (U.cell rfl rfl rfl)) ?_
                  obtain ⟨q48,Hq48,h⟩:=Option.bind_eq_some_iff.1 h
                  refine O.pu (U.call (ss:=[]) (.cons (.tmp (v:=.fi _ _) rfl) (.cons (.tmp (v:=.bool _) rfl) .nil)) (.cons (.cl .fi) (.cons (.cl .bool) .nil)) (chattelref04_Of.cs Hq48) (.inl rfl) (.aggL (.cons .fi (.cons .bool .nil)))) ?_
                  refine O.ef0 (U.storeE (.tmp rfl) rfl rfl (.tmp (v:=.agg _) rfl) rfl rfl (.whole (notBad_ne rfl) rfl) .one) ?_
                  refine O.nil ?_
                  refine X.ret ?_
                  cases h
                  exact E.fin [] (.cell rfl rfl (Mode.live_ne rfl) (U.whole rfl rfl) .nil) (.cons (.cl (.aggL (.cons .fi (.cons .bool .nil)))) .nil)
                · rw [if_neg (nd c)] at h
                  refine X.skip ?_
                  refine X.seq ?_
                  refine X.still ?_
                  refine O.pu (Pu.move (.tmp (v:=.fi _ _) rfl)) ?_
                  refine O.pu (U.fieldA rfl rfl rfl (.tmp rfl)) ?_
                  refine O.pu (U.fieldA rfl rfl rfl (.tmp rfl)) ?_
                  refine O.pu (U.load (.tmp rfl) rfl rfl (U.cell rfl rfl rfl)) ?_
                  obtain ⟨q49,Hq49,h⟩:=Option.bind_eq_some_iff.1 h
                  refine O.pu (U.call (ss:=[]) (.cons (.tmp (v:=.fi _ _) rfl) (.cons (.tmp (v:=.bool _) rfl) .nil)) (.cons (.cl .fi) (.cons (.cl .bool) .nil)) (chattelref04_Of.cs Hq49) (.inl rfl) (.aggL (.cons .fi (.cons .bool .nil)))) ?_
                  refine O.ef0 (U.storeE (.tmp rfl) rfl rfl (.tmp (v:=.agg _) rfl) rfl rfl (.whole (notBad_ne rfl) rfl) .one) ?_
                  refine O.nil ?_
                  refine X.ret ?_
                  cases h
                  exact E.fin [] (.cell rfl rfl (Mode.live_ne rfl) (U.whole rfl rfl) .nil) (.cons (.cl (.aggL (.cons .fi (.cons .bool .nil)))) .nil)
              · rw [if_neg c] at h
                refine G.skip (W.f rfl rfl rfl) ?_
                refine G.skip (W.f rfl rfl rfl) ?_
                refine G.skip (W.f rfl rfl rfl) ?_
                refine G.pu (W.t rfl rfl) (Pu.pickF (.tmp rfl) .bool) ?_
                refine O.pu (Pu.pickF (.tmp rfl) (.tmp (v:=.bool _) rfl)) ?_
                refine O.pu (Pu.assign (.tmp (v:=.bool _) rfl)) ?_
                refine O.nil ?_
                refine X.seq ?_
                refine X.seq ?_
                refine X.still ?_
                refine O.pu (Pu.move (.tmp (v:=.bool _) rfl)) ?_
                refine O.nil ?_
                repeat (rw [chattelref06_Whole.j2_e] at h;obtain ⟨k,_,h⟩:=h;unfold chattelref06_Whole.j2 at h;try dsimp only at h)
                rw [if_neg Bool.false_ne_true] at h
                refine X.condF (.tmp rfl) ?_
                refine X.skip ?_
                refine X.seq ?_
                refine X.still ?_
                refine O.pu (Pu.move (.tmp (v:=.fi _ _) rfl)) ?_
                refine O.pu (U.fieldA rfl rfl rfl (.tmp rfl)) ?_
                refine O.pu (U.fieldA rfl rfl rfl (.tmp rfl)) ?_
                refine O.pu (U.load (.tmp rfl) rfl rfl (U.cell rfl rfl rfl)) ?_
                obtain ⟨q50,Hq50,h⟩:=Option.bind_eq_some_iff.1 h
                refine O.pu (U.call (ss:=[]) (.cons (.tmp (v:=.fi _ _) rfl) (.cons (.tmp (v:=.bool _) rfl) .nil)) (.cons (.cl .fi) (.cons (.cl .bool) .nil)) (chattelref04_Of.cs Hq50) (.inl rfl) (.aggL (.cons .fi (.cons .bool .nil)))) ?_
                refine O.ef0 (U.storeE (.tmp rfl) rfl rfl (.tmp (v:=.agg _) rfl) rfl rfl (.whole (notBad_ne rfl) rfl) .one) ?_
                refine O.nil ?_
                refine X.ret ?_
                cases h
                exact E.fin [] (.cell rfl rfl (Mode.live_ne rfl) (U.whole rfl rfl) .nil) (.cons (.cl (.aggL (.cons .fi (.cons .bool .nil)))) .nil)
          · rw [if_neg c] at h
            refine X.skip ?_
            refine X.seq ?_
            refine X.seq ?_
            refine X.still ?_
            refine O.pu (Pu.move (.tmp (v:=.bool _) rfl)) ?_
            refine O.nil ?_
            repeat (rw [chattelref06_Whole.j2_e] at h;obtain ⟨k,_,h⟩:=h;unfold chattelref06_Whole.j2 at h;try dsimp only at h)
            rw [if_neg Bool.false_ne_true] at h
            refine X.condF (.tmp rfl) ?_
            refine X.skip ?_
            refine X.seq ?_
            refine X.still ?_
            refine O.pu (Pu.move (.tmp (v:=.fi _ _) rfl)) ?_
            refine O.pu (U.fieldA rfl rfl rfl (.tmp rfl)) ?_
            refine O.pu (U.fieldA rfl rfl rfl (.tmp rfl)) ?_
            refine O.pu (U.load (.tmp rfl) rfl rfl (U.cell rfl rfl rfl)) ?_
            obtain ⟨q51,Hq51,h⟩:=Option.bind_eq_some_iff.1 h
            refine O.pu (U.call (ss:=[]) (.cons (.tmp (v:=.fi _ _) rfl) (.cons (.tmp (v:=.bool _) rfl) .nil)) (.cons (.cl .fi) (.cons (.cl .bool) .nil)) (chattelref04_Of.cs Hq51) (.inl rfl) (.aggL (.cons .fi (.cons .bool .nil)))) ?_
            refine O.ef0 (U.storeE (.tmp rfl) rfl rfl (.tmp (v:=.agg _) rfl) rfl rfl (.whole (notBad_ne rfl) rfl) .one) ?_
            refine O.nil ?_
            refine X.ret ?_
            cases h
            exact E.fin [] (.cell rfl rfl (Mode.live_ne rfl) (U.whole rfl rfl) .nil) (.cons (.cl (.aggL (.cons .fi (.cons .bool .nil)))) .nil)
  · rw [if_neg c] at h
    refine X.skip ?_
    refine X.seq ?_
    refine X.seq ?_
    refine X.still ?_
    refine O.pu (Pu.move (.tmp (v:=.bool _) rfl)) ?_
    refine O.nil ?_
    repeat (rw [chattelref06_Whole.j2_e] at h;obtain ⟨k,_,h⟩:=h;unfold chattelref06_Whole.j2 at h;try dsimp only at h)
    rw [if_neg Bool.false_ne_true] at h
    refine X.condF (.tmp rfl) ?_
    refine X.skip ?_
    refine X.seq ?_
    refine X.still ?_
    refine O.pu (Pu.move (.tmp (v:=.fi _ _) rfl)) ?_
    refine O.pu (U.fieldA rfl rfl rfl (.tmp rfl)) ?_
    refine O.pu (U.fieldA rfl rfl rfl (.tmp rfl)) ?_
    refine O.pu (U.load (.tmp rfl) rfl rfl (U.cell rfl rfl rfl)) ?_
    obtain ⟨q52,Hq52,h⟩:=Option.bind_eq_some_iff.1 h
    refine O.pu (U.call (ss:=[]) (.cons (.tmp (v:=.fi _ _) rfl) (.cons (.tmp (v:=.bool _) rfl) .nil)) (.cons (.cl .fi) (.cons (.cl .bool) .nil)) (chattelref04_Of.cs Hq52) (.inl rfl) (.aggL (.cons .fi (.cons .bool .nil)))) ?_
    refine O.ef0 (U.storeE (.tmp rfl) rfl rfl (.tmp (v:=.agg _) rfl) rfl rfl (.whole (notBad_ne rfl) rfl) .one) ?_
    refine O.nil ?_
    refine X.ret ?_
    cases h
    exact E.fin [] (.cell rfl rfl (Mode.live_ne rfl) (U.whole rfl rfl) .nil) (.cons (.cl (.aggL (.cons .fi (.cons .bool .nil)))) .nil)
noncomputable def c81:Code:=Try.f81.body.getD .skip
theorem fn81:FnOk Try.prog 81 Try.f81 c81:=⟨Try.func81,rfl,by kernel_rfl,by kernel_rfl,mixed⟩
theorem chattelref04_Mul.cs {k:Nat} {l0_0:List Int} {a0_1:Bool} {l1_0:List Int} {a1_1:Bool} {r:List Int×Bool} (h:chattelref04_Mul.f k l0_0 a0_1 l1_0 a1_1=some r):CS Try.prog 81 [.agg [.fi .i64 l0_0, .bool a0_1], .agg [.fi .i64 l1_0, .bool a1_1]] .no [.agg [.fi .i64 r.1, .bool r.2]]:=by
  unfold chattelref04_Mul.f at h
  refine E.pure fn81 rfl ?_
  refine X.seq ?_
  refine X.still ?_
  refine O.puE (v':=.op 2 (1) 0 0) (b':=⟨1, .own,_,_⟩) (Pu.box (.tmp (v:=.agg _) rfl) rfl rfl) rfl rfl ?_
  refine O.puE (v':=.op 3 (1) 0 0) (b':=⟨1, .own,_,_⟩) (Pu.box (.tmp (v:=.agg _) rfl) rfl rfl) rfl rfl ?_
  refine O.puE (v':=.op 4 (1) 0 0) (b':=⟨1, .own,(.vals [.agg [.fi .i64 [], .bool false]]),_⟩) Pu.alloc rfl rfl ?_
  refine O.nil ?_
  refine X.seq ?_
  refine X.still ?_
  refine O.pu (U.fieldA rfl rfl rfl (.tmp rfl)) ?_
  refine O.pu (U.load (.tmp rfl) rfl rfl (U.cell rfl rfl rfl)) ?_
  refine O.pu (U.fieldA rfl rfl rfl (.tmp rfl)) ?_
  refine O.pu (U.load (.tmp rfl) rfl rfl (U.cell rfl rfl rfl)) ?_
  obtain ⟨q1,Hq1,h⟩:=Option.bind_eq_some_iff.1 h
  refine O.pu (U.call (ss:=[]) (.cons (.tmp (v:=.fi _ _) rfl) (.cons (.tmp (v:=.fi _ _) rfl) .nil)) (.cons (.cl .fi) (.cons (.cl .fi) .nil)) (chattelref01_Mul.cs Hq1) (.inl rfl) (.fi)) ?_
  refine O.pu (Pu.assign (.tmp (v:=.fi _ _) rfl)) ?_
  refine O.nil ?_
  refine X.seq ?_
  refine X.still ?_
  refine O.pu (Pu.move (.tmp (v:=.fi _ _) rfl)) ?_
  refine O.pu (U.fieldA rfl rfl rfl (.tmp rfl)) ?_
  refine O.pu (U.load (.tmp rfl) rfl rfl (U.cell rfl rfl rfl)) ?_
  refine O.pu (U.fieldA rfl rfl rfl (.tmp rfl)) ?_
  refine O.pu (U.load (.tmp rfl) rfl rfl (U.cell rfl rfl rfl)) ?_
  refine O.pu (Pu.bin (.tmp rfl) (.tmp rfl) (U.bneq rfl)) ?_
  obtain ⟨q2,Hq2,h⟩:=Option.bind_eq_some_iff.1 h
  refine O.pu (U.call (ss:=[]) (.cons (.tmp (v:=.fi _ _) rfl) (.cons (.tmp (v:=.bool _) rfl) .nil)) (.cons (.cl .fi) (.cons (.cl .bool) .nil)) (chattelref04_Of.cs Hq2) (.inl rfl) (.aggL (.cons .fi (.cons .bool .nil)))) ?_
  refine O.ef0 (U.storeE (.tmp rfl) rfl rfl (.tmp (v:=.agg _) rfl) rfl rfl (.whole (notBad_ne rfl) rfl) .one) ?_
  refine O.nil ?_
  refine X.ret ?_
  cases h
  exact E.fin [] (.cell rfl rfl (Mode.live_ne rfl) (U.whole rfl rfl) .nil) (.cons (.cl (.aggL (.cons .fi (.cons .bool .nil)))) .nil)
noncomputable def c42:Code:=Try.f42.body.getD .skip
theorem fn42:FnOk Try.prog 42 Try.f42 c42:=⟨Try.func42,rfl,by kernel_rfl,by kernel_rfl,mixed⟩
theorem chattelref05_Mul.cs {k:Nat} {l0_0:List Int} {a0_1:Bool} {l0_2:List Int} {l1_0:List Int} {a1_1:Bool} {l1_2:List Int} {r:List Int×Bool×List Int} (h:chattelref05_Mul.f k l0_0 a0_1 l0_2 l1_0 a1_1 l1_2=some r):CS Try.prog 42 [.agg [.fi .i64 l0_0, .bool a0_1, .fi .i64 l0_2], .agg [.fi .i64 l1_0, .bool a1_1, .fi .i64 l1_2]] .no [.agg [.fi .i64 r.1, .bool r.2.1, .fi .i64 r.2.2]]:=by
  unfold chattelref05_Mul.f at h
  refine E.pure fn42 rfl ?_
  refine X.seq ?_
  refine X.still ?_
  refine O.puE (v':=.op 2 (1) 0 0) (b':=⟨1, .own,_,_⟩) (Pu.box (.tmp (v:=.agg _) rfl) rfl rfl) rfl rfl ?_
  refine O.puE (v':=.op 3 (1) 0 0) (b':=⟨1, .own,_,_⟩) (Pu.box (.tmp (v:=.agg _) rfl) rfl rfl) rfl rfl ?_
  refine O.puE (v':=.op 4 (1) 0 0) (b':=⟨1, .own,(.vals [.agg [.fi .i64 [], .bool false, .fi .i64 []]]),_⟩) Pu.alloc rfl rfl ?_
  refine O.nil ?_
  refine X.seq ?_
  refine X.still ?_
  refine O.pu (U.fieldA rfl rfl rfl (.tmp rfl)) ?_
  refine O.pu (U.load (.tmp rfl) rfl rfl (U.sub rfl (.take (.take .done)))) ?_
  refine O.pu (U.fieldA rfl rfl rfl (.tmp rfl)) ?_
  refine O.pu (U.load (.tmp rfl) rfl rfl (U.sub rfl (.take (.take .done)))) ?_
  obtain ⟨q1,Hq1,h⟩:=Option.bind_eq_some_iff.1 h
  refine O.pu (U.call (ss:=[]) (.cons (.tmp (v:=.agg _) rfl) (.cons (.tmp (v:=.agg _) rfl) .nil)) (.cons (.cl (.aggL (.cons .fi (.cons .bool .nil)))) (.cons (.cl (.aggL (.cons .fi (.cons .bool .nil)))) .nil)) (chattelref04_Mul.cs Hq1) (.inl rfl) (.aggL (.cons .fi (.cons .bool .nil)))) ?_
  refine O.puE (v':=.op 5 (1) 0 0) (b':=⟨1, .own,(.vals [.agg [.fi .i64 [], .bool false]]),_⟩) Pu.alloc rfl rfl ?_
  refine O.ef0 (U.storeE (.tmp rfl) rfl rfl (.tmp (v:=.agg _) rfl) rfl rfl (.whole (notBad_ne rfl) rfl) .one) ?_
  refine O.nil ?_
  refine X.seq ?_
  refine X.still ?_
  refine O.pu (U.fieldA rfl rfl rfl (.tmp rfl)) ?_
  refine O.pu (U.load (.tmp rfl) rfl rfl (U.cell rfl rfl rfl)) ?_
  refine O.pu (U.fieldA rfl rfl rfl (.tmp rfl)) ?_
  refine O.pu (U.load (.tmp rfl) rfl rfl (U.cell rfl rfl rfl)) ?_
  obtain ⟨q2,Hq2,h⟩:=Option.bind_eq_some_iff.1 h
  refine O.pu (U.call (ss:=[]) (.cons (.tmp (v:=.fi _ _) rfl) (.cons (.tmp (v:=.fi _ _) rfl) .nil)) (.cons (.cl .fi) (.cons (.cl .fi) .nil)) (chattelref01_Mul.cs Hq2) (.inl rfl) (.fi)) ?_
  refine O.pu (Pu.assign (.tmp (v:=.fi _ _) rfl)) ?_
  refine O.nil ?_
  refine X.seq ?_
  refine X.still ?_
  refine O.pu (U.load (.tmp rfl) rfl rfl (U.whole rfl rfl)) ?_
  refine O.pu (Pu.move (.tmp (v:=.fi _ _) rfl)) ?_
  obtain ⟨q3,Hq3,h⟩:=Option.bind_eq_some_iff.1 h
  refine O.pu (U.call (ss:=[]) (.cons (.tmp (v:=.agg _) rfl) (.cons (.tmp (v:=.fi _ _) rfl) .nil)) (.cons (.cl (.aggL (.cons .fi (.cons .bool .nil)))) (.cons (.cl .fi) .nil)) (chattelref05_Make.cs Hq3) (.inl rfl) (.aggL (.cons .fi (.cons .bool (.cons .fi .nil))))) ?_
  refine O.ef0 (U.storeE (.tmp rfl) rfl rfl (.tmp (v:=.agg _) rfl) rfl rfl (.whole (notBad_ne rfl) rfl) .one) ?_
  refine O.nil ?_
  refine X.ret ?_
  cases h
  exact E.fin [] (.cell rfl rfl (Mode.live_ne rfl) (U.whole rfl rfl) .nil) (.cons (.cl (.aggL (.cons .fi (.cons .bool (.cons .fi .nil))))) .nil)
noncomputable def c116:Code:=Try.f116.body.getD .skip
theorem fn116:FnOk Try.prog 116 Try.f116 c116:=⟨Try.func116,rfl,by kernel_rfl,by kernel_rfl,mixed⟩
theorem chattelref01_Read.cs {k:Nat} {a0:ByteArray} {r:List Int} (h:chattelref01_Read.f k a0=some r):CS Try.prog 116 [.str a0] .no [.fi .i64 r]:=by
  unfold chattelref01_Read.f at h
  refine E.pure fn116 rfl ?_
  refine X.seq ?_
  refine X.still ?_
  refine O.pu (Pu.assign (.nilI (k:=.i64))) ?_
  refine O.nil ?_
  refine X.seq ?_
  refine X.still ?_
  refine O.ef (U.nilOE (u:=1) (row:=.ints .i64 []) (e:=3) rfl rfl) ?_
  refine O.nil ?_
  refine X.seq ?_
  refine X.seq ?_
  refine X.still ?_
  refine O.pu (Pu.move (.tmp (v:=.str _) rfl)) ?_
  refine O.pu (Pu.lenS rfl (.tmp rfl)) ?_
  refine O.pu (Pu.assign (.tmp (v:=.int _ _) rfl)) ?_
  refine O.nil ?_
  refine X.block ?_
  refine X.inv (fun k s=>∃ x0 x3 x4 n3 u3,s.t 0 = .str x0∧s.b 3=⟨u3, .own, .ints .i64 x3,3⟩∧s.t 3 = .os 3 u3 0 n3 true∧x3.length=n3∧s.t 4 = .int .i64 x4∧chattelref01_Read.l0 k x0 x3 x4=some r) ?_ ?_ ⟨_,_,_,_,_,rfl,rfl,rfl,rfl,rfl,h⟩
  · rintro s ⟨_,_,_,_,_,_,_,_,_,_,h⟩;unfold chattelref01_Read.l0 at h;cases h
  · rintro k1 s1 ⟨x0,x3,x4,n3,u3,e0,e1,e2,rfl,e4,h⟩
    unfold chattelref01_Read.l0 at h
    rw [St.fixT e0,St.fixB e1,St.fixT e2,St.fixT e4]
    refine X.seq ?_
    refine X.seq ?_
    refine X.still ?_
    refine O.pu (Pu.move (.tmp (v:=.int _ _) rfl)) ?_
    refine O.pu (Pu.bin (.tmp rfl) .int .gtr) ?_
    refine O.nil ?_
    refine X.condP (.tmp rfl) (fun c=>?_) (fun c=>?_)
    · rw [if_pos c] at h
      refine X.skip ?_
      refine X.seq ?_
      refine X.block ?_
      refine X.seq ?_
      refine X.still ?_
      refine O.pu (Pu.assign .int) ?_
      refine O.nil ?_
      refine X.seq ?_
      refine X.seq ?_
      refine X.still ?_
      refine O.pu (Pu.move (.tmp (v:=.int _ _) rfl)) ?_
      refine O.pu (Pu.bin (.tmp rfl) .int U.sub64) ?_
      refine O.pu (U.mx .int (.tmp rfl)) ?_
      refine O.pu (Pu.assign (.tmp (v:=.int _ _) rfl)) ?_
      refine O.nil ?_
      refine X.block ?_
      refine X.inv (fun k s=>k≤k1∧∃ x0 x3 x4 x5 x6 n3 u3,s.t 0 = .str x0∧s.b 3=⟨u3, .own, .ints .i64 x3,3⟩∧s.t 3 = .os 3 u3 0 n3 true∧x3.length=n3∧s.t 4 = .int .i64 x4∧s.t 5 = .int .i64 x5∧s.t 6 = .int .i64 x6∧chattelref01_Read.l1 k x0 x3 x4 x5 x6=some r) ?_ ?_ ⟨(by omega),_,_,_,_,_,_,_,rfl,rfl,rfl,(by first|rfl|(simp only [List.length_set];done)|(simp only [List.length_drop,List.length_take,List.length_append,List.length_set] at *;omega)),rfl,rfl,rfl,h⟩
      · rintro s ⟨_,_,_,_,_,_,_,_,_,_,_,_,_,_,_,h⟩;unfold chattelref01_Read.l1 at h;cases h
      · rintro k2 s2 ⟨kl2,x0,x3,x4,x5,x6,n3,u3,e0,e1,e2,rfl,e4,e5,e6,h⟩
        unfold chattelref01_Read.l1 at h
        rw [St.fixT e0,St.fixB e1,St.fixT e2,St.fixT e4,St.fixT e5,St.fixT e6]
        refine X.seq ?_
        refine X.seq ?_
        refine X.still ?_
        refine O.pu (Pu.move (.tmp (v:=.int _ _) rfl)) ?_
        refine O.pu (Pu.move (.tmp (v:=.int _ _) rfl)) ?_
        refine O.pu (Pu.bin (.tmp rfl) (.tmp rfl) .lss) ?_
        refine O.nil ?_
        refine X.condP (.tmp rfl) (fun c=>?_) (fun c=>?_)
        · rw [if_pos c] at h
          refine X.skip ?_
          refine X.seq ?_
          refine X.block ?_
          refine X.still ?_
          refine O.pu (Pu.move (.tmp (v:=.int _ _) rfl)) ?_
          refine O.pu (Pu.bin .int (.tmp rfl) U.mul64) ?_
          refine O.pu (Pu.move (.tmp (v:=.str _) rfl)) ?_
          refine O.pu (Pu.move (.tmp (v:=.int _ _) rfl)) ?_
          repeat (rw [giff] at h;obtain ⟨_,h⟩:=h)
          refine O.pu (U.indexS rfl (.tmp rfl) (.tmp rfl) (by omega) (by omega)) ?_
          refine O.pu (U.conv64 rfl (.tmp rfl)) ?_
          refine O.pu (Pu.bin (.tmp rfl) (.tmp rfl) U.add64) ?_
          refine O.pu (Pu.bin (.tmp rfl) .int U.sub64) ?_
          refine O.pu (Pu.assign (.tmp (v:=.int _ _) rfl)) ?_
          refine O.nil ?_
          refine X.still ?_
          refine O.pu (Pu.move (.tmp (v:=.int _ _) rfl)) ?_
          refine O.pu (Pu.bin (.tmp rfl) .int U.add64) ?_
          refine O.pu (Pu.assign (.tmp (v:=.int _ _) rfl)) ?_
          refine O.nil ?_
          exact ⟨_,(by omega),(by omega),_,_,_,_,_,_,_,rfl,rfl,rfl,(by first|rfl|(simp only [List.length_set];done)|(simp only [List.length_drop,List.length_take,List.length_append,List.length_set] at *;omega)),rfl,rfl,rfl,h⟩
        · rw [if_neg c] at h
          refine X.exit (B.out ?_)
          refine X.still ?_
          refine O.pu (Pu.move (.tmp (v:=.os _ _ _ _ _) rfl)) ?_
          refine O.pu (Pu.move (.tmp (v:=.int _ _) rfl)) ?_
          refine O.puE (v':=.os 31 ((s2.b 31).ver + 1) 0 _ true) (b':=⟨(s2.b 31).ver + 1, .own,_,_⟩) (U.litI rfl rfl (.cons (.tmp (v:=.int _ _) rfl) .nil) rfl rfl) rfl rfl ?_
          repeat (rw [giff] at h;obtain ⟨_,h⟩:=h)
          refine O.ef (U.appendE (u':=(s2.b 32).ver + 1) rfl rfl (.tmp rfl) rfl (by first|rfl|(simp only [List.length_set];done)|(simp only [List.length_drop,List.length_take,List.length_append,List.length_set] at *;omega)) (.tmp rfl) (.osIf (List.mem_singleton.2 rfl) rfl (Mode.live_ne rfl) rfl (by first|rfl|(simp only [List.length_set];done)|(simp only [List.length_drop,List.length_take,List.length_append,List.length_set] at *;omega))) rfl (by first|exact Nat.le_of_lt (by assumption)|(simp only [List.length_cons,List.length_nil];omega)) rfl) ?_
          refine O.ef (U.takeE (u':=u3 + 1) (.tmp rfl) rfl (ne_of_beq rfl) rfl) ?_
          refine O.nil ?_
          refine X.still ?_
          refine O.pu (Pu.move (.tmp (v:=.int _ _) rfl)) ?_
          refine O.pu (Pu.bin (.tmp rfl) .int U.sub64) ?_
          refine O.pu (Pu.assign (.tmp (v:=.int _ _) rfl)) ?_
          refine O.nil ?_
          exact ⟨_,(by omega),_,_,_,_,_,rfl,rfl,rfl,(by first|rfl|(simp only [List.length_set];done)|(simp only [List.length_drop,List.length_take,List.length_append,List.length_set] at *;omega)),rfl,h⟩
    · rw [if_neg c] at h
      refine X.exit (B.out ?_)
      refine X.seq ?_
      refine X.still ?_
      refine O.pu (Pu.move (.tmp (v:=.os _ _ _ _ _) rfl)) ?_
      obtain ⟨q1,Hq1,h⟩:=Option.bind_eq_some_iff.1 h
      refine O.ef (U.callZ (ss:=[3]) (.cons (.tmp (v:=.os _ _ _ _ _) rfl) .nil) (.cons (.osIf (by simp) rfl (Mode.live_ne rfl) rfl (by first|rfl|(simp only [List.length_set];done)|(simp only [List.length_drop,List.length_take,List.length_append,List.length_set] at *;omega))) .nil) (chattelref01_Trim.cs Hq1) (.fi) (nowin rfl)) ?_
      refine O.pu (Pu.assign (.tmp (v:=.fi _ _) rfl)) ?_
      refine O.nil ?_
      refine X.ret ?_
      cases h
      exact E.fin [] (.tmp (v:=.fi _ _) rfl .nil) (.cons (.cl .fi) .nil)
noncomputable def c94:Code:=Try.f94.body.getD .skip
theorem fn94:FnOk Try.prog 94 Try.f94 c94:=⟨Try.func94,rfl,by kernel_rfl,by kernel_rfl,mixed⟩
theorem chattelref03_Ten.cs {k:Nat} {a0:Int} {r:List Int} (h:chattelref03_Ten.f k a0=some r):CS Try.prog 94 [.int .i64 a0] .no [.fi .i64 r]:=by
  unfold chattelref03_Ten.f at h
  refine E.pure fn94 rfl ?_
  refine X.seq ?_
  refine X.still ?_
  refine O.pu (Pu.assign (.nilI (k:=.i64))) ?_
  refine O.nil ?_
  refine X.seq ?_
  refine X.still ?_
  refine O.pu (Pu.assign .str) ?_
  refine O.nil ?_
  refine X.seq ?_
  refine X.seq ?_
  refine X.still ?_
  refine O.pu (Pu.assign .int) ?_
  refine O.nil ?_
  refine X.block ?_
  refine X.inv (fun k s=>∃ x0 x3 x4,s.t 0 = .int .i64 x0∧s.t 3 = .str x3∧s.t 4 = .int .i64 x4∧chattelref03_Ten.l0 k x0 x3 x4=some r) ?_ ?_ ⟨_,_,_,rfl,rfl,rfl,h⟩
  · rintro s ⟨_,_,_,_,_,_,h⟩;unfold chattelref03_Ten.l0 at h;cases h
  · rintro k1 s1 ⟨x0,x3,x4,e0,e1,e2,h⟩
    unfold chattelref03_Ten.l0 at h
    rw [St.fixT e0,St.fixT e1,St.fixT e2]
    refine X.seq ?_
    refine X.seq ?_
    refine X.still ?_
    refine O.pu (Pu.move (.tmp (v:=.int _ _) rfl)) ?_
    refine O.pu (Pu.move (.tmp (v:=.int _ _) rfl)) ?_
    refine O.pu (Pu.bin (.tmp rfl) (.tmp rfl) .lss) ?_
    refine O.nil ?_
    refine X.condP (.tmp rfl) (fun c=>?_) (fun c=>?_)
    · rw [if_pos c] at h
      refine X.skip ?_
      refine X.seq ?_
      refine X.block ?_
      refine X.still ?_
      refine O.pu (Pu.move (.tmp (v:=.str _) rfl)) ?_
      repeat (rw [giff] at h;obtain ⟨_,h⟩:=h)
      refine O.pu (Pu.bin (.tmp rfl) .str (U.sadd (by first|assumption|omega))) ?_
      refine O.pu (Pu.assign (.tmp (v:=.str _) rfl)) ?_
      refine O.nil ?_
      refine X.still ?_
      refine O.pu (Pu.move (.tmp (v:=.int _ _) rfl)) ?_
      refine O.pu (Pu.bin (.tmp rfl) .int U.add64) ?_
      refine O.pu (Pu.assign (.tmp (v:=.int _ _) rfl)) ?_
      refine O.nil ?_
      exact ⟨_,(by omega),_,_,_,rfl,rfl,rfl,h⟩
    · rw [if_neg c] at h
      refine X.exit (B.out ?_)
      refine X.seq ?_
      refine X.still ?_
      refine O.pu (Pu.move (.tmp (v:=.str _) rfl)) ?_
      obtain ⟨q1,Hq1,h⟩:=Option.bind_eq_some_iff.1 h
      refine O.pu (U.call (ss:=[]) (.cons (.tmp (v:=.str _) rfl) .nil) (.cons (.cl .str) .nil) (chattelref01_Read.cs Hq1) (.inl rfl) (.fi)) ?_
      refine O.pu (Pu.assign (.tmp (v:=.fi _ _) rfl)) ?_
      refine O.nil ?_
      refine X.ret ?_
      cases h
      exact E.fin [] (.tmp (v:=.fi _ _) rfl .nil) (.cons (.cl .fi) .nil)
noncomputable def c95:Code:=Try.f95.body.getD .skip
theorem fn95:FnOk Try.prog 95 Try.f95 c95:=⟨Try.func95,rfl,by kernel_rfl,by kernel_rfl,mixed⟩
theorem chattelref05_From.cs {l0_0:List Int} {a0_1:Bool} {r:List Int×Bool×List Int} (h:chattelref05_From.f l0_0 a0_1=some r):CS Try.prog 95 [.agg [.fi .i64 l0_0, .bool a0_1]] .no [.agg [.fi .i64 r.1, .bool r.2.1, .fi .i64 r.2.2]]:=by
  unfold chattelref05_From.f at h
  refine E.pure fn95 rfl ?_
  refine X.seq ?_
  refine X.still ?_
  refine O.puE (v':=.op 1 (1) 0 0) (b':=⟨1, .own,_,_⟩) (Pu.box (.tmp (v:=.agg _) rfl) rfl rfl) rfl rfl ?_
  refine O.puE (v':=.op 2 (1) 0 0) (b':=⟨1, .own,(.vals [.agg [.fi .i64 [], .bool false, .fi .i64 []]]),_⟩) Pu.alloc rfl rfl ?_
  refine O.nil ?_
  refine X.seq ?_
  refine X.still ?_
  refine O.pu (U.load (.tmp rfl) rfl rfl (U.whole rfl rfl)) ?_
  refine O.puE (v':=.os 4 (1) 0 _ true) (b':=⟨1, .own,_,_⟩) (U.litI rfl rfl (.cons .int .nil) rfl rfl) rfl rfl ?_
  refine O.pu (Pu.build rfl (.cons (.tmp (v:=.agg _) rfl) rfl rfl rfl (.put (.put .done)) (.cons (.tmp (v:=.os _ _ _ _ _) rfl) rfl rfl rfl (.skip (.skip (.put .done))) .nil))) ?_
  refine O.ef0 (U.storeE (.tmp rfl) rfl rfl (.tmp (v:=.agg _) rfl) rfl rfl (.whole (notBad_ne rfl) rfl) .one) ?_
  refine O.nil ?_
  refine X.ret ?_
  cases h
  exact E.fin [4] (.cell rfl rfl (Mode.live_ne rfl) (U.whole rfl rfl) .nil) (.cons (.aggL (.cons (.cl .fi) (.cons (.cl .bool) (.cons (.osIf (by simp) rfl (Mode.live_ne rfl) rfl (by first|rfl|(simp only [List.length_set];done)|(simp only [List.length_drop,List.length_take,List.length_append,List.length_set] at *;omega))) .nil)))) .nil)
noncomputable def c52:Code:=Try.f52.body.getD .skip
theorem fn52:FnOk Try.prog 52 Try.f52 c52:=⟨Try.func52,rfl,by kernel_rfl,by kernel_rfl,mixed⟩
theorem chattelref06_Scaled.cs {k:Nat} {l0_0:List Int} {a0_1:Bool} {l0_2:List Int} {a1:Int} {a2:Int} {r:List Int×Bool} (h:chattelref06_Scaled.f k l0_0 a0_1 l0_2 a1 a2=some r):CS Try.prog 52 [.agg [.fi .i64 l0_0, .bool a0_1, .fi .i64 l0_2], .int .i64 a1, .int .i64 a2] .no [.agg [.fi .i64 r.1, .bool r.2]]:=by
  unfold chattelref06_Scaled.f at h
  refine E.pure fn52 rfl ?_
  refine X.seq ?_
  refine X.still ?_
  refine O.puE (v':=.op 3 (1) 0 0) (b':=⟨1, .own,_,_⟩) (Pu.box (.tmp (v:=.agg _) rfl) rfl rfl) rfl rfl ?_
  refine O.puE (v':=.op 6 (1) 0 0) (b':=⟨1, .own,(.vals [.agg [.fi .i64 [], .bool false]]),_⟩) Pu.alloc rfl rfl ?_
  refine O.nil ?_
  refine X.seq ?_
  refine X.still ?_
  refine O.pu (Pu.move (.tmp (v:=.int _ _) rfl)) ?_
  obtain ⟨q1,Hq1,h⟩:=Option.bind_eq_some_iff.1 h
  refine O.pu (U.call (ss:=[]) (.cons (.tmp (v:=.int _ _) rfl) .nil) (.cons (.cl .int) .nil) (chattelref03_Ten.cs Hq1) (.inl rfl) (.fi)) ?_
  refine O.pu (Pu.assign (.tmp (v:=.fi _ _) rfl)) ?_
  refine O.nil ?_
  refine X.seq ?_
  refine X.still ?_
  refine O.pu (Pu.move (.tmp (v:=.fi _ _) rfl)) ?_
  obtain ⟨q2,Hq2,h⟩:=Option.bind_eq_some_iff.1 h
  refine O.pu (U.call (ss:=[]) (.cons (.tmp (v:=.fi _ _) rfl) (.cons .bool .nil)) (.cons (.cl .fi) (.cons (.cl .bool) .nil)) (chattelref04_Of.cs Hq2) (.inl rfl) (.aggL (.cons .fi (.cons .bool .nil)))) ?_
  refine O.puE (v':=.op 8 (1) 0 0) (b':=⟨1, .own,(.vals [.agg [.fi .i64 [], .bool false]]),_⟩) Pu.alloc rfl rfl ?_
  refine O.ef0 (U.storeE (.tmp rfl) rfl rfl (.tmp (v:=.agg _) rfl) rfl rfl (.whole (notBad_ne rfl) rfl) .one) ?_
  refine O.nil ?_
  refine X.seq ?_
  refine X.still ?_
  refine O.pu (U.load (.tmp rfl) rfl rfl (U.whole rfl rfl)) ?_
  obtain ⟨q3,Hq3,h⟩:=Option.bind_eq_some_iff.1 h
  refine O.pu (U.call (ss:=[]) (.cons (.tmp (v:=.agg _) rfl) .nil) (.cons (.cl (.aggL (.cons .fi (.cons .bool .nil)))) .nil) (chattelref05_From.cs Hq3) (.inl rfl) (.aggL (.cons .fi (.cons .bool (.cons .fi .nil))))) ?_
  refine O.puE (v':=.op 9 (1) 0 0) (b':=⟨1, .own,(.vals [.agg [.fi .i64 [], .bool false, .fi .i64 []]]),_⟩) Pu.alloc rfl rfl ?_
  refine O.ef0 (U.storeE (.tmp rfl) rfl rfl (.tmp (v:=.agg _) rfl) rfl rfl (.whole (notBad_ne rfl) rfl) .one) ?_
  refine O.nil ?_
  refine X.seq ?_
  refine X.still ?_
  refine O.pu (U.load (.tmp rfl) rfl rfl (U.whole rfl rfl)) ?_
  refine O.pu (U.load (.tmp rfl) rfl rfl (U.whole rfl rfl)) ?_
  obtain ⟨q4,Hq4,h⟩:=Option.bind_eq_some_iff.1 h
  refine O.pu (U.call (ss:=[]) (.cons (.tmp (v:=.agg _) rfl) (.cons (.tmp (v:=.agg _) rfl) .nil)) (.cons (.cl (.aggL (.cons .fi (.cons .bool (.cons .fi .nil))))) (.cons (.cl (.aggL (.cons .fi (.cons .bool (.cons .fi .nil))))) .nil)) (chattelref05_Mul.cs Hq4) (.inl rfl) (.aggL (.cons .fi (.cons .bool (.cons .fi .nil))))) ?_
  refine O.puE (v':=.op 10 (1) 0 0) (b':=⟨1, .own,(.vals [.agg [.fi .i64 [], .bool false, .fi .i64 []]]),_⟩) Pu.alloc rfl rfl ?_
  refine O.ef0 (U.storeE (.tmp rfl) rfl rfl (.tmp (v:=.agg _) rfl) rfl rfl (.whole (notBad_ne rfl) rfl) .one) ?_
  refine O.nil ?_
  refine X.seq ?_
  refine X.still ?_
  refine O.pu (U.load (.tmp rfl) rfl rfl (U.whole rfl rfl)) ?_
  refine O.pu (Pu.move (.tmp (v:=.int _ _) rfl)) ?_
  obtain ⟨q5,Hq5,h⟩:=Option.bind_eq_some_iff.1 h
  refine O.pu (U.call (ss:=[]) (.cons (.tmp (v:=.agg _) rfl) (.cons (.tmp (v:=.int _ _) rfl) .nil)) (.cons (.cl (.aggL (.cons .fi (.cons .bool (.cons .fi .nil))))) (.cons (.cl .int) .nil)) (chattelref06_Whole.cs Hq5) (.inl rfl) (.aggL (.cons .fi (.cons .bool .nil)))) ?_
  refine O.ef0 (U.storeE (.tmp rfl) rfl rfl (.tmp (v:=.agg _) rfl) rfl rfl (.whole (notBad_ne rfl) rfl) .one) ?_
  refine O.nil ?_
  refine X.ret ?_
  cases h
  exact E.fin [] (.cell rfl rfl (Mode.live_ne rfl) (U.whole rfl rfl) .nil) (.cons (.cl (.aggL (.cons .fi (.cons .bool .nil)))) .nil)
noncomputable def c14:Code:=Try.f14.body.getD .skip
theorem fn14:FnOk Try.prog 14 Try.f14 c14:=⟨Try.func14,rfl,by kernel_rfl,by kernel_rfl,mixed⟩
theorem whole_From.cs {k:Nat} {a0:Int} {r:List Int×Bool} (h:whole_From.f k a0=some r):CS Try.prog 14 [.int .i64 a0] .no [.agg [.fi .u64 r.1, .bool r.2]]:=by
  unfold whole_From.f at h
  refine E.pure fn14 rfl ?_
  refine X.seq ?_
  refine X.still ?_
  refine O.puE (v':=.op 2 (1) 0 0) (b':=⟨1, .own,(.vals [.agg [.fi .u64 [], .bool false]]),_⟩) Pu.alloc rfl rfl ?_
  refine O.nil ?_
  refine X.seq ?_
  refine X.seq ?_
  refine X.still ?_
  refine O.pu (Pu.move (.tmp (v:=.int _ _) rfl)) ?_
  refine O.pu (Pu.bin (.tmp rfl) .int .lss) ?_
  refine O.nil ?_
  refine X.condP (.tmp rfl) (fun c=>?_) (fun c=>?_)
  · rw [if_pos c] at h
    refine X.seq ?_
    refine X.still ?_
    refine O.pu (Pu.move (.tmp (v:=.int _ _) rfl)) ?_
    refine O.pu (U.convI rfl (.tmp rfl)) ?_
    refine O.pu (Pu.un (.tmp rfl) U.neg) ?_
    refine O.puE (v':=.os 8 (1) 0 _ true) (b':=⟨1, .own,_,_⟩) (U.litI rfl rfl (.cons (.tmp (v:=.int _ _) rfl) .nil) rfl rfl) rfl rfl ?_
    obtain ⟨q1,Hq1,h⟩:=Option.bind_eq_some_iff.1 h
    refine O.ef (U.callZ (ss:=[8]) (.cons (.tmp (v:=.os _ _ _ _ _) rfl) .nil) (.cons (.osIf (by simp) rfl (Mode.live_ne rfl) rfl (by first|rfl|(simp only [List.length_set];done)|(simp only [List.length_drop,List.length_take,List.length_append,List.length_set] at *;omega))) .nil) (nat_Of.cs Hq1) (.aggL (.cons .fi .nil)) (nowin rfl)) ?_
    obtain ⟨q2,Hq2,h⟩:=Option.bind_eq_some_iff.1 h
    refine O.pu (U.call (ss:=[]) (.cons (.tmp (v:=.agg _) rfl) (.cons .bool .nil)) (.cons (.cl (.aggL (.cons .fi .nil))) (.cons (.cl .bool) .nil)) (whole_Of.cs Hq2) (.inl rfl) (.aggL (.cons .fi (.cons .bool .nil)))) ?_
    refine O.ef0 (U.storeE (.tmp rfl) rfl rfl (.tmp (v:=.agg _) rfl) rfl rfl (.whole (notBad_ne rfl) rfl) .one) ?_
    refine O.nil ?_
    refine X.ret ?_
    cases h
    exact E.fin [] (.cell rfl rfl (Mode.live_ne rfl) (U.whole rfl rfl) .nil) (.cons (.cl (.aggL (.cons .fi (.cons .bool .nil)))) .nil)
  · rw [if_neg c] at h
    refine X.skip ?_
    refine X.seq ?_
    refine X.still ?_
    refine O.pu (Pu.move (.tmp (v:=.int _ _) rfl)) ?_
    refine O.pu (U.convI rfl (.tmp rfl)) ?_
    refine O.puE (v':=.os 13 (1) 0 _ true) (b':=⟨1, .own,_,_⟩) (U.litI rfl rfl (.cons (.tmp (v:=.int _ _) rfl) .nil) rfl rfl) rfl rfl ?_
    obtain ⟨q3,Hq3,h⟩:=Option.bind_eq_some_iff.1 h
    refine O.ef (U.callZ (ss:=[13]) (.cons (.tmp (v:=.os _ _ _ _ _) rfl) .nil) (.cons (.osIf (by simp) rfl (Mode.live_ne rfl) rfl (by first|rfl|(simp only [List.length_set];done)|(simp only [List.length_drop,List.length_take,List.length_append,List.length_set] at *;omega))) .nil) (nat_Of.cs Hq3) (.aggL (.cons .fi .nil)) (nowin rfl)) ?_
    obtain ⟨q4,Hq4,h⟩:=Option.bind_eq_some_iff.1 h
    refine O.pu (U.call (ss:=[]) (.cons (.tmp (v:=.agg _) rfl) (.cons .bool .nil)) (.cons (.cl (.aggL (.cons .fi .nil))) (.cons (.cl .bool) .nil)) (whole_Of.cs Hq4) (.inl rfl) (.aggL (.cons .fi (.cons .bool .nil)))) ?_
    refine O.ef0 (U.storeE (.tmp rfl) rfl rfl (.tmp (v:=.agg _) rfl) rfl rfl (.whole (notBad_ne rfl) rfl) .one) ?_
    refine O.nil ?_
    refine X.ret ?_
    cases h
    exact E.fin [] (.cell rfl rfl (Mode.live_ne rfl) (U.whole rfl rfl) .nil) (.cons (.cl (.aggL (.cons .fi (.cons .bool .nil)))) .nil)
noncomputable def c96:Code:=Try.f96.body.getD .skip
theorem fn96:FnOk Try.prog 96 Try.f96 c96:=⟨Try.func96,rfl,by kernel_rfl,by kernel_rfl,mixed⟩
theorem slices_Index_string_string.cs {k:Nat} {l0:List ByteArray} {a1:ByteArray} {r:Int} (h:slices_Index_string_string.f k l0 a1=some r):CS Try.prog 96 [.fv (List.map AV.str l0), .str a1] .no [.int .i64 r]:=by
  unfold slices_Index_string_string.f at h
  refine E.pure fn96 rfl ?_
  refine X.seq ?_
  refine X.still ?_
  refine O.pu (Pu.assign .int) ?_
  refine O.nil ?_
  refine X.seq ?_
  refine X.seq ?_
  refine X.still ?_
  refine O.pu (Pu.move (.tmp (v:=.fv _) rfl)) ?_
  refine O.pu (U.lenS rfl (.tmp rfl)) ?_
  refine O.pu (Pu.move .int) ?_
  refine O.nil ?_
  refine X.block ?_
  refine X.inv (fun k s=>∃ x0 x1 x7 x8,s.t 0 = .fv (List.map AV.str x0)∧s.t 1 = .str x1∧s.t 7 = .int .i64 x7∧s.t 8 = .int .i64 x8∧slices_Index_string_string.l0 k x0 x1 x7 x8=some r) ?_ ?_ ⟨_,_,_,_,rfl,rfl,rfl,rfl,h⟩
  · rintro s ⟨_,_,_,_,_,_,_,_,h⟩;unfold slices_Index_string_string.l0 at h;cases h
  · rintro k1 s1 ⟨x0,x1,x7,x8,e0,e1,e2,e3,h⟩
    unfold slices_Index_string_string.l0 at h
    rw [St.fixT e0,St.fixT e1,St.fixT e2,St.fixT e3]
    refine X.seq ?_
    refine X.still ?_
    refine O.pu (Pu.bin (.tmp rfl) (.tmp rfl) .lss) ?_
    refine O.nil ?_
    refine X.seq ?_
    refine X.condP (.tmp rfl) (fun c=>?_) (fun c=>?_)
    · rw [if_pos c] at h
      refine X.skip ?_
      refine X.seq ?_
      refine X.block ?_
      refine X.seq ?_
      refine X.still ?_
      refine O.pu (Pu.move (.tmp (v:=.int _ _) rfl)) ?_
      refine O.pu (Pu.assign (.tmp (v:=.int _ _) rfl)) ?_
      refine O.nil ?_
      refine X.seq ?_
      refine X.still ?_
      refine O.pu (Pu.move (.tmp (v:=.str _) rfl)) ?_
      refine O.pu (Pu.move (.tmp (v:=.fv _) rfl)) ?_
      refine O.pu (Pu.move (.tmp (v:=.int _ _) rfl)) ?_
      repeat (rw [giff] at h;obtain ⟨_,h⟩:=h)
      refine O.pu (U.rdV rfl rfl (.tmp rfl) (.tmp rfl) (by omega) (by omega)) ?_
      refine O.pu (Pu.loadR (.tmp rfl) (U.self rfl rfl rfl)) ?_
      refine O.pu (Pu.bin (.tmp rfl) (.tmp rfl) .seql) ?_
      refine O.nil ?_
      refine X.condS (.tmp rfl) rfl (fun c=>?_) (fun c=>?_)
      · rw [if_pos c] at h
        refine X.seq ?_
        refine X.still ?_
        refine O.pu (Pu.move (.tmp (v:=.int _ _) rfl)) ?_
        refine O.pu (Pu.assign (.tmp (v:=.int _ _) rfl)) ?_
        refine O.nil ?_
        refine X.ret ?_
        cases h
        exact E.fin [] (.tmp (v:=.int _ _) rfl .nil) (.cons (.cl .int) .nil)
      · rw [if_neg c] at h
        refine X.skip ?_
        refine X.still ?_
        refine O.pu (Pu.bin (.tmp rfl) .int U.add64) ?_
        refine O.pu (Pu.move (.tmp (v:=.int _ _) rfl)) ?_
        refine O.nil ?_
        exact ⟨_,(by omega),_,_,_,_,rfl,rfl,rfl,rfl,h⟩
    · rw [if_neg c] at h
      refine X.exit (B.out ?_)
      refine X.seq ?_
      refine X.still ?_
      refine O.pu (Pu.assign .int) ?_
      refine O.nil ?_
      refine X.ret ?_
      cases h
      exact E.fin [] (.tmp (v:=.int _ _) rfl .nil) (.cons (.cl .int) .nil)
noncomputable def c97:Code:=Try.f97.body.getD .skip
theorem fn97:FnOk Try.prog 97 Try.f97 c97:=⟨Try.func97,rfl,by kernel_rfl,by kernel_rfl,mixed⟩
theorem round_words.cs {r:List ByteArray} (h:round_words.f=some r):CS Try.prog 97 [] .no [.fv (List.map AV.str r)]:=by
  unfold round_words.f at h
  refine E.pure fn97 rfl ?_
  refine X.seq ?_
  refine X.still ?_
  refine O.pu (Pu.assign .nilV) ?_
  refine O.nil ?_
  refine X.seq ?_
  refine X.still ?_
  refine O.puE (v':=.os 1 (1) 0 _ true) (b':=⟨1, .own,_,_⟩) (U.litS (en:=AV.str) (l:=[_,_,_,_,_]) rfl (.cons .str rfl (.cons .str rfl (.cons .str rfl (.cons .str rfl (.cons .str rfl .nil))))) rfl rfl rfl (fun _=>rfl)) rfl rfl ?_
  refine O.pu (Pu.assign (.tmp (v:=.os _ _ _ _ _) rfl)) ?_
  refine O.nil ?_
  refine X.ret ?_
  cases h
  exact E.fin [1] (.tmp (v:=.os _ _ _ _ _) rfl .nil) (.cons (.osVf (by simp) rfl (Mode.live_ne rfl) rfl (ClL.map fun _=>.str) (by first|rfl|(simp only [List.length_map,List.length_append,List.length_cons,List.length_nil] at *;done)|(simp only [List.length_map,List.length_append,List.length_cons,List.length_nil] at *;omega))) .nil)
noncomputable def c54:Code:=Try.f54.body.getD .skip
theorem fn54:FnOk Try.prog 54 Try.f54 c54:=⟨Try.func54,rfl,by kernel_rfl,by kernel_rfl,mixed⟩
theorem round_Of.cs {k:Nat} {a0:ByteArray} {r:Int×Bool} (h:round_Of.f k a0=some r):CS Try.prog 54 [.str a0] .no [.int .i64 r.1, .bool r.2]:=by
  unfold round_Of.f at h
  refine E.pure fn54 rfl ?_
  refine X.seq ?_
  refine X.still ?_
  refine O.pu (Pu.assign .int) ?_
  refine O.pu (Pu.assign .bool) ?_
  refine O.nil ?_
  refine X.seq ?_
  refine X.still ?_
  obtain ⟨q1,Hq1,h⟩:=Option.bind_eq_some_iff.1 h
  refine O.pu (U.call (ss:=[]) .nil .nil (round_words.cs Hq1) (.inl rfl) (.fv (ClL.map fun _=>.str))) ?_
  refine O.pu (Pu.move (.tmp (v:=.str _) rfl)) ?_
  obtain ⟨q2,Hq2,h⟩:=Option.bind_eq_some_iff.1 h
  refine O.pu (U.call (ss:=[]) (.cons (.tmp (v:=.fv _) rfl) (.cons (.tmp (v:=.str _) rfl) .nil)) (.cons (.cl (.fv (ClL.map fun _=>.str))) (.cons (.cl .str) .nil)) (slices_Index_string_string.cs Hq2) (.inl rfl) (.int)) ?_
  refine O.pu (Pu.assign (.tmp (v:=.int _ _) rfl)) ?_
  refine O.nil ?_
  refine X.seq ?_
  refine X.still ?_
  refine O.pu (Pu.move (.tmp (v:=.int _ _) rfl)) ?_
  refine O.pu (U.mx (.tmp rfl) .int) ?_
  refine O.pu (Pu.move (.tmp (v:=.int _ _) rfl)) ?_
  refine O.pu (Pu.bin (.tmp rfl) .int .geq) ?_
  refine O.pu (Pu.assign (.tmp (v:=.int _ _) rfl)) ?_
  refine O.pu (Pu.assign (.tmp (v:=.bool _) rfl)) ?_
  refine O.nil ?_
  refine X.ret ?_
  cases h
  exact E.fin [] (.tmp (v:=.int _ _) rfl (.tmp (v:=.bool _) rfl .nil)) (.cons (.cl .int) (.cons (.cl .bool) .nil))
noncomputable def c55:Code:=Try.f55.body.getD .skip
theorem fn55:FnOk Try.prog 55 Try.f55 c55:=⟨Try.func55,rfl,by kernel_rfl,by kernel_rfl,mixed⟩
theorem round_Mode_Word.cs {a0:Int} {r:ByteArray} (h:round_Mode_Word.f a0=some r):CS Try.prog 55 [.int .i64 a0] .no [.str r]:=by
  unfold round_Mode_Word.f at h
  refine E.pure fn55 rfl ?_
  refine X.seq ?_
  refine X.still ?_
  refine O.pu (Pu.assign .str) ?_
  refine O.nil ?_
  refine X.seq ?_
  refine X.seq ?_
  refine X.still ?_
  refine O.pu (Pu.move (.tmp (v:=.int _ _) rfl)) ?_
  obtain ⟨q1,Hq1,h⟩:=Option.bind_eq_some_iff.1 h
  refine O.pu (U.call (ss:=[]) (.cons (.tmp (v:=.int _ _) rfl) .nil) (.cons (.cl .int) .nil) (round_Mode_good.cs Hq1) (.inl rfl) (.bool)) ?_
  refine O.pu (Pu.un (.tmp rfl) .not) ?_
  refine O.nil ?_
  refine X.condNot (.tmp rfl) (fun c=>?_) (fun c=>?_)
  · rw [if_neg (bf c)] at h
    refine X.seq ?_
    refine X.still ?_
    refine O.pu (Pu.assign .str) ?_
    refine O.nil ?_
    refine X.ret ?_
    cases h
    exact E.fin [] (.tmp (v:=.str _) rfl .nil) (.cons (.cl .str) .nil)
  · rw [if_pos c] at h
    refine X.skip ?_
    refine X.seq ?_
    refine X.still ?_
    obtain ⟨q2,Hq2,h⟩:=Option.bind_eq_some_iff.1 h
    refine O.pu (U.call (ss:=[]) .nil .nil (round_words.cs Hq2) (.inl rfl) (.fv (ClL.map fun _=>.str))) ?_
    refine O.pu (Pu.move (.tmp (v:=.int _ _) rfl)) ?_
    repeat (rw [giff] at h;obtain ⟨_,h⟩:=h)
    refine O.pu (U.rdV rfl rfl (.tmp rfl) (.tmp rfl) (by omega) (by omega)) ?_
    refine O.pu (Pu.loadR (.tmp rfl) (U.self rfl rfl rfl)) ?_
    refine O.pu (Pu.assign (.tmp (v:=.str _) rfl)) ?_
    refine O.nil ?_
    refine X.ret ?_
    cases h
    exact E.fin [] (.tmp (v:=.str _) rfl .nil) (.cons (.cl .str) .nil)
noncomputable def c53:Code:=Try.f53.body.getD .skip
theorem fn53:FnOk Try.prog 53 Try.f53 c53:=⟨Try.func53,rfl,by kernel_rfl,by kernel_rfl,mixed⟩
theorem chattellaw06_wakes.cs {k:Nat} {r:Bool} (h:chattellaw06_wakes.f k=some r):CS Try.prog 53 [] .no [.bool r]:=by
  unfold chattellaw06_wakes.f at h
  refine E.pure fn53 rfl ?_
  refine X.seq ?_
  refine X.still ?_
  refine O.pu (Pu.assign .bool) ?_
  refine O.nil ?_
  refine X.seq ?_
  refine X.still ?_
  obtain ⟨q1,Hq1,h⟩:=Option.bind_eq_some_iff.1 h
  refine O.pu (U.call (ss:=[]) (.cons .int .nil) (.cons (.cl .int) .nil) (whole_From.cs Hq1) (.inl rfl) (.aggL (.cons .fi (.cons .bool .nil)))) ?_
  obtain ⟨q2,Hq2,h⟩:=Option.bind_eq_some_iff.1 h
  refine O.pu (U.call (ss:=[]) (.cons .int .nil) (.cons (.cl .int) .nil) (whole_From.cs Hq2) (.inl rfl) (.aggL (.cons .fi (.cons .bool .nil)))) ?_
  obtain ⟨q3,Hq3,h⟩:=Option.bind_eq_some_iff.1 h
  refine O.pu (U.call (ss:=[]) (.cons (.tmp (v:=.agg _) rfl) (.cons (.tmp (v:=.agg _) rfl) .nil)) (.cons (.cl (.aggL (.cons .fi (.cons .bool .nil)))) (.cons (.cl (.aggL (.cons .fi (.cons .bool .nil)))) .nil)) (frac_Of.cs Hq3) (.inl rfl) (.tupL (.cons (.aggL (.cons .fi (.cons .bool (.cons .fi .nil)))) (.cons .int .nil)))) ?_
  refine O.pu (Pu.move (.tmp (v:=.tup _) rfl)) ?_
  refine O.pu (Pu.extract (.tmp rfl) rfl) ?_
  refine O.pu (Pu.extract (.tmp rfl) rfl) ?_
  refine O.puE (v':=.op 1 (1) 0 0) (b':=⟨1, .own,(.vals [.agg [.fi .u64 [], .bool false, .fi .u64 []]]),_⟩) Pu.alloc rfl rfl ?_
  refine O.ef0 (U.storeE (.tmp rfl) rfl rfl (.tmp (v:=.agg _) rfl) rfl rfl (.whole (notBad_ne rfl) rfl) .one) ?_
  refine O.pu (Pu.assign (.tmp (v:=.int _ _) rfl)) ?_
  refine O.nil ?_
  refine X.seq ?_
  refine X.still ?_
  refine O.pu (Pu.assign .str) ?_
  refine O.nil ?_
  refine X.seq ?_
  refine X.seq ?_
  refine X.still ?_
  refine O.pu (Pu.move .int) ?_
  refine O.nil ?_
  refine X.block ?_
  refine X.inv (fun k s=>∃ x3 x19 x2181000 x2181001 x2181002 u1,s.t 3 = .str x3∧s.t 19 = .int .i64 x19∧s.t 1 = .op 1 u1 0 0∧s.b 1=⟨u1, .own, .vals [.agg [.fi .u64 x2181000, .bool x2181001, .fi .u64 x2181002]],30⟩∧chattellaw06_wakes.l0 k x3 x19 x2181000 x2181001 x2181002=some r) ?_ ?_ ⟨_,_,_,_,_,_,rfl,rfl,rfl,rfl,h⟩
  · rintro s ⟨_,_,_,_,_,_,_,_,_,_,h⟩;unfold chattellaw06_wakes.l0 at h;cases h
  · rintro k1 s1 ⟨x3,x19,x2181000,x2181001,x2181002,u1,e0,e1,e2,e3,h⟩
    unfold chattellaw06_wakes.l0 at h
    rw [St.fixT e0,St.fixT e1,St.fixT e2,St.fixB e3]
    refine X.seq ?_
    refine X.still ?_
    refine O.pu (Pu.bin (.tmp rfl) .int .lss) ?_
    refine O.nil ?_
    refine X.seq ?_
    refine X.condP (.tmp rfl) (fun c=>?_) (fun c=>?_)
    · rw [if_pos c] at h
      refine X.skip ?_
      refine X.seq ?_
      refine X.block ?_
      refine X.seq ?_
      refine X.still ?_
      refine O.pu (Pu.move (.tmp (v:=.int _ _) rfl)) ?_
      refine O.pu (Pu.assign (.tmp (v:=.int _ _) rfl)) ?_
      refine O.nil ?_
      refine X.seq ?_
      refine X.still ?_
      refine O.pu (U.load (.tmp rfl) rfl rfl (U.whole rfl rfl)) ?_
      refine O.pu (Pu.move (.tmp (v:=.int _ _) rfl)) ?_
      obtain ⟨q4,Hq4,h⟩:=Option.bind_eq_some_iff.1 h
      refine O.pu (U.call (ss:=[]) (.cons (.tmp (v:=.agg _) rfl) (.cons (.tmp (v:=.int _ _) rfl) .nil)) (.cons (.cl (.aggL (.cons .fi (.cons .bool (.cons .fi .nil))))) (.cons (.cl .int) .nil)) (round_Whole.cs Hq4) (.inl rfl) (.tupL (.cons (.aggL (.cons .fi (.cons .bool .nil))) (.cons .int .nil)))) ?_
      refine O.pu (Pu.move (.tmp (v:=.tup _) rfl)) ?_
      refine O.pu (Pu.extract (.tmp rfl) rfl) ?_
      refine O.pu (Pu.extract (.tmp rfl) rfl) ?_
      refine O.puE (v':=.op 5 ((s1.b 5).ver + 1) 0 0) (b':=⟨(s1.b 5).ver + 1, .own,(.vals [.agg [.fi .u64 [], .bool false]]),_⟩) Pu.alloc rfl rfl ?_
      refine O.ef0 (U.storeE (.tmp rfl) rfl rfl (.tmp (v:=.agg _) rfl) rfl rfl (.whole (notBad_ne rfl) rfl) .one) ?_
      refine O.pu (Pu.assign (.tmp (v:=.int _ _) rfl)) ?_
      refine O.nil ?_
      refine X.still ?_
      refine O.pu (Pu.move (.tmp (v:=.str _) rfl)) ?_
      refine O.pu (U.load (.tmp rfl) rfl rfl (U.whole rfl rfl)) ?_
      obtain ⟨q5,Hq5,h⟩:=Option.bind_eq_some_iff.1 h
      refine O.pu (U.call (ss:=[]) (.cons (.tmp (v:=.agg _) rfl) .nil) (.cons (.cl (.aggL (.cons .fi (.cons .bool .nil)))) .nil) (whole_Int_Print.cs Hq5) (.inl rfl) (.str)) ?_
      repeat (rw [giff] at h;obtain ⟨_,h⟩:=h)
      refine O.pu (Pu.bin (.tmp rfl) (.tmp rfl) (U.sadd (by first|assumption|omega))) ?_
      refine O.pu (Pu.assign (.tmp (v:=.str _) rfl)) ?_
      refine O.nil ?_
      refine X.still ?_
      refine O.pu (Pu.bin (.tmp rfl) .int U.add64) ?_
      refine O.pu (Pu.move (.tmp (v:=.int _ _) rfl)) ?_
      refine O.nil ?_
      exact ⟨_,(by omega),_,_,_,_,_,_,rfl,rfl,rfl,rfl,h⟩
    · rw [if_neg c] at h
      refine X.exit (B.out ?_)
      refine X.seq ?_
      refine X.still ?_
      refine O.pu (U.load (.tmp rfl) rfl rfl (U.whole rfl rfl)) ?_
      obtain ⟨q6,Hq6,h⟩:=Option.bind_eq_some_iff.1 h
      refine O.pu (U.call (ss:=[]) (.cons (.tmp (v:=.agg _) rfl) (.cons .int .nil)) (.cons (.cl (.aggL (.cons .fi (.cons .bool (.cons .fi .nil))))) (.cons (.cl .int) .nil)) (round_Whole.cs Hq6) (.inl rfl) (.tupL (.cons (.aggL (.cons .fi (.cons .bool .nil))) (.cons .int .nil)))) ?_
      refine O.pu (Pu.move (.tmp (v:=.tup _) rfl)) ?_
      refine O.pu (Pu.extract (.tmp rfl) rfl) ?_
      refine O.pu (Pu.extract (.tmp rfl) rfl) ?_
      refine O.puE (v':=.op 7 ((s1.b 7).ver + 1) 0 0) (b':=⟨(s1.b 7).ver + 1, .own,(.vals [.agg [.fi .u64 [], .bool false]]),_⟩) Pu.alloc rfl rfl ?_
      refine O.ef0 (U.storeE (.tmp rfl) rfl rfl (.tmp (v:=.agg _) rfl) rfl rfl (.whole (notBad_ne rfl) rfl) .one) ?_
      refine O.pu (Pu.assign (.tmp (v:=.int _ _) rfl)) ?_
      refine O.nil ?_
      refine X.seq ?_
      refine X.still ?_
      obtain ⟨q7,Hq7,h⟩:=Option.bind_eq_some_iff.1 h
      refine O.pu (U.call (ss:=[]) (.cons .str .nil) (.cons (.cl .str) .nil) (round_Of.cs Hq7) (.inl rfl) (.tupL (.cons .int (.cons .bool .nil)))) ?_
      refine O.pu (Pu.move (.tmp (v:=.tup _) rfl)) ?_
      refine O.pu (Pu.extract (.tmp rfl) rfl) ?_
      refine O.pu (Pu.extract (.tmp rfl) rfl) ?_
      refine O.pu (Pu.assign (.tmp (v:=.int _ _) rfl)) ?_
      refine O.pu (Pu.assign (.tmp (v:=.bool _) rfl)) ?_
      refine O.nil ?_
      refine X.seq ?_
      refine X.still ?_
      refine O.pu (U.load (.tmp rfl) rfl rfl (U.whole rfl rfl)) ?_
      obtain ⟨q8,Hq8,h⟩:=Option.bind_eq_some_iff.1 h
      refine O.pu (U.call (ss:=[]) (.cons (.tmp (v:=.agg _) rfl) (.cons .int (.cons .int .nil))) (.cons (.cl (.aggL (.cons .fi (.cons .bool (.cons .fi .nil))))) (.cons (.cl .int) (.cons (.cl .int) .nil))) (round_Scaled.cs Hq8) (.inl rfl) (.tupL (.cons (.aggL (.cons .fi (.cons .bool .nil))) (.cons .int .nil)))) ?_
      refine O.pu (Pu.move (.tmp (v:=.tup _) rfl)) ?_
      refine O.pu (Pu.extract (.tmp rfl) rfl) ?_
      refine O.pu (Pu.extract (.tmp rfl) rfl) ?_
      refine O.puE (v':=.op 11 ((s1.b 11).ver + 1) 0 0) (b':=⟨(s1.b 11).ver + 1, .own,(.vals [.agg [.fi .u64 [], .bool false]]),_⟩) Pu.alloc rfl rfl ?_
      refine O.ef0 (U.storeE (.tmp rfl) rfl rfl (.tmp (v:=.agg _) rfl) rfl rfl (.whole (notBad_ne rfl) rfl) .one) ?_
      refine O.pu (Pu.assign (.tmp (v:=.int _ _) rfl)) ?_
      refine O.nil ?_
      refine X.seq ?_
      refine X.still ?_
      refine O.pu (Pu.move (.tmp (v:=.str _) rfl)) ?_
      refine O.pu (Pu.bin (.tmp rfl) .str .seql) ?_
      refine O.pu (Pu.move (.tmp (v:=.bool _) rfl)) ?_
      refine O.splitS (l:=[45,50,45,51,45,51,45,50,45,50]) (by kernel_rfl) (fun c=>?_) (fun c=>?_)
      · rw [if_pos c] at h
        refine G.pu (W.t rfl rfl) (Pu.move (.tmp (v:=.int _ _) rfl)) ?_
        refine G.pu (W.t rfl rfl) (Pu.bin (.tmp rfl) .int .eql) ?_
        refine O.pu (Pu.pickT (.tmp rfl) (.tmp (v:=.bool _) rfl)) ?_
        refine O.pu (Pu.move (.tmp (v:=.bool _) rfl)) ?_
        refine O.splitE (fun c=>?_) (fun c=>?_)
        · rw [if_pos c] at h
          refine G.pu (W.t rfl rfl) (Pu.move (.tmp (v:=.int _ _) rfl)) ?_
          refine G.pu (W.t rfl rfl) (Pu.bin (.tmp rfl) .int .eql) ?_
          refine O.pu (Pu.pickT (.tmp rfl) (.tmp (v:=.bool _) rfl)) ?_
          refine O.pu (Pu.move (.tmp (v:=.bool _) rfl)) ?_
          refine O.splitE (fun c=>?_) (fun c=>?_)
          · rw [if_pos c] at h
            refine G.pu (W.t rfl rfl) (Pu.move (.tmp (v:=.bool _) rfl)) ?_
            refine O.pu (Pu.pickT (.tmp rfl) (.tmp (v:=.bool _) rfl)) ?_
            refine O.pu (Pu.move (.tmp (v:=.bool _) rfl)) ?_
            refine O.split (fun c=>?_) (fun c=>?_)
            · rw [if_pos c] at h
              obtain ⟨q9,Hq9,h⟩:=Option.bind_eq_some_iff.1 h
              refine G.pu (W.t rfl rfl) (U.call (ss:=[]) (.cons .int .nil) (.cons (.cl .int) .nil) (round_Mode_Word.cs Hq9) (.inl rfl) (.str)) ?_
              refine G.pu (W.t rfl rfl) (Pu.bin (.tmp rfl) .str .seql) ?_
              refine O.pu (Pu.pickT (.tmp rfl) (.tmp (v:=.bool _) rfl)) ?_
              refine O.pu (Pu.move (.tmp (v:=.bool _) rfl)) ?_
              refine O.splitS (l:=[117,112]) (by kernel_rfl) (fun c=>?_) (fun c=>?_)
              · rw [if_pos c] at h
                refine G.pu (W.t rfl rfl) (U.load (.tmp rfl) rfl rfl (U.whole rfl rfl)) ?_
                obtain ⟨q10,Hq10,h⟩:=Option.bind_eq_some_iff.1 h
                refine G.pu (W.t rfl rfl) (U.call (ss:=[]) (.cons (.tmp (v:=.agg _) rfl) .nil) (.cons (.cl (.aggL (.cons .fi (.cons .bool .nil)))) .nil) (whole_Int_Print.cs Hq10) (.inl rfl) (.str)) ?_
                refine G.pu (W.t rfl rfl) (Pu.bin (.tmp rfl) .str .seql) ?_
                refine O.pu (Pu.pickT (.tmp rfl) (.tmp (v:=.bool _) rfl)) ?_
                refine O.pu (Pu.move (.tmp (v:=.bool _) rfl)) ?_
                refine O.splitS (l:=[45,50,53,48]) (by kernel_rfl) (fun c=>?_) (fun c=>?_)
                · rw [if_pos c] at h
                  refine G.pu (W.t rfl rfl) (Pu.move (.tmp (v:=.int _ _) rfl)) ?_
                  refine G.pu (W.t rfl rfl) (Pu.bin (.tmp rfl) .int .eql) ?_
                  refine O.pu (Pu.pickT (.tmp rfl) (.tmp (v:=.bool _) rfl)) ?_
                  refine O.pu (Pu.assign (.tmp (v:=.bool _) rfl)) ?_
                  refine O.nil ?_
                  refine X.ret ?_
                  cases h
                  exact E.fin [] (.tmp (v:=.bool _) rfl .nil) (.cons (.cl .bool) .nil)
                · rw [if_neg c] at h
                  refine G.skip (W.f rfl rfl rfl) ?_
                  refine G.skip (W.f rfl rfl rfl) ?_
                  refine O.pu (Pu.pickF (.tmp rfl) .bool) ?_
                  refine O.pu (Pu.assign (.tmp (v:=.bool _) rfl)) ?_
                  refine O.nil ?_
                  refine X.ret ?_
                  cases h
                  exact E.fin [] (.tmp (v:=.bool _) rfl .nil) (.cons (.cl .bool) .nil)
              · rw [if_neg c] at h
                refine G.skip (W.f rfl rfl rfl) ?_
                refine G.skip (W.f rfl rfl rfl) ?_
                refine G.skip (W.f rfl rfl rfl) ?_
                refine O.pu (Pu.pickF (.tmp rfl) .bool) ?_
                refine O.pu (Pu.move (.tmp (v:=.bool _) rfl)) ?_
                refine G.skip (W.f rfl rfl rfl) ?_
                refine G.skip (W.f rfl rfl rfl) ?_
                refine O.pu (Pu.pickF (.tmp rfl) .bool) ?_
                refine O.pu (Pu.assign (.tmp (v:=.bool _) rfl)) ?_
                refine O.nil ?_
                refine X.ret ?_
                cases h
                exact E.fin [] (.tmp (v:=.bool _) rfl .nil) (.cons (.cl .bool) .nil)
            · rw [if_neg (bf c)] at h
              refine G.skip (W.f rfl rfl rfl) ?_
              refine G.skip (W.f rfl rfl rfl) ?_
              refine O.pu (Pu.pickF (.tmp rfl) .bool) ?_
              refine O.pu (Pu.move (.tmp (v:=.bool _) rfl)) ?_
              refine G.skip (W.f rfl rfl rfl) ?_
              refine G.skip (W.f rfl rfl rfl) ?_
              refine G.skip (W.f rfl rfl rfl) ?_
              refine O.pu (Pu.pickF (.tmp rfl) .bool) ?_
              refine O.pu (Pu.move (.tmp (v:=.bool _) rfl)) ?_
              refine G.skip (W.f rfl rfl rfl) ?_
              refine G.skip (W.f rfl rfl rfl) ?_
              refine O.pu (Pu.pickF (.tmp rfl) .bool) ?_
              refine O.pu (Pu.assign (.tmp (v:=.bool _) rfl)) ?_
              refine O.nil ?_
              refine X.ret ?_
              cases h
              exact E.fin [] (.tmp (v:=.bool _) rfl .nil) (.cons (.cl .bool) .nil)
          · rw [if_neg c] at h
            refine G.skip (W.f rfl rfl rfl) ?_
            refine O.pu (Pu.pickF (.tmp rfl) .bool) ?_
            refine O.pu (Pu.move (.tmp (v:=.bool _) rfl)) ?_
            refine G.skip (W.f rfl rfl rfl) ?_
            refine G.skip (W.f rfl rfl rfl) ?_
            refine O.pu (Pu.pickF (.tmp rfl) .bool) ?_
            refine O.pu (Pu.move (.tmp (v:=.bool _) rfl)) ?_
            refine G.skip (W.f rfl rfl rfl) ?_
            refine G.skip (W.f rfl rfl rfl) ?_
            refine G.skip (W.f rfl rfl rfl) ?_
            refine O.pu (Pu.pickF (.tmp rfl) .bool) ?_
            refine O.pu (Pu.move (.tmp (v:=.bool _) rfl)) ?_
            refine G.skip (W.f rfl rfl rfl) ?_
            refine G.skip (W.f rfl rfl rfl) ?_
            refine O.pu (Pu.pickF (.tmp rfl) .bool) ?_
            refine O.pu (Pu.assign (.tmp (v:=.bool _) rfl)) ?_
            refine O.nil ?_
            refine X.ret ?_
            cases h
            exact E.fin [] (.tmp (v:=.bool _) rfl .nil) (.cons (.cl .bool) .nil)
        · rw [if_neg c] at h
          refine G.skip (W.f rfl rfl rfl) ?_
          refine G.skip (W.f rfl rfl rfl) ?_
          refine O.pu (Pu.pickF (.tmp rfl) .bool) ?_
          refine O.pu (Pu.move (.tmp (v:=.bool _) rfl)) ?_
          refine G.skip (W.f rfl rfl rfl) ?_
          refine O.pu (Pu.pickF (.tmp rfl) .bool) ?_
          refine O.pu (Pu.move (.tmp (v:=.bool _) rfl)) ?_
          refine G.skip (W.f rfl rfl rfl) ?_
          refine G.skip (W.f rfl rfl rfl) ?_
          refine O.pu (Pu.pickF (.tmp rfl) .bool) ?_
          refine O.pu (Pu.move (.tmp (v:=.bool _) rfl)) ?_
          refine G.skip (W.f rfl rfl rfl) ?_
          refine G.skip (W.f rfl rfl rfl) ?_
          refine G.skip (W.f rfl rfl rfl) ?_
          refine O.pu (Pu.pickF (.tmp rfl) .bool) ?_
          refine O.pu (Pu.move (.tmp (v:=.bool _) rfl)) ?_
          refine G.skip (W.f rfl rfl rfl) ?_
          refine G.skip (W.f rfl rfl rfl) ?_
          refine O.pu (Pu.pickF (.tmp rfl) .bool) ?_
          refine O.pu (Pu.assign (.tmp (v:=.bool _) rfl)) ?_
          refine O.nil ?_
          refine X.ret ?_
          cases h
          exact E.fin [] (.tmp (v:=.bool _) rfl .nil) (.cons (.cl .bool) .nil)
      · rw [if_neg c] at h
        refine G.skip (W.f rfl rfl rfl) ?_
        refine G.skip (W.f rfl rfl rfl) ?_
        refine O.pu (Pu.pickF (.tmp rfl) .bool) ?_
        refine O.pu (Pu.move (.tmp (v:=.bool _) rfl)) ?_
        refine G.skip (W.f rfl rfl rfl) ?_
        refine G.skip (W.f rfl rfl rfl) ?_
        refine O.pu (Pu.pickF (.tmp rfl) .bool) ?_
        refine O.pu (Pu.move (.tmp (v:=.bool _) rfl)) ?_
        refine G.skip (W.f rfl rfl rfl) ?_
        refine O.pu (Pu.pickF (.tmp rfl) .bool) ?_
        refine O.pu (Pu.move (.tmp (v:=.bool _) rfl)) ?_
        refine G.skip (W.f rfl rfl rfl) ?_
        refine G.skip (W.f rfl rfl rfl) ?_
        refine O.pu (Pu.pickF (.tmp rfl) .bool) ?_
        refine O.pu (Pu.move (.tmp (v:=.bool _) rfl)) ?_
        refine G.skip (W.f rfl rfl rfl) ?_
        refine G.skip (W.f rfl rfl rfl) ?_
        refine G.skip (W.f rfl rfl rfl) ?_
        refine O.pu (Pu.pickF (.tmp rfl) .bool) ?_
        refine O.pu (Pu.move (.tmp (v:=.bool _) rfl)) ?_
        refine G.skip (W.f rfl rfl rfl) ?_
        refine G.skip (W.f rfl rfl rfl) ?_
        refine O.pu (Pu.pickF (.tmp rfl) .bool) ?_
        refine O.pu (Pu.assign (.tmp (v:=.bool _) rfl)) ?_
        refine O.nil ?_
        refine X.ret ?_
        cases h
        exact E.fin [] (.tmp (v:=.bool _) rfl .nil) (.cons (.cl .bool) .nil)
theorem chattellaw06_RoundTells.j1_e {k y0 y1 y2 y3 y4 y5 y6 y7 y8 y9 y10 y11 y12 y13 y14 y15 y16 y17 r}:(chattellaw06_RoundTells.j1 k y0 y1 y2 y3 y4 y5 y6 y7 y8 y9 y10 y11 y12 y13 y14 y15 y16 y17=some r) = ∃ j,k=j + 1∧chattellaw06_RoundTells.j1 (j + 1) y0 y1 y2 y3 y4 y5 y6 y7 y8 y9 y10 y11 y12 y13 y14 y15 y16 y17=some r:=propext ⟨fun h=>by cases k with|zero=>(unfold chattellaw06_RoundTells.j1 at h;cases h)|succ k=>exact ⟨k,rfl,h⟩,fun ⟨j,hj,h⟩=>by subst hj;exact h⟩
theorem chattellaw06_RoundTells.j2_e {k y0 y1 y2 y3 y4 y5 y6 y7 y8 y9 y10 y11 y12 y13 y14 r}:(chattellaw06_RoundTells.j2 k y0 y1 y2 y3 y4 y5 y6 y7 y8 y9 y10 y11 y12 y13 y14=some r) = ∃ j,k=j + 1∧chattellaw06_RoundTells.j2 (j + 1) y0 y1 y2 y3 y4 y5 y6 y7 y8 y9 y10 y11 y12 y13 y14=some r:=propext ⟨fun h=>by cases k with|zero=>(unfold chattellaw06_RoundTells.j2 at h;cases h)|succ k=>exact ⟨k,rfl,h⟩,fun ⟨j,hj,h⟩=>by subst hj;exact h⟩
theorem chattellaw06_RoundTells.j3_e {k y0 y1 y2 y3 y4 y5 y6 y7 y8 y9 y10 y11 y12 y13 y14 r}:(chattellaw06_RoundTells.j3 k y0 y1 y2 y3 y4 y5 y6 y7 y8 y9 y10 y11 y12 y13 y14=some r) = ∃ j,k=j + 1∧chattellaw06_RoundTells.j3 (j + 1) y0 y1 y2 y3 y4 y5 y6 y7 y8 y9 y10 y11 y12 y13 y14=some r:=propext ⟨fun h=>by cases k with|zero=>(unfold chattellaw06_RoundTells.j3 at h;cases h)|succ k=>exact ⟨k,rfl,h⟩,fun ⟨j,hj,h⟩=>by subst hj;exact h⟩
noncomputable def c8:Code:=Try.f8.body.getD .skip
theorem fn8:FnOk Try.prog 8 Try.f8 c8:=⟨Try.func8,rfl,by kernel_rfl,by kernel_rfl,mixed⟩
theorem chattellaw06_RoundTells.cs {k:Nat} {l0_0:List Int} {l0_1:List Int} {a0_2:Bool} {a1:Int} {a2:Int} {r:Bool} (h:chattellaw06_RoundTells.f k l0_0 l0_1 a0_2 a1 a2=some r):CS Try.prog 8 [.agg [.fi .u64 l0_0, .fi .u64 l0_1, .bool a0_2], .int .i64 a1, .int .i64 a2] .no [.bool r]:=by
  unfold chattellaw06_RoundTells.f at h
  refine E.pure fn8 rfl ?_
  refine X.seq ?_
  refine X.still ?_
  refine O.puE (v':=.op 3 (1) 0 0) (b':=⟨1, .own,_,_⟩) (Pu.box (.tmp (v:=.agg _) rfl) rfl rfl) rfl rfl ?_
  refine O.pu (Pu.assign .bool) ?_
  refine O.nil ?_
  refine X.seq ?_
  refine X.still ?_
  refine O.pu (U.load (.tmp rfl) rfl rfl (U.whole rfl rfl)) ?_
  obtain ⟨q1,Hq1,h⟩:=Option.bind_eq_some_iff.1 h
  refine O.pu (U.call (ss:=[]) (.cons (.tmp (v:=.agg _) rfl) .nil) (.cons (.cl (.aggL (.cons .fi (.cons .fi (.cons .bool .nil))))) .nil) (chattellaw06_num.cs Hq1) (.inl rfl) (.tupL (.cons (.aggL (.cons .fi (.cons .bool (.cons .fi .nil)))) (.cons (.aggL (.cons .fi (.cons .bool (.cons .fi .nil)))) .nil)))) ?_
  refine O.pu (Pu.move (.tmp (v:=.tup _) rfl)) ?_
  refine O.pu (Pu.extract (.tmp rfl) rfl) ?_
  refine O.pu (Pu.extract (.tmp rfl) rfl) ?_
  refine O.puE (v':=.op 7 (1) 0 0) (b':=⟨1, .own,(.vals [.agg [.fi .u64 [], .bool false, .fi .u64 []]]),_⟩) Pu.alloc rfl rfl ?_
  refine O.puE (v':=.op 8 (1) 0 0) (b':=⟨1, .own,(.vals [.agg [.fi .i64 [], .bool false, .fi .i64 []]]),_⟩) Pu.alloc rfl rfl ?_
  refine O.ef0 (U.storeE (.tmp rfl) rfl rfl (.tmp (v:=.agg _) rfl) rfl rfl (.whole (notBad_ne rfl) rfl) .one) ?_
  refine O.ef0 (U.storeE (.tmp rfl) rfl rfl (.tmp (v:=.agg _) rfl) rfl rfl (.whole (notBad_ne rfl) rfl) .one) ?_
  refine O.nil ?_
  refine X.seq ?_
  refine X.seq ?_
  refine X.still ?_
  refine O.pu (Pu.move (.tmp (v:=.int _ _) rfl)) ?_
  refine O.pu (Pu.move (.tmp (v:=.int _ _) rfl)) ?_
  refine O.pu (U.mx .int (.tmp rfl)) ?_
  refine O.pu (Pu.bin (.tmp rfl) .int (U.remE (mx_pos _) (by omega))) ?_
  refine O.puE (v':=.os 24 (1) 0 _ true) (b':=⟨1, .own,_,_⟩) (U.litI rfl rfl (.cons (.tmp (v:=.int _ _) rfl) (.cons (.tmp (v:=.int _ _) rfl) .nil)) rfl rfl) rfl rfl ?_
  refine O.pu (Pu.lenO rfl (.tmp rfl)) ?_
  refine O.pu (Pu.move .int) ?_
  refine O.nil ?_
  refine X.block ?_
  repeat rw [bdff] at h
  refine X.inv (fun k s=>∃ x2 x24 x25 x26 x2220000 x2220001 x2220002 x2221000 x2221001 x2221002 n24 u24 u3 u7 u8 z3_0 z3_1 z3_2,s.t 2 = .int .i64 x2∧s.b 24=⟨u24, .own, .ints .i64 x24,3⟩∧s.t 24 = .os 24 u24 0 n24 true∧x24.length=n24∧s.t 25 = .int .i64 x25∧s.t 26 = .int .i64 x26∧s.t 3 = .op 3 u3 0 0∧s.b 3=⟨u3, .own, .vals [.agg [.fi .u64 z3_0, .fi .u64 z3_1, .bool z3_2]],70⟩∧s.t 7 = .op 7 u7 0 0∧s.b 7=⟨u7, .own, .vals [.agg [.fi .u64 x2220000, .bool x2220001, .fi .u64 x2220002]],30⟩∧s.t 8 = .op 8 u8 0 0∧s.b 8=⟨u8, .own, .vals [.agg [.fi .i64 x2221000, .bool x2221001, .fi .i64 x2221002]],35⟩∧chattellaw06_RoundTells.l0 k x2 x24 x25 x26 x2220000 x2220001 x2220002 x2221000 x2221001 x2221002=some r) ?_ ?_ ⟨_,_,_,_,_,_,_,_,_,_,_,_,_,_,_,_,_,_,rfl,rfl,rfl,rfl,rfl,rfl,rfl,rfl,rfl,rfl,rfl,rfl,h⟩
  · rintro s ⟨_,_,_,_,_,_,_,_,_,_,_,_,_,_,_,_,_,_,_,_,_,_,_,_,_,_,_,_,_,_,h⟩;unfold chattellaw06_RoundTells.l0 at h;cases h
  · rintro k1 s1 ⟨x2,x24,x25,x26,x2220000,x2220001,x2220002,x2221000,x2221001,x2221002,n24,u24,u3,u7,u8,z3_0,z3_1,z3_2,e0,e1,e2,rfl,e4,e5,e6,e7,e8,e9,e10,e11,h⟩
    unfold chattellaw06_RoundTells.l0 at h
    rw [St.fixT e0,St.fixB e1,St.fixT e2,St.fixT e4,St.fixT e5,St.fixT e6,St.fixB e7,St.fixT e8,St.fixB e9,St.fixT e10,St.fixB e11]
    refine X.seq ?_
    refine X.still ?_
    refine O.pu (Pu.bin (.tmp rfl) (.tmp rfl) .lss) ?_
    refine O.nil ?_
    refine X.seq ?_
    refine X.condP (.tmp rfl) (fun c=>?_) (fun c=>?_)
    · rw [if_pos c] at h
      refine X.skip ?_
      refine X.seq ?_
      refine X.block ?_
      refine X.seq ?_
      refine X.still ?_
      repeat (rw [giff] at h;obtain ⟨_,h⟩:=h)
      refine O.pu (U.indexO0 rfl (.tmp rfl) rfl rfl (.tmp rfl) (by first|omega|(simp only [List.length_set] at *;omega)) (by first|omega|(simp only [List.length_set] at *;omega)) rfl rfl) ?_
      refine O.pu (U.rdO (.tmp rfl) rfl rfl rfl rfl rfl) ?_
      refine O.pu (Pu.assign (.tmp (v:=.int _ _) rfl)) ?_
      refine O.nil ?_
      refine X.seq ?_
      refine X.still ?_
      refine O.pu (U.load (.tmp rfl) rfl rfl (U.whole rfl rfl)) ?_
      refine O.pu (Pu.move (.tmp (v:=.int _ _) rfl)) ?_
      obtain ⟨q2,Hq2,h⟩:=Option.bind_eq_some_iff.1 h
      refine O.pu (U.call (ss:=[]) (.cons (.tmp (v:=.agg _) rfl) (.cons (.tmp (v:=.int _ _) rfl) .nil)) (.cons (.cl (.aggL (.cons .fi (.cons .bool (.cons .fi .nil))))) (.cons (.cl .int) .nil)) (round_Whole.cs Hq2) (.inl rfl) (.tupL (.cons (.aggL (.cons .fi (.cons .bool .nil))) (.cons .int .nil)))) ?_
      refine O.pu (Pu.move (.tmp (v:=.tup _) rfl)) ?_
      refine O.pu (Pu.extract (.tmp rfl) rfl) ?_
      refine O.pu (Pu.extract (.tmp rfl) rfl) ?_
      refine O.puE (v':=.op 11 ((s1.b 11).ver + 1) 0 0) (b':=⟨(s1.b 11).ver + 1, .own,(.vals [.agg [.fi .u64 [], .bool false]]),_⟩) Pu.alloc rfl rfl ?_
      refine O.ef0 (U.storeE (.tmp rfl) rfl rfl (.tmp (v:=.agg _) rfl) rfl rfl (.whole (notBad_ne rfl) rfl) .one) ?_
      refine O.pu (Pu.assign (.tmp (v:=.int _ _) rfl)) ?_
      refine O.nil ?_
      refine X.seq ?_
      refine X.still ?_
      refine O.pu (U.load (.tmp rfl) rfl rfl (U.whole rfl rfl)) ?_
      refine O.pu (Pu.move (.tmp (v:=.int _ _) rfl)) ?_
      refine O.pu (Pu.move (.tmp (v:=.int _ _) rfl)) ?_
      obtain ⟨q3,Hq3,h⟩:=Option.bind_eq_some_iff.1 h
      refine O.pu (U.call (ss:=[]) (.cons (.tmp (v:=.agg _) rfl) (.cons (.tmp (v:=.int _ _) rfl) (.cons (.tmp (v:=.int _ _) rfl) .nil))) (.cons (.cl (.aggL (.cons .fi (.cons .bool (.cons .fi .nil))))) (.cons (.cl .int) (.cons (.cl .int) .nil))) (round_Scaled.cs Hq3) (.inl rfl) (.tupL (.cons (.aggL (.cons .fi (.cons .bool .nil))) (.cons .int .nil)))) ?_
      refine O.pu (Pu.move (.tmp (v:=.tup _) rfl)) ?_
      refine O.pu (Pu.extract (.tmp rfl) rfl) ?_
      refine O.pu (Pu.extract (.tmp rfl) rfl) ?_
      refine O.puE (v':=.op 13 ((s1.b 13).ver + 1) 0 0) (b':=⟨(s1.b 13).ver + 1, .own,(.vals [.agg [.fi .u64 [], .bool false]]),_⟩) Pu.alloc rfl rfl ?_
      refine O.ef0 (U.storeE (.tmp rfl) rfl rfl (.tmp (v:=.agg _) rfl) rfl rfl (.whole (notBad_ne rfl) rfl) .one) ?_
      refine O.pu (Pu.assign (.tmp (v:=.int _ _) rfl)) ?_
      refine O.nil ?_
      refine X.seq ?_
      refine X.seq ?_
      refine X.still ?_
      refine O.pu (Pu.move (.tmp (v:=.int _ _) rfl)) ?_
      refine O.pu (Pu.bin (.tmp rfl) .int .lss) ?_
      refine O.pu (Pu.move (.tmp (v:=.bool _) rfl)) ?_
      refine O.splitP (fun c=>?_) (fun c=>?_)
      · rw [if_pos c] at h
        refine G.skip (W.f rfl rfl rfl) ?_
        refine G.skip (W.f rfl rfl rfl) ?_
        refine O.pu (Pu.pickT (.tmp rfl) .bool) ?_
        refine O.nil ?_
        repeat (rw [chattellaw06_RoundTells.j1_e] at h;obtain ⟨k,_,h⟩:=h;unfold chattellaw06_RoundTells.j1 at h;try dsimp only at h)
        rw [if_pos rfl] at h
        refine X.condT (.tmp rfl) ?_
        refine X.seq ?_
        refine X.seq ?_
        refine X.still ?_
        refine O.pu (Pu.move (.tmp (v:=.int _ _) rfl)) ?_
        refine O.pu (Pu.bin (.tmp rfl) .int .neq) ?_
        refine O.pu (Pu.move (.tmp (v:=.bool _) rfl)) ?_
        refine O.splitN (fun c=>?_) (fun c=>?_)
        · rw [if_neg c] at h
          refine G.skip (W.f rfl rfl rfl) ?_
          refine G.skip (W.f rfl rfl rfl) ?_
          refine O.pu (Pu.pickT (.tmp rfl) .bool) ?_
          refine O.pu (Pu.move (.tmp (v:=.bool _) rfl)) ?_
          refine G.skip (W.f rfl rfl rfl) ?_
          refine G.skip (W.f rfl rfl rfl) ?_
          refine G.skip (W.f rfl rfl rfl) ?_
          refine O.pu (Pu.pickT (.tmp rfl) .bool) ?_
          refine O.pu (Pu.move (.tmp (v:=.bool _) rfl)) ?_
          refine G.skip (W.f rfl rfl rfl) ?_
          refine G.skip (W.f rfl rfl rfl) ?_
          refine G.skip (W.f rfl rfl rfl) ?_
          refine O.pu (Pu.pickT (.tmp rfl) .bool) ?_
          refine O.nil ?_
          refine X.condT (.tmp rfl) ?_
          refine X.seq ?_
          refine X.still ?_
          refine O.pu (Pu.assign .bool) ?_
          refine O.nil ?_
          refine X.ret ?_
          cases h
          exact E.fin [] (.tmp (v:=.bool _) rfl .nil) (.cons (.cl .bool) .nil)
        · rw [if_pos c] at h
          refine G.pu (W.t rfl rfl) (Pu.move (.tmp (v:=.int _ _) rfl)) ?_
          refine G.pu (W.t rfl rfl) (Pu.bin (.tmp rfl) .int .neq) ?_
          refine O.pu (Pu.pickF (.tmp rfl) (.tmp (v:=.bool _) rfl)) ?_
          refine O.pu (Pu.move (.tmp (v:=.bool _) rfl)) ?_
          refine O.splitN (fun c=>?_) (fun c=>?_)
          · rw [if_neg c] at h
            refine G.skip (W.f rfl rfl rfl) ?_
            refine G.skip (W.f rfl rfl rfl) ?_
            refine G.skip (W.f rfl rfl rfl) ?_
            refine O.pu (Pu.pickT (.tmp rfl) .bool) ?_
            refine O.pu (Pu.move (.tmp (v:=.bool _) rfl)) ?_
            refine G.skip (W.f rfl rfl rfl) ?_
            refine G.skip (W.f rfl rfl rfl) ?_
            refine G.skip (W.f rfl rfl rfl) ?_
            refine O.pu (Pu.pickT (.tmp rfl) .bool) ?_
            refine O.nil ?_
            refine X.condT (.tmp rfl) ?_
            refine X.seq ?_
            refine X.still ?_
            refine O.pu (Pu.assign .bool) ?_
            refine O.nil ?_
            refine X.ret ?_
            cases h
            exact E.fin [] (.tmp (v:=.bool _) rfl .nil) (.cons (.cl .bool) .nil)
          · rw [if_pos c] at h
            refine G.pu (W.t rfl rfl) (U.load (.tmp rfl) rfl rfl (U.whole rfl rfl)) ?_
            obtain ⟨q4,Hq4,h⟩:=Option.bind_eq_some_iff.1 h
            refine G.pu (W.t rfl rfl) (U.call (ss:=[]) (.cons (.tmp (v:=.agg _) rfl) .nil) (.cons (.cl (.aggL (.cons .fi (.cons .bool .nil)))) .nil) (whole_Int_Sign.cs Hq4) (.inl rfl) (.int)) ?_
            refine G.pu (W.t rfl rfl) (Pu.bin (.tmp rfl) .int .neq) ?_
            refine O.pu (Pu.pickF (.tmp rfl) (.tmp (v:=.bool _) rfl)) ?_
            refine O.pu (Pu.move (.tmp (v:=.bool _) rfl)) ?_
            refine O.splitN (fun c=>?_) (fun c=>?_)
            · rw [if_neg c] at h
              refine G.skip (W.f rfl rfl rfl) ?_
              refine G.skip (W.f rfl rfl rfl) ?_
              refine G.skip (W.f rfl rfl rfl) ?_
              refine O.pu (Pu.pickT (.tmp rfl) .bool) ?_
              refine O.nil ?_
              refine X.condT (.tmp rfl) ?_
              refine X.seq ?_
              refine X.still ?_
              refine O.pu (Pu.assign .bool) ?_
              refine O.nil ?_
              refine X.ret ?_
              cases h
              exact E.fin [] (.tmp (v:=.bool _) rfl .nil) (.cons (.cl .bool) .nil)
            · rw [if_pos c] at h
              refine G.pu (W.t rfl rfl) (U.load (.tmp rfl) rfl rfl (U.whole rfl rfl)) ?_
              obtain ⟨q5,Hq5,h⟩:=Option.bind_eq_some_iff.1 h
              refine G.pu (W.t rfl rfl) (U.call (ss:=[]) (.cons (.tmp (v:=.agg _) rfl) .nil) (.cons (.cl (.aggL (.cons .fi (.cons .bool .nil)))) .nil) (whole_Int_Sign.cs Hq5) (.inl rfl) (.int)) ?_
              refine G.pu (W.t rfl rfl) (Pu.bin (.tmp rfl) .int .neq) ?_
              refine O.pu (Pu.pickF (.tmp rfl) (.tmp (v:=.bool _) rfl)) ?_
              refine O.nil ?_
              refine X.condN (.tmp rfl) (fun c=>?_) (fun c=>?_)
              · rw [if_neg c] at h
                refine X.seq ?_
                refine X.still ?_
                refine O.pu (Pu.assign .bool) ?_
                refine O.nil ?_
                refine X.ret ?_
                cases h
                exact E.fin [] (.tmp (v:=.bool _) rfl .nil) (.cons (.cl .bool) .nil)
              · rw [if_pos c] at h
                refine X.skip ?_
                refine X.exit (B.out ?_)
                refine X.still ?_
                refine O.pu (Pu.bin (.tmp rfl) .int U.add64) ?_
                refine O.pu (Pu.move (.tmp (v:=.int _ _) rfl)) ?_
                refine O.nil ?_
                exact ⟨_,(by omega),_,_,_,_,_,_,_,_,_,_,_,_,_,_,_,_,_,_,rfl,rfl,rfl,(by first|rfl|(simp only [List.length_set];done)|(simp only [List.length_drop,List.length_take,List.length_append,List.length_set] at *;omega)),rfl,rfl,rfl,rfl,rfl,rfl,rfl,rfl,h⟩
      · rw [if_neg c] at h
        refine G.pu (W.t rfl rfl) (Pu.move (.tmp (v:=.int _ _) rfl)) ?_
        refine G.pu (W.t rfl rfl) (Pu.bin (.tmp rfl) .int .gtr) ?_
        refine O.pu (Pu.pickF (.tmp rfl) (.tmp (v:=.bool _) rfl)) ?_
        refine O.nil ?_
        repeat (rw [chattellaw06_RoundTells.j1_e] at h;obtain ⟨k,_,h⟩:=h;unfold chattellaw06_RoundTells.j1 at h;try dsimp only at h)
        refine X.condP (.tmp rfl) (fun c=>?_) (fun c=>?_)
        · rw [if_pos (decide_eq_true c)] at h
          refine X.seq ?_
          refine X.seq ?_
          refine X.still ?_
          refine O.pu (Pu.move (.tmp (v:=.int _ _) rfl)) ?_
          refine O.pu (Pu.bin (.tmp rfl) .int .neq) ?_
          refine O.pu (Pu.move (.tmp (v:=.bool _) rfl)) ?_
          refine O.splitN (fun c=>?_) (fun c=>?_)
          · rw [if_neg c] at h
            refine G.skip (W.f rfl rfl rfl) ?_
            refine G.skip (W.f rfl rfl rfl) ?_
            refine O.pu (Pu.pickT (.tmp rfl) .bool) ?_
            refine O.pu (Pu.move (.tmp (v:=.bool _) rfl)) ?_
            refine G.skip (W.f rfl rfl rfl) ?_
            refine G.skip (W.f rfl rfl rfl) ?_
            refine G.skip (W.f rfl rfl rfl) ?_
            refine O.pu (Pu.pickT (.tmp rfl) .bool) ?_
            refine O.pu (Pu.move (.tmp (v:=.bool _) rfl)) ?_
            refine G.skip (W.f rfl rfl rfl) ?_
            refine G.skip (W.f rfl rfl rfl) ?_
            refine G.skip (W.f rfl rfl rfl) ?_
            refine O.pu (Pu.pickT (.tmp rfl) .bool) ?_
            refine O.nil ?_
            refine X.condT (.tmp rfl) ?_
            refine X.seq ?_
            refine X.still ?_
            refine O.pu (Pu.assign .bool) ?_
            refine O.nil ?_
            refine X.ret ?_
            cases h
            exact E.fin [] (.tmp (v:=.bool _) rfl .nil) (.cons (.cl .bool) .nil)
          · rw [if_pos c] at h
            refine G.pu (W.t rfl rfl) (Pu.move (.tmp (v:=.int _ _) rfl)) ?_
            refine G.pu (W.t rfl rfl) (Pu.bin (.tmp rfl) .int .neq) ?_
            refine O.pu (Pu.pickF (.tmp rfl) (.tmp (v:=.bool _) rfl)) ?_
            refine O.pu (Pu.move (.tmp (v:=.bool _) rfl)) ?_
            refine O.splitN (fun c=>?_) (fun c=>?_)
            · rw [if_neg c] at h
              refine G.skip (W.f rfl rfl rfl) ?_
              refine G.skip (W.f rfl rfl rfl) ?_
              refine G.skip (W.f rfl rfl rfl) ?_
              refine O.pu (Pu.pickT (.tmp rfl) .bool) ?_
              refine O.pu (Pu.move (.tmp (v:=.bool _) rfl)) ?_
              refine G.skip (W.f rfl rfl rfl) ?_
              refine G.skip (W.f rfl rfl rfl) ?_
              refine G.skip (W.f rfl rfl rfl) ?_
              refine O.pu (Pu.pickT (.tmp rfl) .bool) ?_
              refine O.nil ?_
              refine X.condT (.tmp rfl) ?_
              refine X.seq ?_
              refine X.still ?_
              refine O.pu (Pu.assign .bool) ?_
              refine O.nil ?_
              refine X.ret ?_
              cases h
              exact E.fin [] (.tmp (v:=.bool _) rfl .nil) (.cons (.cl .bool) .nil)
            · rw [if_pos c] at h
              refine G.pu (W.t rfl rfl) (U.load (.tmp rfl) rfl rfl (U.whole rfl rfl)) ?_
              obtain ⟨q6,Hq6,h⟩:=Option.bind_eq_some_iff.1 h
              refine G.pu (W.t rfl rfl) (U.call (ss:=[]) (.cons (.tmp (v:=.agg _) rfl) .nil) (.cons (.cl (.aggL (.cons .fi (.cons .bool .nil)))) .nil) (whole_Int_Sign.cs Hq6) (.inl rfl) (.int)) ?_
              refine G.pu (W.t rfl rfl) (Pu.bin (.tmp rfl) .int .neq) ?_
              refine O.pu (Pu.pickF (.tmp rfl) (.tmp (v:=.bool _) rfl)) ?_
              refine O.pu (Pu.move (.tmp (v:=.bool _) rfl)) ?_
              refine O.splitN (fun c=>?_) (fun c=>?_)
              · rw [if_neg c] at h
                refine G.skip (W.f rfl rfl rfl) ?_
                refine G.skip (W.f rfl rfl rfl) ?_
                refine G.skip (W.f rfl rfl rfl) ?_
                refine O.pu (Pu.pickT (.tmp rfl) .bool) ?_
                refine O.nil ?_
                refine X.condT (.tmp rfl) ?_
                refine X.seq ?_
                refine X.still ?_
                refine O.pu (Pu.assign .bool) ?_
                refine O.nil ?_
                refine X.ret ?_
                cases h
                exact E.fin [] (.tmp (v:=.bool _) rfl .nil) (.cons (.cl .bool) .nil)
              · rw [if_pos c] at h
                refine G.pu (W.t rfl rfl) (U.load (.tmp rfl) rfl rfl (U.whole rfl rfl)) ?_
                obtain ⟨q7,Hq7,h⟩:=Option.bind_eq_some_iff.1 h
                refine G.pu (W.t rfl rfl) (U.call (ss:=[]) (.cons (.tmp (v:=.agg _) rfl) .nil) (.cons (.cl (.aggL (.cons .fi (.cons .bool .nil)))) .nil) (whole_Int_Sign.cs Hq7) (.inl rfl) (.int)) ?_
                refine G.pu (W.t rfl rfl) (Pu.bin (.tmp rfl) .int .neq) ?_
                refine O.pu (Pu.pickF (.tmp rfl) (.tmp (v:=.bool _) rfl)) ?_
                refine O.nil ?_
                refine X.condN (.tmp rfl) (fun c=>?_) (fun c=>?_)
                · rw [if_neg c] at h
                  refine X.seq ?_
                  refine X.still ?_
                  refine O.pu (Pu.assign .bool) ?_
                  refine O.nil ?_
                  refine X.ret ?_
                  cases h
                  exact E.fin [] (.tmp (v:=.bool _) rfl .nil) (.cons (.cl .bool) .nil)
                · rw [if_pos c] at h
                  refine X.skip ?_
                  refine X.exit (B.out ?_)
                  refine X.still ?_
                  refine O.pu (Pu.bin (.tmp rfl) .int U.add64) ?_
                  refine O.pu (Pu.move (.tmp (v:=.int _ _) rfl)) ?_
                  refine O.nil ?_
                  exact ⟨_,(by omega),_,_,_,_,_,_,_,_,_,_,_,_,_,_,_,_,_,_,rfl,rfl,rfl,(by first|rfl|(simp only [List.length_set];done)|(simp only [List.length_drop,List.length_take,List.length_append,List.length_set] at *;omega)),rfl,rfl,rfl,rfl,rfl,rfl,rfl,rfl,h⟩
        · rw [if_neg (nd c)] at h
          refine X.skip ?_
          refine X.seq ?_
          refine X.seq ?_
          refine X.drawn ?_
          refine D.pu (Pu.move (.tmp (v:=.int _ _) rfl)) ?_
          refine D.pu (Pu.bin (.tmp rfl) .int .neq) ?_
          refine D.pu (Pu.move (.tmp (v:=.bool _) rfl)) ?_
          refine D.splitN (fun c=>?_) (fun c=>?_)
          · rw [if_neg c] at h
            refine D.gskip (W.f rfl rfl rfl) ?_
            refine D.gskip (W.f rfl rfl rfl) ?_
            refine D.gskip (W.f rfl rfl rfl) ?_
            refine D.gskip (W.f rfl rfl rfl) ?_
            refine D.gskip (W.f rfl rfl rfl) ?_
            refine D.gskip (W.f rfl rfl rfl) ?_
            refine D.gskip (W.f rfl rfl rfl) ?_
            refine D.pu (Pu.pickT (.tmp rfl) .bool) ?_
            refine D.nil (by kernel_rfl) ?_
            repeat (rw [chattellaw06_RoundTells.j2_e] at h;obtain ⟨k,_,h⟩:=h;unfold chattellaw06_RoundTells.j2 at h;try dsimp only at h)
            rw [if_pos rfl] at h
            refine X.condT (.tmp rfl) ?_
            refine X.seq ?_
            refine X.still ?_
            refine O.pu (Pu.assign .bool) ?_
            refine O.nil ?_
            refine X.ret ?_
            cases h
            exact E.fin [] (.tmp (v:=.bool _) rfl .nil) (.cons (.cl .bool) .nil)
          · rw [if_pos c] at h
            refine D.gpu (W.t rfl rfl) (U.load (.tmp rfl) rfl rfl (U.whole rfl rfl)) ?_
            obtain ⟨q8,Hq8,h⟩:=Option.bind_eq_some_iff.1 h
            refine D.gpu (W.t rfl rfl) (U.call (ss:=[]) (.cons (.tmp (v:=.agg _) rfl) .nil) (.cons (.cl (.aggL (.cons .fi (.cons .bool .nil)))) .nil) (whole_Int_Print.cs Hq8) (.inl rfl) (.str)) ?_
            refine D.gpu (W.t rfl rfl) (U.load (.tmp rfl) rfl rfl (U.whole rfl rfl)) ?_
            refine D.gpu (W.t rfl rfl) (Pu.move (.tmp (v:=.int _ _) rfl)) ?_
            obtain ⟨q9,Hq9,h⟩:=Option.bind_eq_some_iff.1 h
            refine D.gpu (W.t rfl rfl) (U.call (ss:=[]) (.cons (.tmp (v:=.agg _) rfl) (.cons (.tmp (v:=.int _ _) rfl) .nil)) (.cons (.cl (.aggL (.cons .fi (.cons .bool (.cons .fi .nil))))) (.cons (.cl .int) .nil)) (chattelref06_Whole.cs Hq9) (.inl rfl) (.aggL (.cons .fi (.cons .bool .nil)))) ?_
            obtain ⟨q10,Hq10,h⟩:=Option.bind_eq_some_iff.1 h
            refine D.gpu (W.t rfl rfl) (U.call (ss:=[]) (.cons (.tmp (v:=.agg _) rfl) .nil) (.cons (.cl (.aggL (.cons .fi (.cons .bool .nil)))) .nil) (chattelref04_Print.cs Hq10) (.inl rfl) (.str)) ?_
            refine D.gpu (W.t rfl rfl) (Pu.bin (.tmp rfl) (.tmp rfl) .sneq) ?_
            refine D.pu (Pu.pickF (.tmp rfl) (.tmp (v:=.bool _) rfl)) ?_
            refine D.nil (by kernel_rfl) ?_
            repeat (rw [chattellaw06_RoundTells.j2_e] at h;obtain ⟨k,_,h⟩:=h;unfold chattellaw06_RoundTells.j2 at h;try dsimp only at h)
            refine X.condSN (.tmp rfl) rfl (fun c=>?_) (fun c=>?_)
            · rw [if_pos (ne1 c)] at h
              refine X.seq ?_
              refine X.still ?_
              refine O.pu (Pu.assign .bool) ?_
              refine O.nil ?_
              refine X.ret ?_
              cases h
              exact E.fin [] (.tmp (v:=.bool _) rfl .nil) (.cons (.cl .bool) .nil)
            · rw [if_neg (ne0 c)] at h
              refine X.skip ?_
              refine X.seq ?_
              refine X.still ?_
              refine O.pu (Pu.move (.tmp (v:=.int _ _) rfl)) ?_
              refine O.pu (Pu.bin (.tmp rfl) .int .lss) ?_
              refine O.pu (Pu.move (.tmp (v:=.bool _) rfl)) ?_
              refine O.splitP (fun c=>?_) (fun c=>?_)
              · rw [if_pos c] at h
                refine G.skip (W.f rfl rfl rfl) ?_
                refine G.skip (W.f rfl rfl rfl) ?_
                refine O.pu (Pu.pickT (.tmp rfl) .bool) ?_
                refine O.nil ?_
                repeat (rw [chattellaw06_RoundTells.j3_e] at h;obtain ⟨k,_,h⟩:=h;unfold chattellaw06_RoundTells.j3 at h;try dsimp only at h)
                rw [if_pos rfl] at h
                refine X.condT (.tmp rfl) ?_
                refine X.seq ?_
                refine X.still ?_
                refine O.pu (Pu.move (.tmp (v:=.int _ _) rfl)) ?_
                refine O.pu (Pu.bin (.tmp rfl) .int .neq) ?_
                refine O.pu (Pu.move (.tmp (v:=.bool _) rfl)) ?_
                refine O.splitN (fun c=>?_) (fun c=>?_)
                · rw [if_neg c] at h
                  refine G.skip (W.f rfl rfl rfl) ?_
                  refine G.skip (W.f rfl rfl rfl) ?_
                  refine G.skip (W.f rfl rfl rfl) ?_
                  refine O.pu (Pu.pickT (.tmp rfl) .bool) ?_
                  refine O.nil ?_
                  refine X.condT (.tmp rfl) ?_
                  refine X.seq ?_
                  refine X.still ?_
                  refine O.pu (Pu.assign .bool) ?_
                  refine O.nil ?_
                  refine X.ret ?_
                  cases h
                  exact E.fin [] (.tmp (v:=.bool _) rfl .nil) (.cons (.cl .bool) .nil)
                · rw [if_pos c] at h
                  refine G.pu (W.t rfl rfl) (U.load (.tmp rfl) rfl rfl (U.whole rfl rfl)) ?_
                  obtain ⟨q11,Hq11,h⟩:=Option.bind_eq_some_iff.1 h
                  refine G.pu (W.t rfl rfl) (U.call (ss:=[]) (.cons (.tmp (v:=.agg _) rfl) .nil) (.cons (.cl (.aggL (.cons .fi (.cons .bool .nil)))) .nil) (whole_Int_Sign.cs Hq11) (.inl rfl) (.int)) ?_
                  refine G.pu (W.t rfl rfl) (Pu.bin (.tmp rfl) .int .neq) ?_
                  refine O.pu (Pu.pickF (.tmp rfl) (.tmp (v:=.bool _) rfl)) ?_
                  refine O.nil ?_
                  refine X.condN (.tmp rfl) (fun c=>?_) (fun c=>?_)
                  · rw [if_neg c] at h
                    refine X.seq ?_
                    refine X.still ?_
                    refine O.pu (Pu.assign .bool) ?_
                    refine O.nil ?_
                    refine X.ret ?_
                    cases h
                    exact E.fin [] (.tmp (v:=.bool _) rfl .nil) (.cons (.cl .bool) .nil)
                  · rw [if_pos c] at h
                    refine X.skip ?_
                    refine X.still ?_
                    refine O.pu (Pu.bin (.tmp rfl) .int U.add64) ?_
                    refine O.pu (Pu.move (.tmp (v:=.int _ _) rfl)) ?_
                    refine O.nil ?_
                    exact ⟨_,(by omega),_,_,_,_,_,_,_,_,_,_,_,_,_,_,_,_,_,_,rfl,rfl,rfl,(by first|rfl|(simp only [List.length_set];done)|(simp only [List.length_drop,List.length_take,List.length_append,List.length_set] at *;omega)),rfl,rfl,rfl,rfl,rfl,rfl,rfl,rfl,h⟩
              · rw [if_neg c] at h
                refine G.pu (W.t rfl rfl) (Pu.move (.tmp (v:=.int _ _) rfl)) ?_
                refine G.pu (W.t rfl rfl) (Pu.bin (.tmp rfl) .int .gtr) ?_
                refine O.pu (Pu.pickF (.tmp rfl) (.tmp (v:=.bool _) rfl)) ?_
                refine O.nil ?_
                repeat (rw [chattellaw06_RoundTells.j3_e] at h;obtain ⟨k,_,h⟩:=h;unfold chattellaw06_RoundTells.j3 at h;try dsimp only at h)
                refine X.condP (.tmp rfl) (fun c=>?_) (fun c=>?_)
                · rw [if_pos (decide_eq_true c)] at h
                  refine X.seq ?_
                  refine X.still ?_
                  refine O.pu (Pu.move (.tmp (v:=.int _ _) rfl)) ?_
                  refine O.pu (Pu.bin (.tmp rfl) .int .neq) ?_
                  refine O.pu (Pu.move (.tmp (v:=.bool _) rfl)) ?_
                  refine O.splitN (fun c=>?_) (fun c=>?_)
                  · rw [if_neg c] at h
                    refine G.skip (W.f rfl rfl rfl) ?_
                    refine G.skip (W.f rfl rfl rfl) ?_
                    refine G.skip (W.f rfl rfl rfl) ?_
                    refine O.pu (Pu.pickT (.tmp rfl) .bool) ?_
                    refine O.nil ?_
                    refine X.condT (.tmp rfl) ?_
                    refine X.seq ?_
                    refine X.still ?_
                    refine O.pu (Pu.assign .bool) ?_
                    refine O.nil ?_
                    refine X.ret ?_
                    cases h
                    exact E.fin [] (.tmp (v:=.bool _) rfl .nil) (.cons (.cl .bool) .nil)
                  · rw [if_pos c] at h
                    refine G.pu (W.t rfl rfl) (U.load (.tmp rfl) rfl rfl (U.whole rfl rfl)) ?_
                    obtain ⟨q12,Hq12,h⟩:=Option.bind_eq_some_iff.1 h
                    refine G.pu (W.t rfl rfl) (U.call (ss:=[]) (.cons (.tmp (v:=.agg _) rfl) .nil) (.cons (.cl (.aggL (.cons .fi (.cons .bool .nil)))) .nil) (whole_Int_Sign.cs Hq12) (.inl rfl) (.int)) ?_
                    refine G.pu (W.t rfl rfl) (Pu.bin (.tmp rfl) .int .neq) ?_
                    refine O.pu (Pu.pickF (.tmp rfl) (.tmp (v:=.bool _) rfl)) ?_
                    refine O.nil ?_
                    refine X.condN (.tmp rfl) (fun c=>?_) (fun c=>?_)
                    · rw [if_neg c] at h
                      refine X.seq ?_
                      refine X.still ?_
                      refine O.pu (Pu.assign .bool) ?_
                      refine O.nil ?_
                      refine X.ret ?_
                      cases h
                      exact E.fin [] (.tmp (v:=.bool _) rfl .nil) (.cons (.cl .bool) .nil)
                    · rw [if_pos c] at h
                      refine X.skip ?_
                      refine X.still ?_
                      refine O.pu (Pu.bin (.tmp rfl) .int U.add64) ?_
                      refine O.pu (Pu.move (.tmp (v:=.int _ _) rfl)) ?_
                      refine O.nil ?_
                      exact ⟨_,(by omega),_,_,_,_,_,_,_,_,_,_,_,_,_,_,_,_,_,_,rfl,rfl,rfl,(by first|rfl|(simp only [List.length_set];done)|(simp only [List.length_drop,List.length_take,List.length_append,List.length_set] at *;omega)),rfl,rfl,rfl,rfl,rfl,rfl,rfl,rfl,h⟩
                · rw [if_neg (nd c)] at h
                  refine X.seq ?_
                  refine X.drawn ?_
                  refine D.pu (Pu.move (.tmp (v:=.int _ _) rfl)) ?_
                  refine D.pu (Pu.bin (.tmp rfl) .int .neq) ?_
                  refine D.pu (Pu.move (.tmp (v:=.bool _) rfl)) ?_
                  refine D.splitN (fun c=>?_) (fun c=>?_)
                  · rw [if_neg c] at h
                    refine D.gskip (W.f rfl rfl rfl) ?_
                    refine D.gskip (W.f rfl rfl rfl) ?_
                    refine D.gskip (W.f rfl rfl rfl) ?_
                    refine D.gskip (W.f rfl rfl rfl) ?_
                    refine D.gskip (W.f rfl rfl rfl) ?_
                    refine D.gskip (W.f rfl rfl rfl) ?_
                    refine D.gskip (W.f rfl rfl rfl) ?_
                    refine D.gskip (W.f rfl rfl rfl) ?_
                    refine D.pu (Pu.pickT (.tmp rfl) .bool) ?_
                    refine D.nil (by kernel_rfl) ?_
                    refine X.condT (.tmp rfl) ?_
                    refine X.seq ?_
                    refine X.still ?_
                    refine O.pu (Pu.assign .bool) ?_
                    refine O.nil ?_
                    refine X.ret ?_
                    cases h
                    exact E.fin [] (.tmp (v:=.bool _) rfl .nil) (.cons (.cl .bool) .nil)
                  · rw [if_pos c] at h
                    refine D.gpu (W.t rfl rfl) (U.load (.tmp rfl) rfl rfl (U.whole rfl rfl)) ?_
                    obtain ⟨q13,Hq13,h⟩:=Option.bind_eq_some_iff.1 h
                    refine D.gpu (W.t rfl rfl) (U.call (ss:=[]) (.cons (.tmp (v:=.agg _) rfl) .nil) (.cons (.cl (.aggL (.cons .fi (.cons .bool .nil)))) .nil) (whole_Int_Print.cs Hq13) (.inl rfl) (.str)) ?_
                    refine D.gpu (W.t rfl rfl) (U.load (.tmp rfl) rfl rfl (U.whole rfl rfl)) ?_
                    refine D.gpu (W.t rfl rfl) (Pu.move (.tmp (v:=.int _ _) rfl)) ?_
                    refine D.gpu (W.t rfl rfl) (Pu.move (.tmp (v:=.int _ _) rfl)) ?_
                    obtain ⟨q14,Hq14,h⟩:=Option.bind_eq_some_iff.1 h
                    refine D.gpu (W.t rfl rfl) (U.call (ss:=[]) (.cons (.tmp (v:=.agg _) rfl) (.cons (.tmp (v:=.int _ _) rfl) (.cons (.tmp (v:=.int _ _) rfl) .nil))) (.cons (.cl (.aggL (.cons .fi (.cons .bool (.cons .fi .nil))))) (.cons (.cl .int) (.cons (.cl .int) .nil))) (chattelref06_Scaled.cs Hq14) (.inl rfl) (.aggL (.cons .fi (.cons .bool .nil)))) ?_
                    obtain ⟨q15,Hq15,h⟩:=Option.bind_eq_some_iff.1 h
                    refine D.gpu (W.t rfl rfl) (U.call (ss:=[]) (.cons (.tmp (v:=.agg _) rfl) .nil) (.cons (.cl (.aggL (.cons .fi (.cons .bool .nil)))) .nil) (chattelref04_Print.cs Hq15) (.inl rfl) (.str)) ?_
                    refine D.gpu (W.t rfl rfl) (Pu.bin (.tmp rfl) (.tmp rfl) .sneq) ?_
                    refine D.pu (Pu.pickF (.tmp rfl) (.tmp (v:=.bool _) rfl)) ?_
                    refine D.nil (by kernel_rfl) ?_
                    refine X.condSN (.tmp rfl) rfl (fun c=>?_) (fun c=>?_)
                    · rw [if_neg c] at h
                      refine X.seq ?_
                      refine X.still ?_
                      refine O.pu (Pu.assign .bool) ?_
                      refine O.nil ?_
                      refine X.ret ?_
                      cases h
                      exact E.fin [] (.tmp (v:=.bool _) rfl .nil) (.cons (.cl .bool) .nil)
                    · rw [if_pos c] at h
                      refine X.skip ?_
                      refine X.still ?_
                      refine O.pu (Pu.bin (.tmp rfl) .int U.add64) ?_
                      refine O.pu (Pu.move (.tmp (v:=.int _ _) rfl)) ?_
                      refine O.nil ?_
                      exact ⟨_,(by omega),_,_,_,_,_,_,_,_,_,_,_,_,_,_,_,_,_,_,rfl,rfl,rfl,(by first|rfl|(simp only [List.length_set];done)|(simp only [List.length_drop,List.length_take,List.length_append,List.length_set] at *;omega)),rfl,rfl,rfl,rfl,rfl,rfl,rfl,rfl,h⟩
    · rw [if_neg c] at h
      refine X.exit (B.out ?_)
      refine X.seq ?_
      refine X.still ?_
      obtain ⟨q16,Hq16,h⟩:=Option.bind_eq_some_iff.1 h
      refine O.pu (U.call (ss:=[]) .nil .nil (chattellaw06_wakes.cs Hq16) (.inl rfl) (.bool)) ?_
      refine O.pu (Pu.assign (.tmp (v:=.bool _) rfl)) ?_
      refine O.nil ?_
      refine X.ret ?_
      cases h
      exact E.fin [] (.tmp (v:=.bool _) rfl .nil) (.cons (.cl .bool) .nil)
end Go.Proofs.Ytkoccekiojhidaa
end

section
namespace Go.AVL
open Go.RowKit Go.Proofs.YtkoccekiojhidaaW.PrintWords
set_option linter.unusedVariables false
section
variable {P : Program} {w : World} {m : Nat → Reg}
def allOf (w:World):Nat→Prop:=fun k=>k < w.heap.size
theorem vr_reads {k:IntKind} {a:Option Addr} {cap:Nat} {l:List Int} (h:ReadsInt w k a l.length l) (hc:l.length≤cap):VR (allOf w) w noB m (.fi k l) (.slice a l.length cap):=by
  refine .fi k l a cap hc fun i hi=>?_
  obtain ⟨ad,e,hr⟩:=h.2.2 (by omega)
  have h0:=hr 0 (by omega)
  have hi':=hr i hi
  have hs:ad.spot=none:=by
    unfold World.cell? Addr.add at h0
    rw [if_pos rfl] at h0
    cases hsp:ad.spot with
    | none=>rfl
    | some s =>
      rw [hsp] at h0
      split at h0 <;> simp at h0
  have ha:ad.add i=⟨ad.block,ad.off + i,none⟩:=by
    unfold Addr.add
    by_cases hz:i=0
    · subst hz
      rw [if_pos rfl]
      cases ad with
      | mk b o s=>simp only at hs;rw [hs];rfl
    · rw [if_neg hz]
  rw [ha] at hi'
  refine ⟨ad,e,hs,?_,hi'⟩
  unfold World.cell? at hi'
  split at hi'
  · next c _ _ hb=>exact lt_of_some hb
  · cases hi'
inductive VRs (w:World) (m:Nat→Reg):List AV→List Value→Prop
  | nil:VRs w m [] []
  | cons {v V vs Vs}:VR (allOf w) w noB m v V→V.oneCell'=true→VRs w m vs Vs→VRs w m (v :: vs) (V :: Vs)
theorem VRs.spec {vs:List AV} {Vs:List Value} (h:VRs w m vs Vs):vs.length=Vs.length∧(∀ u ∈ Vs,u.oneCell'=true)∧∀ i,i < vs.length→VR (allOf w) w noB m (vs.getD i .bad) (Vs.getD i undef):=by
  induction h with
  | nil=>exact ⟨rfl,fun u hu=>by simp at hu,fun i hi=>absurd hi (Nat.not_lt_zero i)⟩
  | cons hv h1 _ ih =>
    obtain ⟨i1,i2,i3⟩:=ih
    refine ⟨by simp [i1],fun u hu=>?_,fun i hi=>?_⟩
    · rcases List.mem_cons.1 hu with rfl|hu
      · exact h1
      · exact i2 u hu
    · cases i with
      | zero=>exact hv
      | succ i=>exact i3 i (by simpa using hi)
theorem VRs.agg {vs:List AV} {Vs:List Value} (h:VRs w m vs Vs):VR (allOf w) w noB m (.agg vs) (.agg Vs.toArray):=by
  obtain ⟨h1,h2,h3⟩:=h.spec
  refine .agg vs _ (by simpa using h1) (by simpa using h2) fun i hi=>?_
  have:=h3 i hi
  simpa [Array.getD_eq_getD_getElem?,List.getD_eq_getElem?_getD] using this
inductive VRa (w:World) (m:Nat→Reg):List AV→List Value→Prop
  | nil:VRa w m [] []
  | cons {v V vs Vs}:VR (allOf w) w noB m v V→VRa w m vs Vs→VRa w m (v :: vs) (V :: Vs)
theorem VRa.spec {vs:List AV} {Vs:List Value} (h:VRa w m vs Vs):vs.length=Vs.length∧∀ i,i < vs.length→VR (allOf w) w noB m (vs.getD i .bad) (Vs.getD i undef):=by
  induction h with
  | nil=>exact ⟨rfl,fun i hi=>absurd hi (Nat.not_lt_zero i)⟩
  | cons hv _ ih =>
    refine ⟨by simp [ih.1],fun i hi=>?_⟩
    cases i with
    | zero=>exact hv
    | succ i=>exact ih.2 i (by simpa using hi)
theorem calls_of_cs {f:FuncId} {fn:Func} {code:Code} (hf:FnOk P f fn code) {args:List AV} {Vs:List Value} {res:List AV} (h:CS P f args .no res) (hv:VRa w (fun _=>default) args Vs) :
    Calls P f Vs.toArray w fun e w'=>∃ v,e = .returned v∧Below w.heap.size w w'∧∃ I' m',VR I' w' noB m' (AV.mk res) v:=by
  obtain ⟨h1,h2⟩:=hv.spec
  have hc:=h (allOf w) none w (fun _=>default) Vs.toArray (fun _=>rfl) (WR.fresh _ w _ fun k hk=>hk) (by simpa using h1.symm) fun i hi=>by
    have:=h2 i hi
    show VR (allOf w) w noB (fun _=>default) _ _
    simpa [Array.getD_eq_getD_getElem?,List.getD_eq_getElem?_getD] using this
  have he:(callFunc f Vs.toArray).run P w = .ok (.enter f Vs.toArray) w:=by
    have hn:=hf.name
    simp only [beq_eq_false_iff_ne,ne_eq] at hn
    simp [callFunc,program,Sem.run,hf.eq,hn,hf.body]
  unfold CallW at hc
  rw [he] at hc
  refine Calls.mono hc fun e w' hr=>?_
  cases e with
  | returned v =>
    obtain ⟨I',m',hw,_,hvr⟩:=hr
    exact ⟨v,rfl,⟨hw.os,hw.tape,hw.output,hw.size,fun k hk=>hw.frame k hk (by simp)⟩,I',m',hvr⟩
  | _=>exact hr.elim
theorem calls_true {f:FuncId} {fn:Func} {code:Code} (hf:FnOk P f fn code) {args:List AV} {Vs:List Value} (h:CS P f args .no [.bool true]) (hv:VRa w (fun _=>default) args Vs) :
    Calls P f Vs.toArray w fun e w'=>e = .returned (.bool true)∧Below w.heap.size w w':=by
  refine (calls_of_cs hf h hv).mono ?_
  rintro e w' ⟨v,rfl,hb,I',m',hr⟩
  have hr:VR I' w' noB m' (.bool true) v:=hr
  rw [hr.bool_inv]
  exact ⟨rfl,hb⟩
end
end Go.AVL
end
