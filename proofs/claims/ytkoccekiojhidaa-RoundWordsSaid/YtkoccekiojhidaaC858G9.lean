import Derived.Test.YtkoccekiojhidaaC858JG3
import Derived.Test.YtkoccekiojhidaaC858JG2
namespace Go.Proofs.Ytkoccekiojhidaa
open Go.AVL Go.RowKit Go.Proofs.Ytkoccekiojhidaa.F Go.Proofs.YtkoccekiojhidaaX Go.Proofs.YtkoccekiojhidaaW.PrintWords Go.Proofs.YtkoccekiojhidaaW.PrintLast Go.Proofs.YtkoccekiojhidaaW.PrintMore
set_option linter.unusedVariables false
set_option linter.unusedSimpArgs false
set_option maxRecDepth 100000
set_option maxHeartbeats 4000000
theorem chattellaw06_RoundWords.j1_e {k y0 y1 y2 y3 y4 y5 y6 y7 y8 r}:(chattellaw06_RoundWords.j1 k y0 y1 y2 y3 y4 y5 y6 y7 y8=some r) = ∃ j,k=j + 1∧chattellaw06_RoundWords.j1 (j + 1) y0 y1 y2 y3 y4 y5 y6 y7 y8=some r:=propext ⟨fun h=>by cases k with|zero=>(unfold chattellaw06_RoundWords.j1 at h;cases h)|succ k=>exact ⟨k,rfl,h⟩,fun ⟨j,hj,h⟩=>by subst hj;exact h⟩
noncomputable def c9:Code:=Try.f9.body.getD .skip
theorem fn9:FnOk Try.prog 9 Try.f9 c9:=⟨Try.func9,rfl,by kernel_rfl,by kernel_rfl,mixed⟩
theorem chattellaw06_RoundWords.cs {k:Nat} {a0:ByteArray} {a1:Int} {r:Bool} (h:chattellaw06_RoundWords.f k a0 a1=some r):CS Try.prog 9 [.str a0, .int .i64 a1] .no [.bool r]:=by
  unfold chattellaw06_RoundWords.f at h
  refine E.pure fn9 rfl ?_
  refine X.seq ?_
  refine X.still ?_
  refine O.pu (Pu.assign .bool) ?_
  refine O.nil ?_
  refine X.seq ?_
  refine X.still ?_
  refine O.puE (v':=.os 13 (1) 0 _ true) (b':=⟨1, .own,_,_⟩) (U.litS (en:=AV.str) (l:=[_,_,_,_,_]) rfl (.cons .str rfl (.cons .str rfl (.cons .str rfl (.cons .str rfl (.cons .str rfl .nil))))) rfl rfl rfl (fun _=>rfl)) rfl rfl ?_
  refine O.pu (Pu.assign (.tmp (v:=.os _ _ _ _ _) rfl)) ?_
  refine O.nil ?_
  refine X.seq ?_
  refine X.still ?_
  refine O.pu (Pu.assign .int) ?_
  refine O.nil ?_
  refine X.seq ?_
  refine X.seq ?_
  refine X.still ?_
  refine O.pu (Pu.move (.tmp (v:=.os _ _ _ _ _) rfl)) ?_
  refine O.pu (Pu.lenO rfl (.tmp rfl)) ?_
  refine O.pu (Pu.move .int) ?_
  refine O.nil ?_
  refine X.block ?_
  repeat rw [bdff] at h
  refine X.inv (fun k s=>∃ x0 x1 x6 x14 x15 x16 n14 u13,s.t 0 = .str x0∧s.t 1 = .int .i64 x1∧s.t 6 = .int .i64 x6∧s.b 13=⟨u13, .own, .vals (List.map AV.str x14),9⟩∧s.t 14 = .os 13 u13 0 n14 true∧x14.length=n14∧s.t 15 = .int .i64 x15∧s.t 16 = .int .i64 x16∧chattellaw06_RoundWords.l0 k x0 x1 x6 x14 x15 x16=some r) ?_ ?_ ⟨_,_,_,_,_,_,_,_,rfl,rfl,rfl,rfl,rfl,rfl,rfl,rfl,h⟩
  · rintro s ⟨_,_,_,_,_,_,_,_,_,_,_,_,_,_,_,_,h⟩;unfold chattellaw06_RoundWords.l0 at h;cases h
  · rintro k1 s1 ⟨x0,x1,x6,x14,x15,x16,n14,u13,e0,e1,e2,e3,e4,rfl,e6,e7,h⟩
    unfold chattellaw06_RoundWords.l0 at h
    rw [St.fixT e0,St.fixT e1,St.fixT e2,St.fixB e3,St.fixT e4,St.fixT e6,St.fixT e7]
    refine X.seq ?_
    refine X.still ?_
    refine O.pu (Pu.bin (.tmp rfl) (.tmp rfl) .lss) ?_
    refine O.nil ?_
    refine X.seq ?_
    refine X.condP (.tmp rfl) (fun c=>?_) (fun c=>?_)
    · rw [if_pos c] at h
      refine X.skip ?_
      refine X.seq ?_
      refine X.block ?_
      refine X.seq ?_
      refine X.still ?_
      refine O.pu (Pu.move (.tmp (v:=.int _ _) rfl)) ?_
      repeat (rw [giff] at h;obtain ⟨_,h⟩:=h)
      refine O.pu (U.indexVO rfl (.tmp rfl) rfl (.tmp rfl) (by omega) (by omega) (by first|rfl|(simp only [List.length_set];done)|(simp only [List.length_drop,List.length_take,List.length_append,List.length_set] at *;omega)) rfl) ?_
      refine O.pu (U.rdVO (.tmp rfl) rfl rfl rfl (by omega) (by omega)) ?_
      refine O.pu (Pu.assign (.tmp (v:=.int _ _) rfl)) ?_
      refine O.pu (Pu.assign (.tmp (v:=.str _) rfl)) ?_
      refine O.nil ?_
      refine X.seq ?_
      refine X.still ?_
      refine O.pu (Pu.move (.tmp (v:=.str _) rfl)) ?_
      obtain ⟨q1,Hq1,h⟩:=Option.bind_eq_some_iff.1 h
      refine O.pu (U.call (ss:=[]) (.cons (.tmp (v:=.str _) rfl) .nil) (.cons (.cl .str) .nil) (round_Of.cs Hq1) (.inl rfl) (.tupL (.cons .int (.cons .bool .nil)))) ?_
      refine O.pu (Pu.move (.tmp (v:=.tup _) rfl)) ?_
      refine O.pu (Pu.extract (.tmp rfl) rfl) ?_
      refine O.pu (Pu.extract (.tmp rfl) rfl) ?_
      refine O.pu (Pu.assign (.tmp (v:=.int _ _) rfl)) ?_
      refine O.pu (Pu.assign (.tmp (v:=.bool _) rfl)) ?_
      refine O.nil ?_
      refine X.seq ?_
      refine X.seq ?_
      refine X.still ?_
      refine O.pu (Pu.move (.tmp (v:=.int _ _) rfl)) ?_
      refine O.pu (Pu.move (.tmp (v:=.int _ _) rfl)) ?_
      refine O.pu (Pu.bin (.tmp rfl) (.tmp rfl) .neq) ?_
      refine O.pu (Pu.move (.tmp (v:=.bool _) rfl)) ?_
      refine O.splitN (fun c=>?_) (fun c=>?_)
      · rw [if_neg c] at h
        refine G.skip (W.f rfl rfl rfl) ?_
        refine G.skip (W.f rfl rfl rfl) ?_
        refine O.pu (Pu.pickT (.tmp rfl) .bool) ?_
        refine O.pu (Pu.move (.tmp (v:=.bool _) rfl)) ?_
        refine G.skip (W.f rfl rfl rfl) ?_
        refine G.skip (W.f rfl rfl rfl) ?_
        refine G.skip (W.f rfl rfl rfl) ?_
        refine G.skip (W.f rfl rfl rfl) ?_
        refine O.pu (Pu.pickT (.tmp rfl) .bool) ?_
        refine O.nil ?_
        repeat (rw [chattellaw06_RoundWords.j1_e] at h;obtain ⟨k,_,h⟩:=h;unfold chattellaw06_RoundWords.j1 at h;try dsimp only at h)
        rw [if_pos rfl] at h
        refine X.condT (.tmp rfl) ?_
        refine X.seq ?_
        refine X.still ?_
        refine O.pu (Pu.assign .bool) ?_
        refine O.nil ?_
        refine X.ret ?_
        cases h
        exact E.fin [] (.tmp (v:=.bool _) rfl .nil) (.cons (.cl .bool) .nil)
      · rw [if_pos c] at h
        refine G.pu (W.t rfl rfl) (Pu.move (.tmp (v:=.bool _) rfl)) ?_
        refine G.pu (W.t rfl rfl) (Pu.un (.tmp rfl) .not) ?_
        refine O.pu (Pu.pickF (.tmp rfl) (.tmp (v:=.bool _) rfl)) ?_
        refine O.pu (Pu.move (.tmp (v:=.bool _) rfl)) ?_
        refine O.splitNot (fun c=>?_) (fun c=>?_)
        · rw [if_neg (bf c)] at h
          refine G.skip (W.f rfl rfl rfl) ?_
          refine G.skip (W.f rfl rfl rfl) ?_
          refine G.skip (W.f rfl rfl rfl) ?_
          refine G.skip (W.f rfl rfl rfl) ?_
          refine O.pu (Pu.pickT (.tmp rfl) .bool) ?_
          refine O.nil ?_
          repeat (rw [chattellaw06_RoundWords.j1_e] at h;obtain ⟨k,_,h⟩:=h;unfold chattellaw06_RoundWords.j1 at h;try dsimp only at h)
          rw [if_pos rfl] at h
          refine X.condT (.tmp rfl) ?_
          refine X.seq ?_
          refine X.still ?_
          refine O.pu (Pu.assign .bool) ?_
          refine O.nil ?_
          refine X.ret ?_
          cases h
          exact E.fin [] (.tmp (v:=.bool _) rfl .nil) (.cons (.cl .bool) .nil)
        · rw [if_pos c] at h
          refine G.pu (W.t rfl rfl) (Pu.move (.tmp (v:=.int _ _) rfl)) ?_
          obtain ⟨q2,Hq2,h⟩:=Option.bind_eq_some_iff.1 h
          refine G.pu (W.t rfl rfl) (U.call (ss:=[]) (.cons (.tmp (v:=.int _ _) rfl) .nil) (.cons (.cl .int) .nil) (round_Mode_Word.cs Hq2) (.inl rfl) (.str)) ?_
          refine G.pu (W.t rfl rfl) (Pu.move (.tmp (v:=.str _) rfl)) ?_
          refine G.pu (W.t rfl rfl) (Pu.bin (.tmp rfl) (.tmp rfl) .sneq) ?_
          refine O.pu (Pu.pickF (.tmp rfl) (.tmp (v:=.bool _) rfl)) ?_
          refine O.nil ?_
          repeat (rw [chattellaw06_RoundWords.j1_e] at h;obtain ⟨k,_,h⟩:=h;unfold chattellaw06_RoundWords.j1 at h;try dsimp only at h)
          refine X.condSN (.tmp rfl) rfl (fun c=>?_) (fun c=>?_)
          · rw [if_pos (ne1 c)] at h
            refine X.seq ?_
            refine X.still ?_
            refine O.pu (Pu.assign .bool) ?_
            refine O.nil ?_
            refine X.ret ?_
            cases h
            exact E.fin [] (.tmp (v:=.bool _) rfl .nil) (.cons (.cl .bool) .nil)
          · rw [if_neg (ne0 c)] at h
            refine X.skip ?_
            refine X.seq ?_
            refine X.still ?_
            refine O.pu (Pu.move (.tmp (v:=.str _) rfl)) ?_
            refine O.pu (Pu.move (.tmp (v:=.str _) rfl)) ?_
            refine O.pu (Pu.bin (.tmp rfl) (.tmp rfl) .seql) ?_
            refine O.nil ?_
            refine X.condS (.tmp rfl) rfl (fun c=>?_) (fun c=>?_)
            · rw [if_pos c] at h
              refine X.still ?_
              refine O.pu (Pu.move (.tmp (v:=.int _ _) rfl)) ?_
              refine O.pu (Pu.assign (.tmp (v:=.int _ _) rfl)) ?_
              refine O.nil ?_
              refine X.still ?_
              refine O.pu (Pu.bin (.tmp rfl) .int U.add64) ?_
              refine O.pu (Pu.move (.tmp (v:=.int _ _) rfl)) ?_
              refine O.nil ?_
              exact ⟨_,(by omega),_,_,_,_,_,_,_,_,rfl,rfl,rfl,rfl,rfl,(by first|rfl|(simp only [List.length_set];done)|(simp only [List.length_drop,List.length_take,List.length_append,List.length_set] at *;omega)),rfl,rfl,h⟩
            · rw [if_neg c] at h
              refine X.skip ?_
              refine X.still ?_
              refine O.pu (Pu.bin (.tmp rfl) .int U.add64) ?_
              refine O.pu (Pu.move (.tmp (v:=.int _ _) rfl)) ?_
              refine O.nil ?_
              exact ⟨_,(by omega),_,_,_,_,_,_,_,_,rfl,rfl,rfl,rfl,rfl,(by first|rfl|(simp only [List.length_set];done)|(simp only [List.length_drop,List.length_take,List.length_append,List.length_set] at *;omega)),rfl,rfl,h⟩
    · rw [if_neg c] at h
      refine X.exit (B.out ?_)
      refine X.seq ?_
      refine X.still ?_
      refine O.pu (Pu.move (.tmp (v:=.str _) rfl)) ?_
      obtain ⟨q3,Hq3,h⟩:=Option.bind_eq_some_iff.1 h
      refine O.pu (U.call (ss:=[]) (.cons (.tmp (v:=.str _) rfl) .nil) (.cons (.cl .str) .nil) (round_Of.cs Hq3) (.inl rfl) (.tupL (.cons .int (.cons .bool .nil)))) ?_
      refine O.pu (Pu.move (.tmp (v:=.tup _) rfl)) ?_
      refine O.pu (Pu.extract (.tmp rfl) rfl) ?_
      refine O.pu (Pu.extract (.tmp rfl) rfl) ?_
      refine O.pu (Pu.assign (.tmp (v:=.int _ _) rfl)) ?_
      refine O.pu (Pu.assign (.tmp (v:=.bool _) rfl)) ?_
      refine O.nil ?_
      refine X.seq ?_
      refine X.still ?_
      obtain ⟨q4,Hq4,h⟩:=Option.bind_eq_some_iff.1 h
      refine O.pu (U.call (ss:=[]) .nil .nil (chattellaw06_wakes.cs Hq4) (.inl rfl) (.bool)) ?_
      refine O.pu (Pu.move (.tmp (v:=.bool _) rfl)) ?_
      refine O.split (fun c=>?_) (fun c=>?_)
      · rw [if_pos c] at h
        refine G.pu (W.t rfl rfl) (Pu.move (.tmp (v:=.bool _) rfl)) ?_
        refine G.pu (W.t rfl rfl) (Pu.move (.tmp (v:=.int _ _) rfl)) ?_
        refine G.pu (W.t rfl rfl) (Pu.bin (.tmp rfl) .int .geq) ?_
        refine G.pu (W.t rfl rfl) (Pu.bin (.tmp rfl) (.tmp rfl) (.beql rfl)) ?_
        refine O.pu (Pu.pickT (.tmp rfl) (.tmp (v:=.bool _) rfl)) ?_
        refine O.pu (Pu.move (.tmp (v:=.bool _) rfl)) ?_
        refine O.split (fun c=>?_) (fun c=>?_)
        · rw [if_pos c] at h
          refine G.pu (W.t rfl rfl) (Pu.move (.tmp (v:=.int _ _) rfl)) ?_
          refine G.pu (W.t rfl rfl) (Pu.move (.tmp (v:=.int _ _) rfl)) ?_
          refine G.pu (W.t rfl rfl) (U.mx (.tmp rfl) .int) ?_
          refine G.pu (W.t rfl rfl) (Pu.bin (.tmp rfl) (.tmp rfl) .eql) ?_
          refine O.pu (Pu.pickT (.tmp rfl) (.tmp (v:=.bool _) rfl)) ?_
          refine O.pu (Pu.move (.tmp (v:=.bool _) rfl)) ?_
          refine O.splitE (fun c=>?_) (fun c=>?_)
          · rw [if_pos c] at h
            refine G.pu (W.t rfl rfl) (Pu.move (.tmp (v:=.int _ _) rfl)) ?_
            refine G.pu (W.t rfl rfl) (Pu.bin (.tmp rfl) .int .geq) ?_
            refine G.pu (W.t rfl rfl) (Pu.move (.tmp (v:=.bool _) rfl)) ?_
            refine O.splitP (fun c=>?_) (fun c=>?_)
            · rw [if_pos c] at h
              refine G.pu (W.t rfl rfl) (Pu.move (.tmp (v:=.int _ _) rfl)) ?_
              refine G.pu (W.t rfl rfl) (Pu.bin (.tmp rfl) .int .lss) ?_
              refine G.pu (W.t rfl rfl) (Pu.pickT (.tmp rfl) (.tmp (v:=.bool _) rfl)) ?_
              refine G.pu (W.t rfl rfl) (Pu.move (.tmp (v:=.bool _) rfl)) ?_
              refine O.splitP (fun c=>?_) (fun c=>?_)
              · rw [if_pos c] at h
                refine G.skip (W.f rfl rfl rfl) ?_
                refine G.skip (W.f rfl rfl rfl) ?_
                refine G.skip (W.f rfl rfl rfl) ?_
                refine G.pu (W.t rfl rfl) (Pu.pickT (.tmp rfl) .bool) ?_
                refine O.pu (Pu.pickT (.tmp rfl) (.tmp (v:=.bool _) rfl)) ?_
                refine O.pu (Pu.assign (.tmp (v:=.bool _) rfl)) ?_
                refine O.nil ?_
                refine X.ret ?_
                cases h
                exact E.fin [] (.tmp (v:=.bool _) rfl .nil) (.cons (.cl .bool) .nil)
              · rw [if_neg c] at h
                refine G.pu (W.t rfl rfl) (Pu.move (.tmp (v:=.int _ _) rfl)) ?_
                obtain ⟨q5,Hq5,h⟩:=Option.bind_eq_some_iff.1 h
                refine G.pu (W.t rfl rfl) (U.call (ss:=[]) (.cons (.tmp (v:=.int _ _) rfl) .nil) (.cons (.cl .int) .nil) (round_Mode_Word.cs Hq5) (.inl rfl) (.str)) ?_
                refine G.pu (W.t rfl rfl) (U.seqV (l:=[]) (.tmp rfl) .str (by kernel_rfl)) ?_
                refine G.pu (W.t rfl rfl) (Pu.pickF (.tmp rfl) (.tmp (v:=.bool _) rfl)) ?_
                refine O.pu (Pu.pickT (.tmp rfl) (.tmp (v:=.bool _) rfl)) ?_
                refine O.pu (Pu.assign (.tmp (v:=.bool _) rfl)) ?_
                refine O.nil ?_
                refine X.ret ?_
                cases h
                exact E.fin [] (.tmp (v:=.bool _) rfl .nil) (.cons (.cl .bool) .nil)
            · rw [if_neg c] at h
              refine G.skip (W.f rfl rfl rfl) ?_
              refine G.skip (W.f rfl rfl rfl) ?_
              refine G.pu (W.t rfl rfl) (Pu.pickF (.tmp rfl) .bool) ?_
              refine G.pu (W.t rfl rfl) (Pu.move (.tmp (v:=.bool _) rfl)) ?_
              refine G.pu (W.t rfl rfl) (Pu.move (.tmp (v:=.int _ _) rfl)) ?_
              obtain ⟨q6,Hq6,h⟩:=Option.bind_eq_some_iff.1 h
              refine G.pu (W.t rfl rfl) (U.call (ss:=[]) (.cons (.tmp (v:=.int _ _) rfl) .nil) (.cons (.cl .int) .nil) (round_Mode_Word.cs Hq6) (.inl rfl) (.str)) ?_
              refine G.pu (W.t rfl rfl) (U.seqV (l:=[]) (.tmp rfl) .str (by kernel_rfl)) ?_
              refine G.pu (W.t rfl rfl) (Pu.pickF (.tmp rfl) (.tmp (v:=.bool _) rfl)) ?_
              refine O.pu (Pu.pickT (.tmp rfl) (.tmp (v:=.bool _) rfl)) ?_
              refine O.pu (Pu.assign (.tmp (v:=.bool _) rfl)) ?_
              refine O.nil ?_
              refine X.ret ?_
              cases h
              exact E.fin [] (.tmp (v:=.bool _) rfl .nil) (.cons (.cl .bool) .nil)
          · rw [if_neg c] at h
            refine G.skip (W.f rfl rfl rfl) ?_
            refine G.skip (W.f rfl rfl rfl) ?_
            refine G.skipN (b:=true) (W.f rfl rfl rfl) ?_
            refine G.skip (W.n rfl rfl) ?_
            refine G.skip (W.n rfl rfl) ?_
            refine G.skip (W.f rfl rfl rfl) ?_
            refine G.skipN (b:=false) (W.f rfl rfl rfl) ?_
            refine G.skip (W.n rfl rfl) ?_
            refine G.skip (W.n rfl rfl) ?_
            refine G.skip (W.n rfl rfl) ?_
            refine G.skip (W.f rfl rfl rfl) ?_
            refine O.pu (Pu.pickF (.tmp rfl) .bool) ?_
            refine O.pu (Pu.assign (.tmp (v:=.bool _) rfl)) ?_
            refine O.nil ?_
            refine X.ret ?_
            cases h
            exact E.fin [] (.tmp (v:=.bool _) rfl .nil) (.cons (.cl .bool) .nil)
        · rw [if_neg (bf c)] at h
          refine G.skip (W.f rfl rfl rfl) ?_
          refine G.skip (W.f rfl rfl rfl) ?_
          refine G.skip (W.f rfl rfl rfl) ?_
          refine G.skip (W.f rfl rfl rfl) ?_
          refine O.pu (Pu.pickF (.tmp rfl) .bool) ?_
          refine O.pu (Pu.move (.tmp (v:=.bool _) rfl)) ?_
          refine G.skip (W.f rfl rfl rfl) ?_
          refine G.skip (W.f rfl rfl rfl) ?_
          refine G.skipN (b:=true) (W.f rfl rfl rfl) ?_
          refine G.skip (W.n rfl rfl) ?_
          refine G.skip (W.n rfl rfl) ?_
          refine G.skip (W.f rfl rfl rfl) ?_
          refine G.skipN (b:=false) (W.f rfl rfl rfl) ?_
          refine G.skip (W.n rfl rfl) ?_
          refine G.skip (W.n rfl rfl) ?_
          refine G.skip (W.n rfl rfl) ?_
          refine G.skip (W.f rfl rfl rfl) ?_
          refine O.pu (Pu.pickF (.tmp rfl) .bool) ?_
          refine O.pu (Pu.assign (.tmp (v:=.bool _) rfl)) ?_
          refine O.nil ?_
          refine X.ret ?_
          cases h
          exact E.fin [] (.tmp (v:=.bool _) rfl .nil) (.cons (.cl .bool) .nil)
      · rw [if_neg (bf c)] at h
        refine G.skip (W.f rfl rfl rfl) ?_
        refine G.skip (W.f rfl rfl rfl) ?_
        refine G.skip (W.f rfl rfl rfl) ?_
        refine G.skip (W.f rfl rfl rfl) ?_
        refine O.pu (Pu.pickF (.tmp rfl) .bool) ?_
        refine O.pu (Pu.move (.tmp (v:=.bool _) rfl)) ?_
        refine G.skip (W.f rfl rfl rfl) ?_
        refine G.skip (W.f rfl rfl rfl) ?_
        refine G.skip (W.f rfl rfl rfl) ?_
        refine G.skip (W.f rfl rfl rfl) ?_
        refine O.pu (Pu.pickF (.tmp rfl) .bool) ?_
        refine O.pu (Pu.move (.tmp (v:=.bool _) rfl)) ?_
        refine G.skip (W.f rfl rfl rfl) ?_
        refine G.skip (W.f rfl rfl rfl) ?_
        refine G.skipN (b:=true) (W.f rfl rfl rfl) ?_
        refine G.skip (W.n rfl rfl) ?_
        refine G.skip (W.n rfl rfl) ?_
        refine G.skip (W.f rfl rfl rfl) ?_
        refine G.skipN (b:=false) (W.f rfl rfl rfl) ?_
        refine G.skip (W.n rfl rfl) ?_
        refine G.skip (W.n rfl rfl) ?_
        refine G.skip (W.n rfl rfl) ?_
        refine G.skip (W.f rfl rfl rfl) ?_
        refine O.pu (Pu.pickF (.tmp rfl) .bool) ?_
        refine O.pu (Pu.assign (.tmp (v:=.bool _) rfl)) ?_
        refine O.nil ?_
        refine X.ret ?_
        cases h
        exact E.fin [] (.tmp (v:=.bool _) rfl .nil) (.cons (.cl .bool) .nil)
end Go.Proofs.Ytkoccekiojhidaa
