-- Joined of: G46 G45 G18 G71 G72 G47 G73 G99 G106 G100 G101 G102 G89 G88 G74 G48 G19 G20 G5
import Derived.Test.YtelfpflfikaloaaC70eJG2
import Derived.Test.YtelfpflfikaloaaC70eJG3
section
namespace Go.Proofs.Ytelfpflfikaloaa
open Go.AVL Go.RowKit Go.Proofs.Ytelfpflfikaloaa.F Go.Proofs.YtelfpflfikaloaaX Go.Proofs.YtelfpflfikaloaaW.PrintWords Go.Proofs.YtelfpflfikaloaaW.PrintLast Go.Proofs.YtelfpflfikaloaaW.PrintMore
set_option linter.unusedVariables false
set_option linter.unusedSimpArgs false
set_option maxRecDepth 100000
set_option maxHeartbeats 4000000
noncomputable def c46:Code:=Try.f46.body.getD .skip
theorem fn46:FnOk Try.prog 46 Try.f46 c46:=⟨Try.func46,rfl,by kernel_rfl,by kernel_rfl,mixed⟩
theorem chattelref01_Print.cs {k:Nat} {l0:List Int} {r:ByteArray} (h:chattelref01_Print.f k l0=some r):CS Try.prog 46 [.fi .i64 l0] .no [.str r]:=by
  unfold chattelref01_Print.f at h
  refine E.pure fn46 rfl ?_
  refine X.seq ?_
  refine X.still ?_
  refine O.pu (Pu.assign .str) ?_
  refine O.nil ?_
  refine X.seq ?_
  refine X.seq ?_
  refine X.still ?_
  refine O.pu (Pu.move (.tmp (v:=.fi _ _) rfl)) ?_
  refine O.pu (Pu.lenI rfl (.tmp rfl)) ?_
  refine O.pu (Pu.bin (.tmp rfl) .int .eql) ?_
  refine O.nil ?_
  refine X.condE (.tmp rfl) (fun c=>?_) (fun c=>?_)
  · rw [if_pos c] at h
    refine X.seq ?_
    refine X.still ?_
    refine O.pu (Pu.assign .str) ?_
    refine O.nil ?_
    refine X.ret ?_
    cases h
    exact E.fin [] (.tmp (v:=.str _) rfl .nil) (.cons (.cl .str) .nil)
  · rw [if_neg c] at h
    refine X.skip ?_
    refine X.seq ?_
    refine X.still ?_
    refine O.pu (Pu.assign .str) ?_
    refine O.nil ?_
    refine X.seq ?_
    refine X.seq ?_
    refine X.still ?_
    refine O.pu (Pu.assign .int) ?_
    refine O.nil ?_
    refine X.block ?_
    refine X.inv (fun k s=>∃ x0 x3 x4,s.t 0 = .fi .i64 x0∧s.t 3 = .str x3∧s.t 4 = .int .i64 x4∧chattelref01_Print.l0 k x0 x3 x4=some r) ?_ ?_ ⟨_,_,_,rfl,rfl,rfl,h⟩
    · rintro s ⟨_,_,_,_,_,_,h⟩;unfold chattelref01_Print.l0 at h;cases h
    · rintro k1 s1 ⟨x0,x3,x4,e0,e1,e2,h⟩
      unfold chattelref01_Print.l0 at h
      rw [St.fixT e0,St.fixT e1,St.fixT e2]
      refine X.seq ?_
      refine X.seq ?_
      refine X.still ?_
      refine O.pu (Pu.move (.tmp (v:=.int _ _) rfl)) ?_
      refine O.pu (Pu.move (.tmp (v:=.fi _ _) rfl)) ?_
      refine O.pu (Pu.lenI rfl (.tmp rfl)) ?_
      refine O.pu (Pu.bin (.tmp rfl) (.tmp rfl) .lss) ?_
      refine O.nil ?_
      refine X.condP (.tmp rfl) (fun c=>?_) (fun c=>?_)
      · rw [if_pos c] at h
        refine X.skip ?_
        refine X.seq ?_
        refine X.block ?_
        refine X.seq ?_
        refine X.still ?_
        refine O.pu (Pu.move (.tmp (v:=.fi _ _) rfl)) ?_
        refine O.pu (Pu.move (.tmp (v:=.int _ _) rfl)) ?_
        repeat (rw [giff] at h;obtain ⟨_,h⟩:=h)
        refine O.pu (U.rdI rfl rfl (.tmp rfl) (.tmp rfl) (by omega) (by omega)) ?_
        refine O.pu (Pu.loadR (.tmp rfl) (U.self rfl rfl rfl)) ?_
        refine O.pu (Pu.assign (.tmp (v:=.int _ _) rfl)) ?_
        refine O.nil ?_
        refine X.seq ?_
        refine X.still ?_
        refine O.pu (Pu.assign .int) ?_
        refine O.nil ?_
        refine X.block ?_
        refine X.inv (fun k s=>k≤k1∧∃ x0 x3 x4 x5 x6,s.t 0 = .fi .i64 x0∧s.t 3 = .str x3∧s.t 4 = .int .i64 x4∧s.t 5 = .int .i64 x5∧s.t 6 = .int .i64 x6∧chattelref01_Print.l1 k x0 x3 x4 x5 x6=some r) ?_ ?_ ⟨(by omega),_,_,_,_,_,rfl,rfl,rfl,rfl,rfl,h⟩
        · rintro s ⟨_,_,_,_,_,_,_,_,_,_,_,h⟩;unfold chattelref01_Print.l1 at h;cases h
        · rintro k2 s2 ⟨kl2,x0,x3,x4,x5,x6,e0,e1,e2,e3,e4,h⟩
          unfold chattelref01_Print.l1 at h
          rw [St.fixT e0,St.fixT e1,St.fixT e2,St.fixT e3,St.fixT e4]
          refine X.seq ?_
          refine X.seq ?_
          refine X.still ?_
          refine O.pu (Pu.move (.tmp (v:=.int _ _) rfl)) ?_
          refine O.pu (Pu.bin (.tmp rfl) .int .lss) ?_
          refine O.nil ?_
          refine X.condP (.tmp rfl) (fun c=>?_) (fun c=>?_)
          · rw [if_pos c] at h
            refine X.skip ?_
            refine X.seq ?_
            refine X.block ?_
            refine X.seq ?_
            refine X.still ?_
            refine O.pu (Pu.move (.tmp (v:=.int _ _) rfl)) ?_
            repeat first|(rw [giff] at h;obtain ⟨_,h⟩:=h)|rw [bdff] at h
            refine O.pu (Pu.bin (.tmp rfl) .int (.rem (by omega))) ?_
            refine O.pu (Pu.bin .int (.tmp rfl) U.add64) ?_
            refine O.pu (U.conv8 rfl (.tmp rfl)) ?_
            refine O.puE (v':=.os 29 ((s2.b 29).ver + 1) 0 _ true) (b':=⟨(s2.b 29).ver + 1, .own,_,_⟩) (U.litI rfl rfl (.cons (.tmp (v:=.int _ _) rfl) .nil) rfl rfl) rfl rfl ?_
            refine O.pu (U.convB rfl rfl rfl (.tmp rfl) rfl rfl rfl (by first|rfl|omega) rfl (by first|(simp only [List.length_cons,List.length_nil];omega)|omega)) ?_
            refine O.pu (Pu.move (.tmp (v:=.str _) rfl)) ?_
            refine O.pu (Pu.bin (.tmp rfl) (.tmp rfl) (U.sadd (by first|assumption|omega))) ?_
            refine O.pu (Pu.assign (.tmp (v:=.str _) rfl)) ?_
            refine O.nil ?_
            refine X.still ?_
            refine O.pu (Pu.move (.tmp (v:=.int _ _) rfl)) ?_
            refine O.pu (Pu.bin (.tmp rfl) .int (U.quo64 (by omega))) ?_
            refine O.pu (Pu.assign (.tmp (v:=.int _ _) rfl)) ?_
            refine O.nil ?_
            refine X.still ?_
            refine O.pu (Pu.move (.tmp (v:=.int _ _) rfl)) ?_
            refine O.pu (Pu.bin (.tmp rfl) .int U.add64) ?_
            refine O.pu (Pu.assign (.tmp (v:=.int _ _) rfl)) ?_
            refine O.nil ?_
            exact ⟨_,(by omega),(by omega),_,_,_,_,_,rfl,rfl,rfl,rfl,rfl,h⟩
          · rw [if_neg c] at h
            refine X.exit (B.out ?_)
            refine X.still ?_
            refine O.pu (Pu.move (.tmp (v:=.int _ _) rfl)) ?_
            refine O.pu (Pu.bin (.tmp rfl) .int U.add64) ?_
            refine O.pu (Pu.assign (.tmp (v:=.int _ _) rfl)) ?_
            refine O.nil ?_
            exact ⟨_,(by omega),_,_,_,rfl,rfl,rfl,h⟩
      · rw [if_neg c] at h
        refine X.exit (B.out ?_)
        refine X.seq ?_
        refine X.still ?_
        refine O.pu (Pu.assign .int) ?_
        refine O.nil ?_
        refine X.seq ?_
        refine X.block ?_
        refine X.inv (fun k s=>k≤k1∧∃ x3 x7,s.t 3 = .str x3∧s.t 7 = .int .i64 x7∧chattelref01_Print.l2 k x3 x7=some r) ?_ ?_ ⟨(by omega),_,_,rfl,rfl,h⟩
        · rintro s ⟨_,_,_,_,_,h⟩;unfold chattelref01_Print.l2 at h;cases h
        · rintro k2 s2 ⟨kl2,x3,x7,e0,e1,h⟩
          unfold chattelref01_Print.l2 at h
          rw [St.fixT e0,St.fixT e1]
          refine X.seq ?_
          refine X.seq ?_
          refine X.still ?_
          refine O.pu (Pu.move (.tmp (v:=.str _) rfl)) ?_
          refine O.pu (Pu.move (.tmp (v:=.int _ _) rfl)) ?_
          repeat (rw [giff] at h;obtain ⟨_,h⟩:=h)
          refine O.pu (U.indexS rfl (.tmp rfl) (.tmp rfl) (by omega) (by omega)) ?_
          refine O.pu (Pu.bin (.tmp rfl) .int .eql) ?_
          refine O.nil ?_
          refine X.condE (.tmp rfl) (fun c=>?_) (fun c=>?_)
          · rw [if_pos c] at h
            refine X.skip ?_
            refine X.block ?_
            refine X.still ?_
            refine O.pu (Pu.move (.tmp (v:=.int _ _) rfl)) ?_
            refine O.pu (Pu.bin (.tmp rfl) .int U.add64) ?_
            refine O.pu (Pu.assign (.tmp (v:=.int _ _) rfl)) ?_
            refine O.nil ?_
            exact ⟨_,(by omega),(by omega),_,_,rfl,rfl,h⟩
          · rw [if_neg c] at h
            refine X.exit (B.out ?_)
            refine X.seq ?_
            refine X.still ?_
            refine O.pu (Pu.move (.tmp (v:=.str _) rfl)) ?_
            refine O.pu (Pu.move (.tmp (v:=.int _ _) rfl)) ?_
            repeat (rw [giff] at h;obtain ⟨_,h⟩:=h)
            refine O.pu (Pu.sliceS rfl (.tmp rfl) (.yes (.tmp rfl) (by omega)) .no (by omega) (by omega)) ?_
            refine O.pu (Pu.assign (.tmp (v:=.str _) rfl)) ?_
            refine O.nil ?_
            refine X.ret ?_
            cases h
            exact E.fin [] (.tmp (v:=.str _) rfl .nil) (.cons (.cl .str) .nil)
noncomputable def c45:Code:=Try.f45.body.getD .skip
theorem fn45:FnOk Try.prog 45 Try.f45 c45:=⟨Try.func45,rfl,by kernel_rfl,by kernel_rfl,mixed⟩
theorem chattelref04_Print.cs {k:Nat} {l0_0:List Int} {a0_1:Bool} {r:ByteArray} (h:chattelref04_Print.f k l0_0 a0_1=some r):CS Try.prog 45 [.agg [.fi .i64 l0_0, .bool a0_1]] .no [.str r]:=by
  unfold chattelref04_Print.f at h
  refine E.pure fn45 rfl ?_
  refine X.seq ?_
  refine X.still ?_
  refine O.puE (v':=.op 1 (1) 0 0) (b':=⟨1, .own,_,_⟩) (Pu.box (.tmp (v:=.agg _) rfl) rfl rfl) rfl rfl ?_
  refine O.pu (Pu.assign .str) ?_
  refine O.nil ?_
  refine X.seq ?_
  refine X.still ?_
  refine O.pu (U.fieldA rfl rfl rfl (.tmp rfl)) ?_
  refine O.pu (U.load (.tmp rfl) rfl rfl (U.cell rfl rfl rfl)) ?_
  obtain ⟨q1,Hq1,h⟩:=Option.bind_eq_some_iff.1 h
  refine O.pu (U.call (ss:=[]) (.cons (.tmp (v:=.fi _ _) rfl) .nil) (.cons (.cl .fi) .nil) (chattelref01_Print.cs Hq1) (.inl rfl) (.str)) ?_
  refine O.pu (Pu.assign (.tmp (v:=.str _) rfl)) ?_
  refine O.nil ?_
  refine X.seq ?_
  refine X.seq ?_
  refine X.still ?_
  refine O.pu (U.fieldA rfl rfl rfl (.tmp rfl)) ?_
  refine O.pu (U.load (.tmp rfl) rfl rfl (U.cell rfl rfl rfl)) ?_
  refine O.nil ?_
  refine X.cond (.tmp rfl) (fun c=>?_) (fun c=>?_)
  · rw [if_pos c] at h
    refine X.seq ?_
    refine X.still ?_
    refine O.pu (Pu.move (.tmp (v:=.str _) rfl)) ?_
    repeat (rw [giff] at h;obtain ⟨_,h⟩:=h)
    refine O.pu (Pu.bin .str (.tmp rfl) (U.sadd (by first|assumption|omega))) ?_
    refine O.pu (Pu.assign (.tmp (v:=.str _) rfl)) ?_
    refine O.nil ?_
    refine X.ret ?_
    cases h
    exact E.fin [] (.tmp (v:=.str _) rfl .nil) (.cons (.cl .str) .nil)
  · rw [if_neg (bf c)] at h
    refine X.skip ?_
    refine X.seq ?_
    refine X.still ?_
    refine O.pu (Pu.move (.tmp (v:=.str _) rfl)) ?_
    refine O.pu (Pu.assign (.tmp (v:=.str _) rfl)) ?_
    refine O.nil ?_
    refine X.ret ?_
    cases h
    exact E.fin [] (.tmp (v:=.str _) rfl .nil) (.cons (.cl .str) .nil)
noncomputable def c18:Code:=Try.f18.body.getD .skip
theorem fn18:FnOk Try.prog 18 Try.f18 c18:=⟨Try.func18,rfl,by kernel_rfl,by kernel_rfl,mixed⟩
theorem chattelref05_Print.cs {k:Nat} {l0_0:List Int} {a0_1:Bool} {l0_2:List Int} {r:ByteArray} (h:chattelref05_Print.f k l0_0 a0_1 l0_2=some r):CS Try.prog 18 [.agg [.fi .i64 l0_0, .bool a0_1, .fi .i64 l0_2]] .no [.str r]:=by
  unfold chattelref05_Print.f at h
  refine E.pure fn18 rfl ?_
  refine X.seq ?_
  refine X.still ?_
  refine O.puE (v':=.op 1 (1) 0 0) (b':=⟨1, .own,_,_⟩) (Pu.box (.tmp (v:=.agg _) rfl) rfl rfl) rfl rfl ?_
  refine O.pu (Pu.assign .str) ?_
  refine O.nil ?_
  refine X.seq ?_
  refine X.still ?_
  refine O.pu (U.fieldA rfl rfl rfl (.tmp rfl)) ?_
  refine O.pu (U.load (.tmp rfl) rfl rfl (U.sub rfl (.take (.take .done)))) ?_
  obtain ⟨q1,Hq1,h⟩:=Option.bind_eq_some_iff.1 h
  refine O.pu (U.call (ss:=[]) (.cons (.tmp (v:=.agg _) rfl) .nil) (.cons (.cl (.aggL (.cons .fi (.cons .bool .nil)))) .nil) (chattelref04_Print.cs Hq1) (.inl rfl) (.str)) ?_
  refine O.pu (Pu.assign (.tmp (v:=.str _) rfl)) ?_
  refine O.nil ?_
  refine X.seq ?_
  refine X.seq ?_
  refine X.still ?_
  refine O.pu (U.fieldA rfl rfl rfl (.tmp rfl)) ?_
  refine O.pu (U.load (.tmp rfl) rfl rfl (U.cell rfl rfl rfl)) ?_
  refine O.pu (Pu.lenI rfl (.tmp rfl)) ?_
  refine O.pu (Pu.bin (.tmp rfl) .int .eql) ?_
  refine O.pu (Pu.move (.tmp (v:=.bool _) rfl)) ?_
  refine O.splitE (fun c=>?_) (fun c=>?_)
  · rw [if_pos c] at h
    refine G.pu (W.t rfl rfl) (U.fieldA rfl rfl rfl (.tmp rfl)) ?_
    refine G.pu (W.t rfl rfl) (U.load (.tmp rfl) rfl rfl (U.cell rfl rfl rfl)) ?_
    repeat (rw [giff] at h;obtain ⟨_,h⟩:=h)
    refine G.pu (W.t rfl rfl) (U.rdI rfl rfl (.tmp rfl) .int (by omega) (by omega)) ?_
    refine G.pu (W.t rfl rfl) (Pu.loadR (.tmp rfl) (U.self rfl rfl rfl)) ?_
    refine G.pu (W.t rfl rfl) (Pu.bin (.tmp rfl) .int .eql) ?_
    refine O.pu (Pu.pickT (.tmp rfl) (.tmp (v:=.bool _) rfl)) ?_
    refine O.nil ?_
    refine X.condE (.tmp rfl) (fun c=>?_) (fun c=>?_)
    · rw [if_pos c] at h
      refine X.seq ?_
      refine X.still ?_
      refine O.pu (Pu.move (.tmp (v:=.str _) rfl)) ?_
      refine O.pu (Pu.assign (.tmp (v:=.str _) rfl)) ?_
      refine O.nil ?_
      refine X.ret ?_
      cases h
      exact E.fin [] (.tmp (v:=.str _) rfl .nil) (.cons (.cl .str) .nil)
    · rw [if_neg c] at h
      refine X.skip ?_
      refine X.seq ?_
      refine X.still ?_
      refine O.pu (U.fieldA rfl rfl rfl (.tmp rfl)) ?_
      refine O.pu (U.load (.tmp rfl) rfl rfl (U.cell rfl rfl rfl)) ?_
      obtain ⟨q2,Hq2,h⟩:=Option.bind_eq_some_iff.1 h
      refine O.pu (U.call (ss:=[]) (.cons (.tmp (v:=.fi _ _) rfl) .nil) (.cons (.cl .fi) .nil) (chattelref01_Print.cs Hq2) (.inl rfl) (.str)) ?_
      refine O.pu (Pu.assign (.tmp (v:=.str _) rfl)) ?_
      refine O.nil ?_
      refine X.seq ?_
      refine X.still ?_
      refine O.pu (Pu.move (.tmp (v:=.str _) rfl)) ?_
      repeat (rw [giff] at h;obtain ⟨_,h⟩:=h)
      refine O.pu (Pu.bin (.tmp rfl) .str (U.sadd (by first|assumption|omega))) ?_
      refine O.pu (Pu.move (.tmp (v:=.str _) rfl)) ?_
      refine O.pu (Pu.bin (.tmp rfl) (.tmp rfl) (U.sadd (by first|assumption|omega))) ?_
      refine O.pu (Pu.assign (.tmp (v:=.str _) rfl)) ?_
      refine O.nil ?_
      refine X.ret ?_
      cases h
      exact E.fin [] (.tmp (v:=.str _) rfl .nil) (.cons (.cl .str) .nil)
  · rw [if_neg c] at h
    refine G.skip (W.f rfl rfl rfl) ?_
    refine G.skip (W.f rfl rfl rfl) ?_
    refine G.skip (W.f rfl rfl rfl) ?_
    refine G.skip (W.f rfl rfl rfl) ?_
    refine G.skip (W.f rfl rfl rfl) ?_
    refine O.pu (Pu.pickF (.tmp rfl) .bool) ?_
    refine O.nil ?_
    refine X.condF (.tmp rfl) ?_
    refine X.skip ?_
    refine X.seq ?_
    refine X.still ?_
    refine O.pu (U.fieldA rfl rfl rfl (.tmp rfl)) ?_
    refine O.pu (U.load (.tmp rfl) rfl rfl (U.cell rfl rfl rfl)) ?_
    obtain ⟨q3,Hq3,h⟩:=Option.bind_eq_some_iff.1 h
    refine O.pu (U.call (ss:=[]) (.cons (.tmp (v:=.fi _ _) rfl) .nil) (.cons (.cl .fi) .nil) (chattelref01_Print.cs Hq3) (.inl rfl) (.str)) ?_
    refine O.pu (Pu.assign (.tmp (v:=.str _) rfl)) ?_
    refine O.nil ?_
    refine X.seq ?_
    refine X.still ?_
    refine O.pu (Pu.move (.tmp (v:=.str _) rfl)) ?_
    repeat (rw [giff] at h;obtain ⟨_,h⟩:=h)
    refine O.pu (Pu.bin (.tmp rfl) .str (U.sadd (by first|assumption|omega))) ?_
    refine O.pu (Pu.move (.tmp (v:=.str _) rfl)) ?_
    refine O.pu (Pu.bin (.tmp rfl) (.tmp rfl) (U.sadd (by first|assumption|omega))) ?_
    refine O.pu (Pu.assign (.tmp (v:=.str _) rfl)) ?_
    refine O.nil ?_
    refine X.ret ?_
    cases h
    exact E.fin [] (.tmp (v:=.str _) rfl .nil) (.cons (.cl .str) .nil)
noncomputable def c71:Code:=Try.f71.body.getD .skip
theorem fn71:FnOk Try.prog 71 Try.f71 c71:=⟨Try.func71,rfl,by kernel_rfl,by kernel_rfl,mixed⟩
theorem chattelref01_Small.cs {k:Nat} {a0:Int} {r:List Int} (h:chattelref01_Small.f k a0=some r):CS Try.prog 71 [.int .i64 a0] .no [.fi .i64 r]:=by
  unfold chattelref01_Small.f at h
  refine E.pure fn71 rfl ?_
  refine X.seq ?_
  refine X.still ?_
  refine O.pu (Pu.assign (.nilI (k:=.i64))) ?_
  refine O.nil ?_
  refine X.seq ?_
  refine X.still ?_
  refine O.ef (U.nilOE (u:=1) (row:=.ints .i64 []) (e:=3) rfl rfl) ?_
  refine O.nil ?_
  refine X.seq ?_
  refine X.block ?_
  refine X.inv (fun k s=>∃ x0 x3 n3 u3,s.t 0 = .int .i64 x0∧s.b 3=⟨u3, .own, .ints .i64 x3,3⟩∧s.t 3 = .os 3 u3 0 n3 true∧x3.length=n3∧chattelref01_Small.l0 k x0 x3=some r) ?_ ?_ ⟨_,_,_,_,rfl,rfl,rfl,rfl,h⟩
  · rintro s ⟨_,_,_,_,_,_,_,_,h⟩;unfold chattelref01_Small.l0 at h;cases h
  · rintro k1 s1 ⟨x0,x3,n3,u3,e0,e1,e2,rfl,h⟩
    unfold chattelref01_Small.l0 at h
    rw [St.fixT e0,St.fixB e1,St.fixT e2]
    refine X.seq ?_
    refine X.seq ?_
    refine X.still ?_
    refine O.pu (Pu.move (.tmp (v:=.int _ _) rfl)) ?_
    refine O.pu (Pu.bin (.tmp rfl) .int .gtr) ?_
    refine O.nil ?_
    refine X.condP (.tmp rfl) (fun c=>?_) (fun c=>?_)
    · rw [if_pos c] at h
      refine X.skip ?_
      refine X.block ?_
      refine X.seq ?_
      refine X.still ?_
      refine O.pu (Pu.move (.tmp (v:=.os _ _ _ _ _) rfl)) ?_
      refine O.pu (Pu.move (.tmp (v:=.int _ _) rfl)) ?_
      repeat (rw [giff] at h;obtain ⟨_,h⟩:=h)
      refine O.pu (Pu.bin (.tmp rfl) .int (.rem (by omega))) ?_
      refine O.puE (v':=.os 9 ((s1.b 9).ver + 1) 0 _ true) (b':=⟨(s1.b 9).ver + 1, .own,_,_⟩) (U.litI rfl rfl (.cons (.tmp (v:=.int _ _) rfl) .nil) rfl rfl) rfl rfl ?_
      refine O.ef (U.appendE (u':=(s1.b 10).ver + 1) rfl rfl (.tmp rfl) rfl (by first|rfl|(simp only [List.length_set];done)|(simp only [List.length_drop,List.length_take,List.length_append,List.length_set] at *;omega)) (.tmp rfl) (.osIf (List.mem_singleton.2 rfl) rfl (Mode.live_ne rfl) rfl (by first|rfl|(simp only [List.length_set];done)|(simp only [List.length_drop,List.length_take,List.length_append,List.length_set] at *;omega))) rfl (by first|exact Nat.le_of_lt (by assumption)|(simp only [List.length_cons,List.length_nil];omega)) rfl) ?_
      refine O.ef (U.takeE (u':=u3 + 1) (.tmp rfl) rfl (ne_of_beq rfl) rfl) ?_
      refine O.nil ?_
      refine X.still ?_
      refine O.pu (Pu.move (.tmp (v:=.int _ _) rfl)) ?_
      refine O.pu (Pu.bin (.tmp rfl) .int (U.quo64 (by omega))) ?_
      refine O.pu (Pu.assign (.tmp (v:=.int _ _) rfl)) ?_
      refine O.nil ?_
      exact ⟨_,(by omega),_,_,_,_,rfl,rfl,rfl,(by first|rfl|(simp only [List.length_set];done)|(simp only [List.length_drop,List.length_take,List.length_append,List.length_set] at *;omega)),h⟩
    · rw [if_neg c] at h
      refine X.exit (B.out ?_)
      refine X.seq ?_
      refine X.still ?_
      refine O.pu (Pu.move (.tmp (v:=.os _ _ _ _ _) rfl)) ?_
      refine O.pu (Pu.assign (.tmp (v:=.os _ _ _ _ _) rfl)) ?_
      refine O.nil ?_
      refine X.ret ?_
      cases h
      exact E.fin [3] (.tmp (v:=.os _ _ _ _ _) rfl .nil) (.cons (.osIf (by simp) rfl (Mode.live_ne rfl) rfl (by first|rfl|(simp only [List.length_set];done)|(simp only [List.length_drop,List.length_take,List.length_append,List.length_set] at *;omega))) .nil)
noncomputable def c72:Code:=Try.f72.body.getD .skip
theorem fn72:FnOk Try.prog 72 Try.f72 c72:=⟨Try.func72,rfl,by kernel_rfl,by kernel_rfl,mixed⟩
theorem chattelref04_Of.cs {l0:List Int} {a1:Bool} {r:List Int×Bool} (h:chattelref04_Of.f l0 a1=some r):CS Try.prog 72 [.fi .i64 l0, .bool a1] .no [.agg [.fi .i64 r.1, .bool r.2]]:=by
  unfold chattelref04_Of.f at h
  refine E.pure fn72 rfl ?_
  refine X.seq ?_
  refine X.still ?_
  refine O.puE (v':=.op 4 (1) 0 0) (b':=⟨1, .own,(.vals [.agg [.fi .i64 [], .bool false]]),_⟩) Pu.alloc rfl rfl ?_
  refine O.nil ?_
  refine X.seq ?_
  refine X.still ?_
  refine O.pu (Pu.move (.tmp (v:=.fi _ _) rfl)) ?_
  refine O.pu (Pu.move (.tmp (v:=.bool _) rfl)) ?_
  refine O.pu (Pu.move (.tmp (v:=.bool _) rfl)) ?_
  refine O.split (fun c=>?_) (fun c=>?_)
  · rw [if_pos c] at h
    refine G.pu (W.t rfl rfl) (Pu.move (.tmp (v:=.fi _ _) rfl)) ?_
    refine G.pu (W.t rfl rfl) (Pu.lenI rfl (.tmp rfl)) ?_
    refine G.pu (W.t rfl rfl) (Pu.bin (.tmp rfl) .int .gtr) ?_
    refine O.pu (Pu.pickT (.tmp rfl) (.tmp (v:=.bool _) rfl)) ?_
    refine O.pu (Pu.build rfl (.cons (.tmp (v:=.fi _ _) rfl) rfl rfl rfl (.put .done) (.cons (.tmp (v:=.bool _) rfl) rfl rfl rfl (.skip (.put .done)) .nil))) ?_
    refine O.ef0 (U.storeE (.tmp rfl) rfl rfl (.tmp (v:=.agg _) rfl) rfl rfl (.whole (notBad_ne rfl) rfl) .one) ?_
    refine O.nil ?_
    refine X.ret ?_
    cases h
    exact E.fin [] (.cell rfl rfl (Mode.live_ne rfl) (U.whole rfl rfl) .nil) (.cons (.cl (.aggL (.cons .fi (.cons .bool .nil)))) .nil)
  · rw [if_neg (bf c)] at h
    refine G.skip (W.f rfl rfl rfl) ?_
    refine G.skip (W.f rfl rfl rfl) ?_
    refine G.skip (W.f rfl rfl rfl) ?_
    refine O.pu (Pu.pickF (.tmp rfl) .bool) ?_
    refine O.pu (Pu.build rfl (.cons (.tmp (v:=.fi _ _) rfl) rfl rfl rfl (.put .done) (.cons (.tmp (v:=.bool _) rfl) rfl rfl rfl (.skip (.put .done)) .nil))) ?_
    refine O.ef0 (U.storeE (.tmp rfl) rfl rfl (.tmp (v:=.agg _) rfl) rfl rfl (.whole (notBad_ne rfl) rfl) .one) ?_
    refine O.nil ?_
    refine X.ret ?_
    cases h
    exact E.fin [] (.cell rfl rfl (Mode.live_ne rfl) (U.whole rfl rfl) .nil) (.cons (.cl (.aggL (.cons .fi (.cons .bool .nil)))) .nil)
noncomputable def c47:Code:=Try.f47.body.getD .skip
theorem fn47:FnOk Try.prog 47 Try.f47 c47:=⟨Try.func47,rfl,by kernel_rfl,by kernel_rfl,mixed⟩
theorem chattelref04_From.cs {k:Nat} {a0:Int} {r:List Int×Bool} (h:chattelref04_From.f k a0=some r):CS Try.prog 47 [.int .i64 a0] .no [.agg [.fi .i64 r.1, .bool r.2]]:=by
  unfold chattelref04_From.f at h
  refine E.pure fn47 rfl ?_
  refine X.seq ?_
  refine X.still ?_
  refine O.puE (v':=.op 2 (1) 0 0) (b':=⟨1, .own,(.vals [.agg [.fi .i64 [], .bool false]]),_⟩) Pu.alloc rfl rfl ?_
  refine O.nil ?_
  refine X.seq ?_
  refine X.seq ?_
  refine X.still ?_
  refine O.pu (Pu.move (.tmp (v:=.int _ _) rfl)) ?_
  refine O.pu (Pu.bin (.tmp rfl) .int .lss) ?_
  refine O.nil ?_
  refine X.condP (.tmp rfl) (fun c=>?_) (fun c=>?_)
  · rw [if_pos c] at h
    refine X.seq ?_
    refine X.still ?_
    refine O.pu (Pu.move (.tmp (v:=.int _ _) rfl)) ?_
    refine O.pu (Pu.un (.tmp rfl) U.neg64) ?_
    obtain ⟨q1,Hq1,h⟩:=Option.bind_eq_some_iff.1 h
    refine O.pu (U.call (ss:=[]) (.cons (.tmp (v:=.int _ _) rfl) .nil) (.cons (.cl .int) .nil) (chattelref01_Small.cs Hq1) (.inl rfl) (.fi)) ?_
    refine O.pu (Pu.assign (.tmp (v:=.fi _ _) rfl)) ?_
    refine O.nil ?_
    refine X.seq ?_
    refine X.still ?_
    refine O.pu (Pu.move (.tmp (v:=.fi _ _) rfl)) ?_
    obtain ⟨q2,Hq2,h⟩:=Option.bind_eq_some_iff.1 h
    refine O.pu (U.call (ss:=[]) (.cons (.tmp (v:=.fi _ _) rfl) (.cons .bool .nil)) (.cons (.cl .fi) (.cons (.cl .bool) .nil)) (chattelref04_Of.cs Hq2) (.inl rfl) (.aggL (.cons .fi (.cons .bool .nil)))) ?_
    refine O.ef0 (U.storeE (.tmp rfl) rfl rfl (.tmp (v:=.agg _) rfl) rfl rfl (.whole (notBad_ne rfl) rfl) .one) ?_
    refine O.nil ?_
    refine X.ret ?_
    cases h
    exact E.fin [] (.cell rfl rfl (Mode.live_ne rfl) (U.whole rfl rfl) .nil) (.cons (.cl (.aggL (.cons .fi (.cons .bool .nil)))) .nil)
  · rw [if_neg c] at h
    refine X.skip ?_
    refine X.seq ?_
    refine X.still ?_
    refine O.pu (Pu.move (.tmp (v:=.int _ _) rfl)) ?_
    obtain ⟨q3,Hq3,h⟩:=Option.bind_eq_some_iff.1 h
    refine O.pu (U.call (ss:=[]) (.cons (.tmp (v:=.int _ _) rfl) .nil) (.cons (.cl .int) .nil) (chattelref01_Small.cs Hq3) (.inl rfl) (.fi)) ?_
    refine O.pu (Pu.assign (.tmp (v:=.fi _ _) rfl)) ?_
    refine O.nil ?_
    refine X.seq ?_
    refine X.still ?_
    refine O.pu (Pu.move (.tmp (v:=.fi _ _) rfl)) ?_
    obtain ⟨q4,Hq4,h⟩:=Option.bind_eq_some_iff.1 h
    refine O.pu (U.call (ss:=[]) (.cons (.tmp (v:=.fi _ _) rfl) (.cons .bool .nil)) (.cons (.cl .fi) (.cons (.cl .bool) .nil)) (chattelref04_Of.cs Hq4) (.inl rfl) (.aggL (.cons .fi (.cons .bool .nil)))) ?_
    refine O.ef0 (U.storeE (.tmp rfl) rfl rfl (.tmp (v:=.agg _) rfl) rfl rfl (.whole (notBad_ne rfl) rfl) .one) ?_
    refine O.nil ?_
    refine X.ret ?_
    cases h
    exact E.fin [] (.cell rfl rfl (Mode.live_ne rfl) (U.whole rfl rfl) .nil) (.cons (.cl (.aggL (.cons .fi (.cons .bool .nil)))) .nil)
noncomputable def c73:Code:=Try.f73.body.getD .skip
theorem fn73:FnOk Try.prog 73 Try.f73 c73:=⟨Try.func73,rfl,by kernel_rfl,by kernel_rfl,mixed⟩
theorem chattelref04_Neg.cs {l0_0:List Int} {a0_1:Bool} {r:List Int×Bool} (h:chattelref04_Neg.f l0_0 a0_1=some r):CS Try.prog 73 [.agg [.fi .i64 l0_0, .bool a0_1]] .no [.agg [.fi .i64 r.1, .bool r.2]]:=by
  unfold chattelref04_Neg.f at h
  refine E.pure fn73 rfl ?_
  refine X.seq ?_
  refine X.still ?_
  refine O.puE (v':=.op 1 (1) 0 0) (b':=⟨1, .own,_,_⟩) (Pu.box (.tmp (v:=.agg _) rfl) rfl rfl) rfl rfl ?_
  refine O.puE (v':=.op 2 (1) 0 0) (b':=⟨1, .own,(.vals [.agg [.fi .i64 [], .bool false]]),_⟩) Pu.alloc rfl rfl ?_
  refine O.nil ?_
  refine X.seq ?_
  refine X.still ?_
  refine O.pu (U.fieldA rfl rfl rfl (.tmp rfl)) ?_
  refine O.pu (U.load (.tmp rfl) rfl rfl (U.cell rfl rfl rfl)) ?_
  refine O.pu (U.fieldA rfl rfl rfl (.tmp rfl)) ?_
  refine O.pu (U.load (.tmp rfl) rfl rfl (U.cell rfl rfl rfl)) ?_
  refine O.pu (Pu.un (.tmp rfl) .not) ?_
  obtain ⟨q1,Hq1,h⟩:=Option.bind_eq_some_iff.1 h
  refine O.pu (U.call (ss:=[]) (.cons (.tmp (v:=.fi _ _) rfl) (.cons (.tmp (v:=.bool _) rfl) .nil)) (.cons (.cl .fi) (.cons (.cl .bool) .nil)) (chattelref04_Of.cs Hq1) (.inl rfl) (.aggL (.cons .fi (.cons .bool .nil)))) ?_
  refine O.ef0 (U.storeE (.tmp rfl) rfl rfl (.tmp (v:=.agg _) rfl) rfl rfl (.whole (notBad_ne rfl) rfl) .one) ?_
  refine O.nil ?_
  refine X.ret ?_
  cases h
  exact E.fin [] (.cell rfl rfl (Mode.live_ne rfl) (U.whole rfl rfl) .nil) (.cons (.cl (.aggL (.cons .fi (.cons .bool .nil)))) .nil)
noncomputable def c99:Code:=Try.f99.body.getD .skip
theorem fn99:FnOk Try.prog 99 Try.f99 c99:=⟨Try.func99,rfl,by kernel_rfl,by kernel_rfl,mixed⟩
theorem chattelref01_Trim.cs {k:Nat} {l0:List Int} {r:List Int} (h:chattelref01_Trim.f k l0=some r):CS Try.prog 99 [.fi .i64 l0] .no [.fi .i64 r]:=by
  unfold chattelref01_Trim.f at h
  refine E.pure fn99 rfl ?_
  refine X.seq ?_
  refine X.still ?_
  refine O.pu (Pu.assign (.nilI (k:=.i64))) ?_
  refine O.nil ?_
  refine X.seq ?_
  refine X.still ?_
  refine O.pu (Pu.move (.tmp (v:=.fi _ _) rfl)) ?_
  refine O.pu (Pu.lenI rfl (.tmp rfl)) ?_
  refine O.pu (Pu.assign (.tmp (v:=.int _ _) rfl)) ?_
  refine O.nil ?_
  refine X.seq ?_
  refine X.block ?_
  refine X.inv (fun k s=>∃ x0 x3,s.t 0 = .fi .i64 x0∧s.t 3 = .int .i64 x3∧chattelref01_Trim.l0 k x0 x3=some r) ?_ ?_ ⟨_,_,rfl,rfl,h⟩
  · rintro s ⟨_,_,_,_,h⟩;unfold chattelref01_Trim.l0 at h;cases h
  · rintro k1 s1 ⟨x0,x3,e0,e1,h⟩
    unfold chattelref01_Trim.l0 at h
    rw [St.fixT e0,St.fixT e1]
    refine X.seq ?_
    refine X.seq ?_
    refine X.still ?_
    refine O.pu (Pu.move (.tmp (v:=.int _ _) rfl)) ?_
    refine O.pu (Pu.bin (.tmp rfl) .int .gtr) ?_
    refine O.pu (Pu.move (.tmp (v:=.bool _) rfl)) ?_
    refine O.splitP (fun c=>?_) (fun c=>?_)
    · rw [if_pos c] at h
      refine G.pu (W.t rfl rfl) (Pu.move (.tmp (v:=.fi _ _) rfl)) ?_
      refine G.pu (W.t rfl rfl) (Pu.move (.tmp (v:=.int _ _) rfl)) ?_
      refine G.pu (W.t rfl rfl) (Pu.bin (.tmp rfl) .int U.sub64) ?_
      repeat (rw [giff] at h;obtain ⟨_,h⟩:=h)
      refine G.pu (W.t rfl rfl) (U.rdI rfl rfl (.tmp rfl) (.tmp rfl) (by omega) (by omega)) ?_
      refine G.pu (W.t rfl rfl) (Pu.loadR (.tmp rfl) (U.self rfl rfl rfl)) ?_
      refine G.pu (W.t rfl rfl) (Pu.bin (.tmp rfl) .int .eql) ?_
      refine O.pu (Pu.pickT (.tmp rfl) (.tmp (v:=.bool _) rfl)) ?_
      refine O.nil ?_
      refine X.condE (.tmp rfl) (fun c=>?_) (fun c=>?_)
      · rw [if_pos c] at h
        refine X.skip ?_
        refine X.block ?_
        refine X.still ?_
        refine O.pu (Pu.move (.tmp (v:=.int _ _) rfl)) ?_
        refine O.pu (Pu.bin (.tmp rfl) .int U.sub64) ?_
        refine O.pu (Pu.assign (.tmp (v:=.int _ _) rfl)) ?_
        refine O.nil ?_
        exact ⟨_,(by omega),_,_,rfl,rfl,h⟩
      · rw [if_neg c] at h
        refine X.exit (B.out ?_)
        refine X.seq ?_
        refine X.still ?_
        refine O.pu (Pu.move (.tmp (v:=.fi _ _) rfl)) ?_
        refine O.pu (Pu.move (.tmp (v:=.int _ _) rfl)) ?_
        repeat (rw [giff] at h;obtain ⟨_,h⟩:=h)
        refine O.pu (U.sliceH rfl rfl (.tmp rfl) .no (.yes (.tmp rfl) (by omega)) .no (by omega) (by omega)) ?_
        refine O.pu (Pu.assign (.tmp (v:=.fi _ _) rfl)) ?_
        refine O.nil ?_
        refine X.ret ?_
        cases h
        exact E.fin [] (.tmp (v:=.fi _ _) rfl .nil) (.cons (.cl .fi) .nil)
    · rw [if_neg c] at h
      refine G.skip (W.f rfl rfl rfl) ?_
      refine G.skip (W.f rfl rfl rfl) ?_
      refine G.skip (W.f rfl rfl rfl) ?_
      refine G.skip (W.f rfl rfl rfl) ?_
      refine G.skip (W.f rfl rfl rfl) ?_
      refine G.skip (W.f rfl rfl rfl) ?_
      refine O.pu (Pu.pickF (.tmp rfl) .bool) ?_
      refine O.nil ?_
      refine X.condF (.tmp rfl) ?_
      refine X.exit (B.out ?_)
      refine X.seq ?_
      refine X.still ?_
      refine O.pu (Pu.move (.tmp (v:=.fi _ _) rfl)) ?_
      refine O.pu (Pu.move (.tmp (v:=.int _ _) rfl)) ?_
      repeat (rw [giff] at h;obtain ⟨_,h⟩:=h)
      refine O.pu (U.sliceH rfl rfl (.tmp rfl) .no (.yes (.tmp rfl) (by omega)) .no (by omega) (by omega)) ?_
      refine O.pu (Pu.assign (.tmp (v:=.fi _ _) rfl)) ?_
      refine O.nil ?_
      refine X.ret ?_
      cases h
      exact E.fin [] (.tmp (v:=.fi _ _) rfl .nil) (.cons (.cl .fi) .nil)
noncomputable def c106:Code:=Try.f106.body.getD .skip
theorem fn106:FnOk Try.prog 106 Try.f106 c106:=⟨Try.func106,rfl,by kernel_rfl,by kernel_rfl,mixed⟩
theorem chattelref01_at.cs {l0:List Int} {a1:Int} {r:Int} (h:chattelref01_at.f l0 a1=some r):CS Try.prog 106 [.fi .i64 l0, .int .i64 a1] .no [.int .i64 r]:=by
  unfold chattelref01_at.f at h
  refine E.pure fn106 rfl ?_
  refine X.seq ?_
  refine X.still ?_
  refine O.pu (Pu.assign .int) ?_
  refine O.nil ?_
  refine X.seq ?_
  refine X.seq ?_
  refine X.still ?_
  refine O.pu (Pu.move (.tmp (v:=.int _ _) rfl)) ?_
  refine O.pu (Pu.move (.tmp (v:=.fi _ _) rfl)) ?_
  refine O.pu (Pu.lenI rfl (.tmp rfl)) ?_
  refine O.pu (Pu.bin (.tmp rfl) (.tmp rfl) .geq) ?_
  refine O.nil ?_
  refine X.condP (.tmp rfl) (fun c=>?_) (fun c=>?_)
  · rw [if_pos c] at h
    refine X.seq ?_
    refine X.still ?_
    refine O.pu (Pu.assign .int) ?_
    refine O.nil ?_
    refine X.ret ?_
    cases h
    exact E.fin [] (.tmp (v:=.int _ _) rfl .nil) (.cons (.cl .int) .nil)
  · rw [if_neg c] at h
    refine X.skip ?_
    refine X.seq ?_
    refine X.still ?_
    refine O.pu (Pu.move (.tmp (v:=.fi _ _) rfl)) ?_
    refine O.pu (Pu.move (.tmp (v:=.int _ _) rfl)) ?_
    repeat (rw [giff] at h;obtain ⟨_,h⟩:=h)
    refine O.pu (U.rdI rfl rfl (.tmp rfl) (.tmp rfl) (by omega) (by omega)) ?_
    refine O.pu (Pu.loadR (.tmp rfl) (U.self rfl rfl rfl)) ?_
    refine O.pu (Pu.assign (.tmp (v:=.int _ _) rfl)) ?_
    refine O.nil ?_
    refine X.ret ?_
    cases h
    exact E.fin [] (.tmp (v:=.int _ _) rfl .nil) (.cons (.cl .int) .nil)
noncomputable def c100:Code:=Try.f100.body.getD .skip
theorem fn100:FnOk Try.prog 100 Try.f100 c100:=⟨Try.func100,rfl,by kernel_rfl,by kernel_rfl,mixed⟩
theorem chattelref01_Mul.cs {k:Nat} {l0:List Int} {l1:List Int} {r:List Int} (h:chattelref01_Mul.f k l0 l1=some r):CS Try.prog 100 [.fi .i64 l0, .fi .i64 l1] .no [.fi .i64 r]:=by
  unfold chattelref01_Mul.f at h
  refine E.pure fn100 rfl ?_
  refine X.seq ?_
  refine X.still ?_
  refine O.pu (Pu.assign (.nilI (k:=.i64))) ?_
  refine O.nil ?_
  refine X.seq ?_
  refine X.still ?_
  refine O.pu (Pu.move (.tmp (v:=.fi _ _) rfl)) ?_
  refine O.pu (Pu.lenI rfl (.tmp rfl)) ?_
  refine O.pu (Pu.move (.tmp (v:=.fi _ _) rfl)) ?_
  refine O.pu (Pu.lenI rfl (.tmp rfl)) ?_
  refine O.pu (Pu.bin (.tmp rfl) (.tmp rfl) U.add64) ?_
  refine O.pu (Pu.bin (.tmp rfl) .int U.add64) ?_
  repeat (rw [giff] at h;obtain ⟨_,h⟩:=h)
  refine O.puE (v':=.os 17 (1) 0 _ true) (b':=⟨1, .own,_,_⟩) (U.makeI rfl rfl (.tmp rfl) (.tmp rfl) (by omega) (by omega) rfl (by omega)) rfl rfl ?_
  refine O.pu (Pu.assign (.tmp (v:=.os _ _ _ _ _) rfl)) ?_
  refine O.nil ?_
  refine X.seq ?_
  refine X.seq ?_
  refine X.still ?_
  refine O.pu (Pu.assign .int) ?_
  refine O.nil ?_
  refine X.block ?_
  refine X.inv (fun k s=>∃ x0 x1 x5 x6 n5 u17,s.t 0 = .fi .i64 x0∧s.t 1 = .fi .i64 x1∧s.b 17=⟨u17, .own, .ints .i64 x5,3⟩∧s.t 5 = .os 17 u17 0 n5 true∧x5.length=n5∧s.t 6 = .int .i64 x6∧chattelref01_Mul.l0 k x0 x1 x5 x6=some r) ?_ ?_ ⟨_,_,_,_,_,_,rfl,rfl,rfl,rfl,rfl,rfl,h⟩
  · rintro s ⟨_,_,_,_,_,_,_,_,_,_,_,_,h⟩;unfold chattelref01_Mul.l0 at h;cases h
  · rintro k1 s1 ⟨x0,x1,x5,x6,n5,u17,e0,e1,e2,e3,rfl,e5,h⟩
    unfold chattelref01_Mul.l0 at h
    rw [St.fixT e0,St.fixT e1,St.fixB e2,St.fixT e3,St.fixT e5]
    refine X.seq ?_
    refine X.seq ?_
    refine X.still ?_
    refine O.pu (Pu.move (.tmp (v:=.int _ _) rfl)) ?_
    refine O.pu (Pu.move (.tmp (v:=.fi _ _) rfl)) ?_
    refine O.pu (Pu.lenI rfl (.tmp rfl)) ?_
    refine O.pu (Pu.bin (.tmp rfl) (.tmp rfl) .lss) ?_
    refine O.nil ?_
    refine X.condP (.tmp rfl) (fun c=>?_) (fun c=>?_)
    · rw [if_pos c] at h
      refine X.skip ?_
      refine X.seq ?_
      refine X.block ?_
      refine X.seq ?_
      refine X.still ?_
      refine O.pu (Pu.assign .int) ?_
      refine O.nil ?_
      refine X.seq ?_
      refine X.still ?_
      refine O.pu (Pu.assign .int) ?_
      refine O.nil ?_
      refine X.block ?_
      refine X.inv (fun k s=>k≤k1∧∃ x0 x1 x5 x6 x7 x8 n5 u17,s.t 0 = .fi .i64 x0∧s.t 1 = .fi .i64 x1∧s.b 17=⟨u17, .own, .ints .i64 x5,3⟩∧s.t 5 = .os 17 u17 0 n5 true∧x5.length=n5∧s.t 6 = .int .i64 x6∧s.t 7 = .int .i64 x7∧s.t 8 = .int .i64 x8∧chattelref01_Mul.l1 k x0 x1 x5 x6 x7 x8=some r) ?_ ?_ ⟨(by omega),_,_,_,_,_,_,_,_,rfl,rfl,rfl,rfl,(by first|rfl|(simp only [List.length_set];done)|(simp only [List.length_drop,List.length_take,List.length_append,List.length_set] at *;omega)),rfl,rfl,rfl,h⟩
      · rintro s ⟨_,_,_,_,_,_,_,_,_,_,_,_,_,_,_,_,_,h⟩;unfold chattelref01_Mul.l1 at h;cases h
      · rintro k2 s2 ⟨kl2,x0,x1,x5,x6,x7,x8,n5,u17,e0,e1,e2,e3,rfl,e5,e6,e7,h⟩
        unfold chattelref01_Mul.l1 at h
        rw [St.fixT e0,St.fixT e1,St.fixB e2,St.fixT e3,St.fixT e5,St.fixT e6,St.fixT e7]
        refine X.seq ?_
        refine X.seq ?_
        refine X.still ?_
        refine O.pu (Pu.move (.tmp (v:=.int _ _) rfl)) ?_
        refine O.pu (Pu.move (.tmp (v:=.fi _ _) rfl)) ?_
        refine O.pu (Pu.lenI rfl (.tmp rfl)) ?_
        refine O.pu (Pu.bin (.tmp rfl) (.tmp rfl) .lss) ?_
        refine O.pu (Pu.move (.tmp (v:=.bool _) rfl)) ?_
        refine O.splitP (fun c=>?_) (fun c=>?_)
        · rw [if_pos c] at h
          refine G.skip (W.f rfl rfl rfl) ?_
          refine G.skip (W.f rfl rfl rfl) ?_
          refine O.pu (Pu.pickT (.tmp rfl) .bool) ?_
          refine O.nil ?_
          refine X.condT (.tmp rfl) ?_
          refine X.skip ?_
          refine X.seq ?_
          refine X.block ?_
          refine X.seq ?_
          refine X.still ?_
          refine O.pu (Pu.move (.tmp (v:=.fi _ _) rfl)) ?_
          refine O.pu (Pu.move (.tmp (v:=.int _ _) rfl)) ?_
          obtain ⟨q1,Hq1,h⟩:=Option.bind_eq_some_iff.1 h
          refine O.pu (U.call (ss:=[]) (.cons (.tmp (v:=.fi _ _) rfl) (.cons (.tmp (v:=.int _ _) rfl) .nil)) (.cons (.cl .fi) (.cons (.cl .int) .nil)) (chattelref01_at.cs Hq1) (.inl rfl) (.int)) ?_
          refine O.pu (Pu.assign (.tmp (v:=.int _ _) rfl)) ?_
          refine O.nil ?_
          refine X.seq ?_
          refine X.drawn ?_
          refine D.pu (Pu.move (.tmp (v:=.os _ _ _ _ _) rfl)) ?_
          refine D.pu (Pu.move (.tmp (v:=.int _ _) rfl)) ?_
          refine D.pu (Pu.move (.tmp (v:=.int _ _) rfl)) ?_
          refine D.pu (Pu.bin (.tmp rfl) (.tmp rfl) U.add64) ?_
          repeat (rw [giff] at h;obtain ⟨_,h⟩:=h)
          refine D.pu (U.indexO0 rfl (.tmp rfl) rfl rfl (.tmp rfl) (by first|omega|(simp only [List.length_set] at *;omega)) (by first|omega|(simp only [List.length_set] at *;omega)) rfl rfl) ?_
          refine D.pu (U.rdO (.tmp rfl) rfl rfl rfl rfl rfl) ?_
          refine D.pu (Pu.move (.tmp (v:=.fi _ _) rfl)) ?_
          refine D.pu (Pu.move (.tmp (v:=.int _ _) rfl)) ?_
          refine D.pu (U.rdI rfl rfl (.tmp rfl) (.tmp rfl) (by omega) (by omega)) ?_
          refine D.pu (Pu.loadR (.tmp rfl) (U.self rfl rfl rfl)) ?_
          refine D.pu (Pu.move (.tmp (v:=.int _ _) rfl)) ?_
          refine D.pu (Pu.bin (.tmp rfl) (.tmp rfl) U.mul64) ?_
          refine D.pu (Pu.bin (.tmp rfl) (.tmp rfl) U.add64) ?_
          refine D.pu (Pu.move (.tmp (v:=.int _ _) rfl)) ?_
          refine D.pu (Pu.bin (.tmp rfl) (.tmp rfl) U.add64) ?_
          refine D.pu (Pu.assign (.tmp (v:=.int _ _) rfl)) ?_
          refine D.nil (by kernel_rfl) ?_
          refine X.seq ?_
          refine X.still ?_
          refine O.pu (Pu.move (.tmp (v:=.os _ _ _ _ _) rfl)) ?_
          refine O.pu (Pu.move (.tmp (v:=.int _ _) rfl)) ?_
          refine O.pu (Pu.move (.tmp (v:=.int _ _) rfl)) ?_
          refine O.pu (Pu.bin (.tmp rfl) (.tmp rfl) U.add64) ?_
          refine O.pu (Pu.move (.tmp (v:=.int _ _) rfl)) ?_
          refine O.pu (Pu.bin (.tmp rfl) .int (.rem (by omega))) ?_
          refine O.pu (U.indexO0 rfl (.tmp rfl) rfl rfl (.tmp rfl) (by first|omega|(simp only [List.length_set] at *;omega)) (by first|omega|(simp only [List.length_set] at *;omega)) rfl rfl) ?_
          refine O.ef0 (U.storeE (.tmp rfl) rfl rfl (.tmp (v:=.int _ _) rfl) rfl rfl (.whole (notBad_ne rfl) rfl) .ints) ?_
          refine O.nil ?_
          refine X.still ?_
          refine O.pu (Pu.move (.tmp (v:=.int _ _) rfl)) ?_
          refine O.pu (Pu.bin (.tmp rfl) .int (U.quo64 (by omega))) ?_
          refine O.pu (Pu.assign (.tmp (v:=.int _ _) rfl)) ?_
          refine O.nil ?_
          refine X.still ?_
          refine O.pu (Pu.move (.tmp (v:=.int _ _) rfl)) ?_
          refine O.pu (Pu.bin (.tmp rfl) .int U.add64) ?_
          refine O.pu (Pu.assign (.tmp (v:=.int _ _) rfl)) ?_
          refine O.nil ?_
          exact ⟨_,(by omega),(by omega),_,_,_,_,_,_,_,_,rfl,rfl,rfl,rfl,(by first|rfl|(simp only [List.length_set];done)|(simp only [List.length_drop,List.length_take,List.length_append,List.length_set] at *;omega)),rfl,rfl,rfl,h⟩
        · rw [if_neg c] at h
          refine G.pu (W.t rfl rfl) (Pu.move (.tmp (v:=.int _ _) rfl)) ?_
          refine G.pu (W.t rfl rfl) (Pu.bin (.tmp rfl) .int .gtr) ?_
          refine O.pu (Pu.pickF (.tmp rfl) (.tmp (v:=.bool _) rfl)) ?_
          refine O.nil ?_
          refine X.condP (.tmp rfl) (fun c=>?_) (fun c=>?_)
          · rw [if_pos c] at h
            refine X.skip ?_
            refine X.seq ?_
            refine X.block ?_
            refine X.seq ?_
            refine X.still ?_
            refine O.pu (Pu.move (.tmp (v:=.fi _ _) rfl)) ?_
            refine O.pu (Pu.move (.tmp (v:=.int _ _) rfl)) ?_
            obtain ⟨q2,Hq2,h⟩:=Option.bind_eq_some_iff.1 h
            refine O.pu (U.call (ss:=[]) (.cons (.tmp (v:=.fi _ _) rfl) (.cons (.tmp (v:=.int _ _) rfl) .nil)) (.cons (.cl .fi) (.cons (.cl .int) .nil)) (chattelref01_at.cs Hq2) (.inl rfl) (.int)) ?_
            refine O.pu (Pu.assign (.tmp (v:=.int _ _) rfl)) ?_
            refine O.nil ?_
            refine X.seq ?_
            refine X.drawn ?_
            refine D.pu (Pu.move (.tmp (v:=.os _ _ _ _ _) rfl)) ?_
            refine D.pu (Pu.move (.tmp (v:=.int _ _) rfl)) ?_
            refine D.pu (Pu.move (.tmp (v:=.int _ _) rfl)) ?_
            refine D.pu (Pu.bin (.tmp rfl) (.tmp rfl) U.add64) ?_
            repeat (rw [giff] at h;obtain ⟨_,h⟩:=h)
            refine D.pu (U.indexO0 rfl (.tmp rfl) rfl rfl (.tmp rfl) (by first|omega|(simp only [List.length_set] at *;omega)) (by first|omega|(simp only [List.length_set] at *;omega)) rfl rfl) ?_
            refine D.pu (U.rdO (.tmp rfl) rfl rfl rfl rfl rfl) ?_
            refine D.pu (Pu.move (.tmp (v:=.fi _ _) rfl)) ?_
            refine D.pu (Pu.move (.tmp (v:=.int _ _) rfl)) ?_
            refine D.pu (U.rdI rfl rfl (.tmp rfl) (.tmp rfl) (by omega) (by omega)) ?_
            refine D.pu (Pu.loadR (.tmp rfl) (U.self rfl rfl rfl)) ?_
            refine D.pu (Pu.move (.tmp (v:=.int _ _) rfl)) ?_
            refine D.pu (Pu.bin (.tmp rfl) (.tmp rfl) U.mul64) ?_
            refine D.pu (Pu.bin (.tmp rfl) (.tmp rfl) U.add64) ?_
            refine D.pu (Pu.move (.tmp (v:=.int _ _) rfl)) ?_
            refine D.pu (Pu.bin (.tmp rfl) (.tmp rfl) U.add64) ?_
            refine D.pu (Pu.assign (.tmp (v:=.int _ _) rfl)) ?_
            refine D.nil (by kernel_rfl) ?_
            refine X.seq ?_
            refine X.still ?_
            refine O.pu (Pu.move (.tmp (v:=.os _ _ _ _ _) rfl)) ?_
            refine O.pu (Pu.move (.tmp (v:=.int _ _) rfl)) ?_
            refine O.pu (Pu.move (.tmp (v:=.int _ _) rfl)) ?_
            refine O.pu (Pu.bin (.tmp rfl) (.tmp rfl) U.add64) ?_
            refine O.pu (Pu.move (.tmp (v:=.int _ _) rfl)) ?_
            refine O.pu (Pu.bin (.tmp rfl) .int (.rem (by omega))) ?_
            refine O.pu (U.indexO0 rfl (.tmp rfl) rfl rfl (.tmp rfl) (by first|omega|(simp only [List.length_set] at *;omega)) (by first|omega|(simp only [List.length_set] at *;omega)) rfl rfl) ?_
            refine O.ef0 (U.storeE (.tmp rfl) rfl rfl (.tmp (v:=.int _ _) rfl) rfl rfl (.whole (notBad_ne rfl) rfl) .ints) ?_
            refine O.nil ?_
            refine X.still ?_
            refine O.pu (Pu.move (.tmp (v:=.int _ _) rfl)) ?_
            refine O.pu (Pu.bin (.tmp rfl) .int (U.quo64 (by omega))) ?_
            refine O.pu (Pu.assign (.tmp (v:=.int _ _) rfl)) ?_
            refine O.nil ?_
            refine X.still ?_
            refine O.pu (Pu.move (.tmp (v:=.int _ _) rfl)) ?_
            refine O.pu (Pu.bin (.tmp rfl) .int U.add64) ?_
            refine O.pu (Pu.assign (.tmp (v:=.int _ _) rfl)) ?_
            refine O.nil ?_
            exact ⟨_,(by omega),(by omega),_,_,_,_,_,_,_,_,rfl,rfl,rfl,rfl,(by first|rfl|(simp only [List.length_set];done)|(simp only [List.length_drop,List.length_take,List.length_append,List.length_set] at *;omega)),rfl,rfl,rfl,h⟩
          · rw [if_neg c] at h
            refine X.exit (B.out ?_)
            refine X.still ?_
            refine O.pu (Pu.move (.tmp (v:=.int _ _) rfl)) ?_
            refine O.pu (Pu.bin (.tmp rfl) .int U.add64) ?_
            refine O.pu (Pu.assign (.tmp (v:=.int _ _) rfl)) ?_
            refine O.nil ?_
            exact ⟨_,(by omega),_,_,_,_,_,_,rfl,rfl,rfl,rfl,(by first|rfl|(simp only [List.length_set];done)|(simp only [List.length_drop,List.length_take,List.length_append,List.length_set] at *;omega)),rfl,h⟩
    · rw [if_neg c] at h
      refine X.exit (B.out ?_)
      refine X.seq ?_
      refine X.still ?_
      refine O.pu (Pu.move (.tmp (v:=.os _ _ _ _ _) rfl)) ?_
      obtain ⟨q3,Hq3,h⟩:=Option.bind_eq_some_iff.1 h
      refine O.ef (U.callZ (ss:=[17]) (.cons (.tmp (v:=.os _ _ _ _ _) rfl) .nil) (.cons (.osIf (by simp) rfl (Mode.live_ne rfl) rfl (by first|rfl|(simp only [List.length_set];done)|(simp only [List.length_drop,List.length_take,List.length_append,List.length_set] at *;omega))) .nil) (chattelref01_Trim.cs Hq3) (.fi) (nowin rfl)) ?_
      refine O.pu (Pu.assign (.tmp (v:=.fi _ _) rfl)) ?_
      refine O.nil ?_
      refine X.ret ?_
      cases h
      exact E.fin [] (.tmp (v:=.fi _ _) rfl .nil) (.cons (.cl .fi) .nil)
noncomputable def c101:Code:=Try.f101.body.getD .skip
theorem fn101:FnOk Try.prog 101 Try.f101 c101:=⟨Try.func101,rfl,by kernel_rfl,by kernel_rfl,mixed⟩
theorem chattelref01_Cmp.cs {k:Nat} {l0:List Int} {l1:List Int} {r:Int} (h:chattelref01_Cmp.f k l0 l1=some r):CS Try.prog 101 [.fi .i64 l0, .fi .i64 l1] .no [.int .i64 r]:=by
  unfold chattelref01_Cmp.f at h
  refine E.pure fn101 rfl ?_
  refine X.seq ?_
  refine X.still ?_
  refine O.pu (Pu.assign .int) ?_
  refine O.nil ?_
  refine X.seq ?_
  refine X.seq ?_
  refine X.still ?_
  refine O.pu (Pu.move (.tmp (v:=.fi _ _) rfl)) ?_
  refine O.pu (Pu.lenI rfl (.tmp rfl)) ?_
  refine O.pu (Pu.move (.tmp (v:=.fi _ _) rfl)) ?_
  refine O.pu (Pu.lenI rfl (.tmp rfl)) ?_
  refine O.pu (Pu.bin (.tmp rfl) (.tmp rfl) .neq) ?_
  refine O.nil ?_
  refine X.condN (.tmp rfl) (fun c=>?_) (fun c=>?_)
  · rw [if_neg c] at h
    refine X.seq ?_
    refine X.seq ?_
    refine X.still ?_
    refine O.pu (Pu.move (.tmp (v:=.fi _ _) rfl)) ?_
    refine O.pu (Pu.lenI rfl (.tmp rfl)) ?_
    refine O.pu (Pu.move (.tmp (v:=.fi _ _) rfl)) ?_
    refine O.pu (Pu.lenI rfl (.tmp rfl)) ?_
    refine O.pu (Pu.bin (.tmp rfl) (.tmp rfl) .lss) ?_
    refine O.nil ?_
    refine X.condP (.tmp rfl) (fun c=>?_) (fun c=>?_)
    · rw [if_pos c] at h
      refine X.seq ?_
      refine X.still ?_
      refine O.pu (Pu.assign .int) ?_
      refine O.nil ?_
      refine X.ret ?_
      cases h
      exact E.fin [] (.tmp (v:=.int _ _) rfl .nil) (.cons (.cl .int) .nil)
    · rw [if_neg c] at h
      refine X.skip ?_
      refine X.seq ?_
      refine X.still ?_
      refine O.pu (Pu.assign .int) ?_
      refine O.nil ?_
      refine X.ret ?_
      cases h
      exact E.fin [] (.tmp (v:=.int _ _) rfl .nil) (.cons (.cl .int) .nil)
  · rw [if_pos c] at h
    refine X.skip ?_
    refine X.seq ?_
    refine X.seq ?_
    refine X.still ?_
    refine O.pu (Pu.move (.tmp (v:=.fi _ _) rfl)) ?_
    refine O.pu (Pu.lenI rfl (.tmp rfl)) ?_
    refine O.pu (Pu.bin (.tmp rfl) .int U.sub64) ?_
    refine O.pu (Pu.assign (.tmp (v:=.int _ _) rfl)) ?_
    refine O.nil ?_
    refine X.block ?_
    refine X.inv (fun k s=>∃ x0 x1 x5,s.t 0 = .fi .i64 x0∧s.t 1 = .fi .i64 x1∧s.t 5 = .int .i64 x5∧chattelref01_Cmp.l0 k x0 x1 x5=some r) ?_ ?_ ⟨_,_,_,rfl,rfl,rfl,h⟩
    · rintro s ⟨_,_,_,_,_,_,h⟩;unfold chattelref01_Cmp.l0 at h;cases h
    · rintro k1 s1 ⟨x0,x1,x5,e0,e1,e2,h⟩
      unfold chattelref01_Cmp.l0 at h
      rw [St.fixT e0,St.fixT e1,St.fixT e2]
      refine X.seq ?_
      refine X.seq ?_
      refine X.still ?_
      refine O.pu (Pu.move (.tmp (v:=.int _ _) rfl)) ?_
      refine O.pu (Pu.bin (.tmp rfl) .int .geq) ?_
      refine O.nil ?_
      refine X.condP (.tmp rfl) (fun c=>?_) (fun c=>?_)
      · rw [if_pos c] at h
        refine X.skip ?_
        refine X.seq ?_
        refine X.block ?_
        refine X.seq ?_
        refine X.seq ?_
        refine X.drawn ?_
        refine D.pu (Pu.move (.tmp (v:=.fi _ _) rfl)) ?_
        refine D.pu (Pu.move (.tmp (v:=.int _ _) rfl)) ?_
        repeat (rw [giff] at h;obtain ⟨_,h⟩:=h)
        refine D.pu (U.rdI rfl rfl (.tmp rfl) (.tmp rfl) (by omega) (by omega)) ?_
        refine D.pu (Pu.loadR (.tmp rfl) (U.self rfl rfl rfl)) ?_
        refine D.pu (Pu.move (.tmp (v:=.fi _ _) rfl)) ?_
        refine D.pu (Pu.move (.tmp (v:=.int _ _) rfl)) ?_
        refine D.pu (U.rdI rfl rfl (.tmp rfl) (.tmp rfl) (by omega) (by omega)) ?_
        refine D.pu (Pu.loadR (.tmp rfl) (U.self rfl rfl rfl)) ?_
        refine D.pu (Pu.bin (.tmp rfl) (.tmp rfl) .lss) ?_
        refine D.nil (by kernel_rfl) ?_
        refine X.condP (.tmp rfl) (fun c=>?_) (fun c=>?_)
        · rw [if_pos c] at h
          refine X.seq ?_
          refine X.still ?_
          refine O.pu (Pu.assign .int) ?_
          refine O.nil ?_
          refine X.ret ?_
          cases h
          exact E.fin [] (.tmp (v:=.int _ _) rfl .nil) (.cons (.cl .int) .nil)
        · rw [if_neg c] at h
          refine X.skip ?_
          refine X.seq ?_
          refine X.drawn ?_
          refine D.pu (Pu.move (.tmp (v:=.fi _ _) rfl)) ?_
          refine D.pu (Pu.move (.tmp (v:=.int _ _) rfl)) ?_
          refine D.pu (U.rdI rfl rfl (.tmp rfl) (.tmp rfl) (by omega) (by omega)) ?_
          refine D.pu (Pu.loadR (.tmp rfl) (U.self rfl rfl rfl)) ?_
          refine D.pu (Pu.move (.tmp (v:=.fi _ _) rfl)) ?_
          refine D.pu (Pu.move (.tmp (v:=.int _ _) rfl)) ?_
          refine D.pu (U.rdI rfl rfl (.tmp rfl) (.tmp rfl) (by omega) (by omega)) ?_
          refine D.pu (Pu.loadR (.tmp rfl) (U.self rfl rfl rfl)) ?_
          refine D.pu (Pu.bin (.tmp rfl) (.tmp rfl) .gtr) ?_
          refine D.nil (by kernel_rfl) ?_
          refine X.condP (.tmp rfl) (fun c=>?_) (fun c=>?_)
          · rw [if_pos c] at h
            refine X.seq ?_
            refine X.still ?_
            refine O.pu (Pu.assign .int) ?_
            refine O.nil ?_
            refine X.ret ?_
            cases h
            exact E.fin [] (.tmp (v:=.int _ _) rfl .nil) (.cons (.cl .int) .nil)
          · rw [if_neg c] at h
            refine X.skip ?_
            refine X.still ?_
            refine O.pu (Pu.move (.tmp (v:=.int _ _) rfl)) ?_
            refine O.pu (Pu.bin (.tmp rfl) .int U.sub64) ?_
            refine O.pu (Pu.assign (.tmp (v:=.int _ _) rfl)) ?_
            refine O.nil ?_
            exact ⟨_,(by omega),_,_,_,rfl,rfl,rfl,h⟩
      · rw [if_neg c] at h
        refine X.exit (B.out ?_)
        refine X.seq ?_
        refine X.still ?_
        refine O.pu (Pu.assign .int) ?_
        refine O.nil ?_
        refine X.ret ?_
        cases h
        exact E.fin [] (.tmp (v:=.int _ _) rfl .nil) (.cons (.cl .int) .nil)
noncomputable def c102:Code:=Try.f102.body.getD .skip
theorem fn102:FnOk Try.prog 102 Try.f102 c102:=⟨Try.func102,rfl,by kernel_rfl,by kernel_rfl,mixed⟩
theorem chattelref01_Sub.cs {k:Nat} {l0:List Int} {l1:List Int} {r:List Int} (h:chattelref01_Sub.f k l0 l1=some r):CS Try.prog 102 [.fi .i64 l0, .fi .i64 l1] .no [.fi .i64 r]:=by
  unfold chattelref01_Sub.f at h
  refine E.pure fn102 rfl ?_
  refine X.seq ?_
  refine X.still ?_
  refine O.pu (Pu.assign (.nilI (k:=.i64))) ?_
  refine O.nil ?_
  refine X.seq ?_
  refine X.still ?_
  refine O.ef (U.nilOE (u:=1) (row:=.ints .i64 []) (e:=3) rfl rfl) ?_
  refine O.nil ?_
  refine X.seq ?_
  refine X.still ?_
  refine O.pu (Pu.assign .int) ?_
  refine O.nil ?_
  refine X.seq ?_
  refine X.seq ?_
  refine X.still ?_
  refine O.pu (Pu.assign .int) ?_
  refine O.nil ?_
  refine X.block ?_
  refine X.inv (fun k s=>∃ x0 x1 x5 x6 x7 n5 u5,s.t 0 = .fi .i64 x0∧s.t 1 = .fi .i64 x1∧s.b 5=⟨u5, .own, .ints .i64 x5,3⟩∧s.t 5 = .os 5 u5 0 n5 true∧x5.length=n5∧s.t 6 = .int .i64 x6∧s.t 7 = .int .i64 x7∧chattelref01_Sub.l0 k x0 x1 x5 x6 x7=some r) ?_ ?_ ⟨_,_,_,_,_,_,_,rfl,rfl,rfl,rfl,rfl,rfl,rfl,h⟩
  · rintro s ⟨_,_,_,_,_,_,_,_,_,_,_,_,_,_,h⟩;unfold chattelref01_Sub.l0 at h;cases h
  · rintro k1 s1 ⟨x0,x1,x5,x6,x7,n5,u5,e0,e1,e2,e3,rfl,e5,e6,h⟩
    unfold chattelref01_Sub.l0 at h
    rw [St.fixT e0,St.fixT e1,St.fixB e2,St.fixT e3,St.fixT e5,St.fixT e6]
    refine X.seq ?_
    refine X.seq ?_
    refine X.still ?_
    refine O.pu (Pu.move (.tmp (v:=.int _ _) rfl)) ?_
    refine O.pu (Pu.move (.tmp (v:=.fi _ _) rfl)) ?_
    refine O.pu (Pu.lenI rfl (.tmp rfl)) ?_
    refine O.pu (Pu.bin (.tmp rfl) (.tmp rfl) .lss) ?_
    refine O.nil ?_
    refine X.condP (.tmp rfl) (fun c=>?_) (fun c=>?_)
    · rw [if_pos c] at h
      refine X.skip ?_
      refine X.seq ?_
      refine X.block ?_
      refine X.seq ?_
      refine X.still ?_
      refine O.pu (Pu.move (.tmp (v:=.fi _ _) rfl)) ?_
      refine O.pu (Pu.move (.tmp (v:=.int _ _) rfl)) ?_
      obtain ⟨q1,Hq1,h⟩:=Option.bind_eq_some_iff.1 h
      refine O.pu (U.call (ss:=[]) (.cons (.tmp (v:=.fi _ _) rfl) (.cons (.tmp (v:=.int _ _) rfl) .nil)) (.cons (.cl .fi) (.cons (.cl .int) .nil)) (chattelref01_at.cs Hq1) (.inl rfl) (.int)) ?_
      refine O.pu (Pu.assign (.tmp (v:=.int _ _) rfl)) ?_
      refine O.nil ?_
      refine X.seq ?_
      refine X.still ?_
      refine O.pu (Pu.move (.tmp (v:=.fi _ _) rfl)) ?_
      refine O.pu (Pu.move (.tmp (v:=.int _ _) rfl)) ?_
      repeat (rw [giff] at h;obtain ⟨_,h⟩:=h)
      refine O.pu (U.rdI rfl rfl (.tmp rfl) (.tmp rfl) (by omega) (by omega)) ?_
      refine O.pu (Pu.loadR (.tmp rfl) (U.self rfl rfl rfl)) ?_
      refine O.pu (Pu.move (.tmp (v:=.int _ _) rfl)) ?_
      refine O.pu (Pu.bin (.tmp rfl) (.tmp rfl) U.sub64) ?_
      refine O.pu (Pu.move (.tmp (v:=.int _ _) rfl)) ?_
      refine O.pu (Pu.bin (.tmp rfl) (.tmp rfl) U.sub64) ?_
      refine O.pu (Pu.assign (.tmp (v:=.int _ _) rfl)) ?_
      refine O.nil ?_
      refine X.seq ?_
      refine X.still ?_
      refine O.pu (Pu.assign .int) ?_
      refine O.nil ?_
      refine X.seq ?_
      refine X.seq ?_
      refine X.still ?_
      refine O.pu (Pu.move (.tmp (v:=.int _ _) rfl)) ?_
      refine O.pu (Pu.bin (.tmp rfl) .int .lss) ?_
      refine O.nil ?_
      refine X.condP (.tmp rfl) (fun c=>?_) (fun c=>?_)
      · rw [if_pos c] at h
        refine X.seq ?_
        refine X.still ?_
        refine O.pu (Pu.move (.tmp (v:=.int _ _) rfl)) ?_
        refine O.pu (Pu.bin (.tmp rfl) .int U.add64) ?_
        refine O.pu (Pu.assign (.tmp (v:=.int _ _) rfl)) ?_
        refine O.nil ?_
        refine X.still ?_
        refine O.pu (Pu.assign .int) ?_
        refine O.nil ?_
        refine X.still ?_
        refine O.pu (Pu.move (.tmp (v:=.os _ _ _ _ _) rfl)) ?_
        refine O.pu (Pu.move (.tmp (v:=.int _ _) rfl)) ?_
        refine O.puE (v':=.os 33 ((s1.b 33).ver + 1) 0 _ true) (b':=⟨(s1.b 33).ver + 1, .own,_,_⟩) (U.litI rfl rfl (.cons (.tmp (v:=.int _ _) rfl) .nil) rfl rfl) rfl rfl ?_
        repeat (rw [giff] at h;obtain ⟨_,h⟩:=h)
        refine O.ef (U.appendE (u':=(s1.b 34).ver + 1) rfl rfl (.tmp rfl) rfl (by first|rfl|(simp only [List.length_set];done)|(simp only [List.length_drop,List.length_take,List.length_append,List.length_set] at *;omega)) (.tmp rfl) (.osIf (List.mem_singleton.2 rfl) rfl (Mode.live_ne rfl) rfl (by first|rfl|(simp only [List.length_set];done)|(simp only [List.length_drop,List.length_take,List.length_append,List.length_set] at *;omega))) rfl (by first|exact Nat.le_of_lt (by assumption)|(simp only [List.length_cons,List.length_nil];omega)) rfl) ?_
        refine O.ef (U.takeE (u':=u5 + 1) (.tmp rfl) rfl (ne_of_beq rfl) rfl) ?_
        refine O.nil ?_
        refine X.still ?_
        refine O.pu (Pu.move (.tmp (v:=.int _ _) rfl)) ?_
        refine O.pu (Pu.bin (.tmp rfl) .int U.add64) ?_
        refine O.pu (Pu.assign (.tmp (v:=.int _ _) rfl)) ?_
        refine O.nil ?_
        exact ⟨_,(by omega),_,_,_,_,_,_,_,rfl,rfl,rfl,rfl,(by first|rfl|(simp only [List.length_set];done)|(simp only [List.length_drop,List.length_take,List.length_append,List.length_set] at *;omega)),rfl,rfl,h⟩
      · rw [if_neg c] at h
        refine X.skip ?_
        refine X.still ?_
        refine O.pu (Pu.move (.tmp (v:=.os _ _ _ _ _) rfl)) ?_
        refine O.pu (Pu.move (.tmp (v:=.int _ _) rfl)) ?_
        refine O.puE (v':=.os 33 ((s1.b 33).ver + 1) 0 _ true) (b':=⟨(s1.b 33).ver + 1, .own,_,_⟩) (U.litI rfl rfl (.cons (.tmp (v:=.int _ _) rfl) .nil) rfl rfl) rfl rfl ?_
        repeat (rw [giff] at h;obtain ⟨_,h⟩:=h)
        refine O.ef (U.appendE (u':=(s1.b 34).ver + 1) rfl rfl (.tmp rfl) rfl (by first|rfl|(simp only [List.length_set];done)|(simp only [List.length_drop,List.length_take,List.length_append,List.length_set] at *;omega)) (.tmp rfl) (.osIf (List.mem_singleton.2 rfl) rfl (Mode.live_ne rfl) rfl (by first|rfl|(simp only [List.length_set];done)|(simp only [List.length_drop,List.length_take,List.length_append,List.length_set] at *;omega))) rfl (by first|exact Nat.le_of_lt (by assumption)|(simp only [List.length_cons,List.length_nil];omega)) rfl) ?_
        refine O.ef (U.takeE (u':=u5 + 1) (.tmp rfl) rfl (ne_of_beq rfl) rfl) ?_
        refine O.nil ?_
        refine X.still ?_
        refine O.pu (Pu.move (.tmp (v:=.int _ _) rfl)) ?_
        refine O.pu (Pu.bin (.tmp rfl) .int U.add64) ?_
        refine O.pu (Pu.assign (.tmp (v:=.int _ _) rfl)) ?_
        refine O.nil ?_
        exact ⟨_,(by omega),_,_,_,_,_,_,_,rfl,rfl,rfl,rfl,(by first|rfl|(simp only [List.length_set];done)|(simp only [List.length_drop,List.length_take,List.length_append,List.length_set] at *;omega)),rfl,rfl,h⟩
    · rw [if_neg c] at h
      refine X.exit (B.out ?_)
      refine X.seq ?_
      refine X.still ?_
      refine O.pu (Pu.move (.tmp (v:=.os _ _ _ _ _) rfl)) ?_
      obtain ⟨q2,Hq2,h⟩:=Option.bind_eq_some_iff.1 h
      refine O.ef (U.callZ (ss:=[5]) (.cons (.tmp (v:=.os _ _ _ _ _) rfl) .nil) (.cons (.osIf (by simp) rfl (Mode.live_ne rfl) rfl (by first|rfl|(simp only [List.length_set];done)|(simp only [List.length_drop,List.length_take,List.length_append,List.length_set] at *;omega))) .nil) (chattelref01_Trim.cs Hq2) (.fi) (nowin rfl)) ?_
      refine O.pu (Pu.assign (.tmp (v:=.fi _ _) rfl)) ?_
      refine O.nil ?_
      refine X.ret ?_
      cases h
      exact E.fin [] (.tmp (v:=.fi _ _) rfl .nil) (.cons (.cl .fi) .nil)
noncomputable def c89:Code:=Try.f89.body.getD .skip
theorem fn89:FnOk Try.prog 89 Try.f89 c89:=⟨Try.func89,rfl,by kernel_rfl,by kernel_rfl,mixed⟩
theorem chattelref01_DivMod.cs {k:Nat} {l0:List Int} {l1:List Int} {r:List Int×List Int} (h:chattelref01_DivMod.f k l0 l1=some r):CS Try.prog 89 [.fi .i64 l0, .fi .i64 l1] .no [.fi .i64 r.1, .fi .i64 r.2]:=by
  unfold chattelref01_DivMod.f at h
  refine E.pure fn89 rfl ?_
  refine X.seq ?_
  refine X.still ?_
  refine O.pu (Pu.assign (.nilI (k:=.i64))) ?_
  refine O.pu (Pu.assign (.nilI (k:=.i64))) ?_
  refine O.nil ?_
  refine X.seq ?_
  refine X.still ?_
  refine O.pu (Pu.move (.tmp (v:=.fi _ _) rfl)) ?_
  refine O.pu (Pu.lenI rfl (.tmp rfl)) ?_
  repeat (rw [giff] at h;obtain ⟨_,h⟩:=h)
  refine O.puE (v':=.os 20 (1) 0 _ true) (b':=⟨1, .own,_,_⟩) (U.makeI rfl rfl (.tmp rfl) (.tmp rfl) (by omega) (by omega) rfl (by omega)) rfl rfl ?_
  refine O.pu (Pu.assign (.tmp (v:=.os _ _ _ _ _) rfl)) ?_
  refine O.nil ?_
  refine X.seq ?_
  refine X.still ?_
  refine O.pu (Pu.assign (.nilI (k:=.i64))) ?_
  refine O.nil ?_
  refine X.seq ?_
  refine X.seq ?_
  refine X.still ?_
  refine O.pu (Pu.move (.tmp (v:=.fi _ _) rfl)) ?_
  refine O.pu (Pu.lenI rfl (.tmp rfl)) ?_
  refine O.pu (Pu.bin (.tmp rfl) .int U.sub64) ?_
  refine O.pu (Pu.assign (.tmp (v:=.int _ _) rfl)) ?_
  refine O.nil ?_
  refine X.block ?_
  refine X.inv (fun k s=>∃ x0 x1 x6 x7 x8 n6 u20,s.t 0 = .fi .i64 x0∧s.t 1 = .fi .i64 x1∧s.b 20=⟨u20, .own, .ints .i64 x6,3⟩∧s.t 6 = .os 20 u20 0 n6 true∧x6.length=n6∧s.t 7 = .fi .i64 x7∧s.t 8 = .int .i64 x8∧chattelref01_DivMod.l0 k x0 x1 x6 x7 x8=some r) ?_ ?_ ⟨_,_,_,_,_,_,_,rfl,rfl,rfl,rfl,rfl,rfl,rfl,h⟩
  · rintro s ⟨_,_,_,_,_,_,_,_,_,_,_,_,_,_,h⟩;unfold chattelref01_DivMod.l0 at h;cases h
  · rintro k1 s1 ⟨x0,x1,x6,x7,x8,n6,u20,e0,e1,e2,e3,rfl,e5,e6,h⟩
    unfold chattelref01_DivMod.l0 at h
    rw [St.fixT e0,St.fixT e1,St.fixB e2,St.fixT e3,St.fixT e5,St.fixT e6]
    refine X.seq ?_
    refine X.seq ?_
    refine X.still ?_
    refine O.pu (Pu.move (.tmp (v:=.int _ _) rfl)) ?_
    refine O.pu (Pu.bin (.tmp rfl) .int .geq) ?_
    refine O.nil ?_
    refine X.condP (.tmp rfl) (fun c=>?_) (fun c=>?_)
    · rw [if_pos c] at h
      refine X.skip ?_
      refine X.seq ?_
      refine X.block ?_
      refine X.seq ?_
      refine X.still ?_
      refine O.pu (Pu.move (.tmp (v:=.fi _ _) rfl)) ?_
      refine O.pu (Pu.move (.tmp (v:=.int _ _) rfl)) ?_
      repeat first|(rw [giff] at h;obtain ⟨_,h⟩:=h)|rw [bdff] at h
      refine O.pu (U.rdI rfl rfl (.tmp rfl) (.tmp rfl) (by omega) (by omega)) ?_
      refine O.pu (Pu.loadR (.tmp rfl) (U.self rfl rfl rfl)) ?_
      refine O.puE (v':=.os 32 ((s1.b 32).ver + 1) 0 _ true) (b':=⟨(s1.b 32).ver + 1, .own,_,_⟩) (U.litI rfl rfl (.cons (.tmp (v:=.int _ _) rfl) .nil) rfl rfl) rfl rfl ?_
      refine O.pu (Pu.move (.tmp (v:=.fi _ _) rfl)) ?_
      refine O.ef (U.appendE (u':=(s1.b 34).ver + 1) rfl rfl (.tmp rfl) rfl (by first|rfl|(simp only [List.length_set];done)|(simp only [List.length_drop,List.length_take,List.length_append,List.length_set] at *;omega)) (.tmp rfl) (.cl (ss:=[]) .fi) rfl (by first|exact Nat.le_of_lt (by assumption)|(simp only [List.length_cons,List.length_nil];omega)) rfl) ?_
      refine O.pu (Pu.assign (.tmp (v:=.os _ _ _ _ _) rfl)) ?_
      refine O.nil ?_
      refine X.seq ?_
      refine X.still ?_
      refine O.pu (Pu.move (.tmp (v:=.os _ _ _ _ _) rfl)) ?_
      obtain ⟨q1,Hq1,h⟩:=Option.bind_eq_some_iff.1 h
      refine O.ef (U.callZ (ss:=[34]) (.cons (.tmp (v:=.os _ _ _ _ _) rfl) .nil) (.cons (.osIf (by simp) rfl (Mode.live_ne rfl) rfl (by first|rfl|(simp only [List.length_set];done)|(simp only [List.length_drop,List.length_take,List.length_append,List.length_set] at *;omega))) .nil) (chattelref01_Trim.cs Hq1) (.fi) (nowin rfl)) ?_
      refine O.pu (Pu.assign (.tmp (v:=.fi _ _) rfl)) ?_
      refine O.nil ?_
      refine X.seq ?_
      refine X.still ?_
      refine O.pu (Pu.assign .int) ?_
      refine O.nil ?_
      refine X.seq ?_
      refine X.still ?_
      refine O.pu (Pu.assign .int) ?_
      refine O.nil ?_
      refine X.seq ?_
      refine X.block ?_
      refine X.inv (fun k s=>k≤k1∧∃ x0 x1 x6 x7 x8 x10 x11 n6 u20,s.t 0 = .fi .i64 x0∧s.t 1 = .fi .i64 x1∧s.b 20=⟨u20, .own, .ints .i64 x6,3⟩∧s.t 6 = .os 20 u20 0 n6 true∧x6.length=n6∧s.t 7 = .fi .i64 x7∧s.t 8 = .int .i64 x8∧s.t 10 = .int .i64 x10∧s.t 11 = .int .i64 x11∧chattelref01_DivMod.l1 k x0 x1 x6 x7 x8 x10 x11=some r) ?_ ?_ ⟨(by omega),_,_,_,_,_,_,_,_,_,rfl,rfl,rfl,rfl,(by first|rfl|(simp only [List.length_set];done)|(simp only [List.length_drop,List.length_take,List.length_append,List.length_set] at *;omega)),rfl,rfl,rfl,rfl,h⟩
      · rintro s ⟨_,_,_,_,_,_,_,_,_,_,_,_,_,_,_,_,_,_,_,h⟩;unfold chattelref01_DivMod.l1 at h;cases h
      · rintro k2 s2 ⟨kl2,x0,x1,x6,x7,x8,x10,x11,n6,u20,e0,e1,e2,e3,rfl,e5,e6,e7,e8,h⟩
        unfold chattelref01_DivMod.l1 at h
        rw [St.fixT e0,St.fixT e1,St.fixB e2,St.fixT e3,St.fixT e5,St.fixT e6,St.fixT e7,St.fixT e8]
        refine X.seq ?_
        refine X.seq ?_
        refine X.still ?_
        refine O.pu (Pu.move (.tmp (v:=.int _ _) rfl)) ?_
        refine O.pu (Pu.move (.tmp (v:=.int _ _) rfl)) ?_
        refine O.pu (Pu.bin (.tmp rfl) (.tmp rfl) .lss) ?_
        refine O.nil ?_
        refine X.condP (.tmp rfl) (fun c=>?_) (fun c=>?_)
        · rw [if_pos c] at h
          refine X.skip ?_
          refine X.block ?_
          refine X.seq ?_
          refine X.still ?_
          refine O.pu (Pu.move (.tmp (v:=.int _ _) rfl)) ?_
          refine O.pu (Pu.move (.tmp (v:=.int _ _) rfl)) ?_
          refine O.pu (Pu.bin (.tmp rfl) (.tmp rfl) U.add64) ?_
          refine O.pu (Pu.bin (.tmp rfl) .int U.add64) ?_
          refine O.pu (Pu.bin (.tmp rfl) .int (U.quo64 (by omega))) ?_
          refine O.pu (Pu.assign (.tmp (v:=.int _ _) rfl)) ?_
          refine O.nil ?_
          refine X.seq ?_
          refine X.still ?_
          refine O.pu (Pu.move (.tmp (v:=.int _ _) rfl)) ?_
          obtain ⟨q2,Hq2,h⟩:=Option.bind_eq_some_iff.1 h
          refine O.pu (U.call (ss:=[]) (.cons (.tmp (v:=.int _ _) rfl) .nil) (.cons (.cl .int) .nil) (chattelref01_Small.cs Hq2) (.inl rfl) (.fi)) ?_
          refine O.pu (Pu.assign (.tmp (v:=.fi _ _) rfl)) ?_
          refine O.nil ?_
          refine X.seq ?_
          refine X.still ?_
          refine O.pu (Pu.move (.tmp (v:=.fi _ _) rfl)) ?_
          refine O.pu (Pu.move (.tmp (v:=.fi _ _) rfl)) ?_
          obtain ⟨q3,Hq3,h⟩:=Option.bind_eq_some_iff.1 h
          refine O.pu (U.call (ss:=[]) (.cons (.tmp (v:=.fi _ _) rfl) (.cons (.tmp (v:=.fi _ _) rfl) .nil)) (.cons (.cl .fi) (.cons (.cl .fi) .nil)) (chattelref01_Mul.cs Hq3) (.inl rfl) (.fi)) ?_
          refine O.pu (Pu.assign (.tmp (v:=.fi _ _) rfl)) ?_
          refine O.nil ?_
          refine X.seq ?_
          refine X.still ?_
          refine O.pu (Pu.move (.tmp (v:=.fi _ _) rfl)) ?_
          refine O.pu (Pu.move (.tmp (v:=.fi _ _) rfl)) ?_
          obtain ⟨q4,Hq4,h⟩:=Option.bind_eq_some_iff.1 h
          refine O.pu (U.call (ss:=[]) (.cons (.tmp (v:=.fi _ _) rfl) (.cons (.tmp (v:=.fi _ _) rfl) .nil)) (.cons (.cl .fi) (.cons (.cl .fi) .nil)) (chattelref01_Cmp.cs Hq4) (.inl rfl) (.int)) ?_
          refine O.pu (Pu.assign (.tmp (v:=.int _ _) rfl)) ?_
          refine O.nil ?_
          refine X.seq ?_
          refine X.still ?_
          refine O.pu (Pu.move (.tmp (v:=.int _ _) rfl)) ?_
          refine O.pu (Pu.bin (.tmp rfl) .int .leq) ?_
          refine O.nil ?_
          refine X.condP (.tmp rfl) (fun c=>?_) (fun c=>?_)
          · rw [if_pos c] at h
            refine X.still ?_
            refine O.pu (Pu.move (.tmp (v:=.int _ _) rfl)) ?_
            refine O.pu (Pu.assign (.tmp (v:=.int _ _) rfl)) ?_
            refine O.nil ?_
            exact ⟨_,(by omega),(by omega),_,_,_,_,_,_,_,_,_,rfl,rfl,rfl,rfl,(by first|rfl|(simp only [List.length_set];done)|(simp only [List.length_drop,List.length_take,List.length_append,List.length_set] at *;omega)),rfl,rfl,rfl,rfl,h⟩
          · rw [if_neg c] at h
            refine X.still ?_
            refine O.pu (Pu.move (.tmp (v:=.int _ _) rfl)) ?_
            refine O.pu (Pu.bin (.tmp rfl) .int U.sub64) ?_
            refine O.pu (Pu.assign (.tmp (v:=.int _ _) rfl)) ?_
            refine O.nil ?_
            exact ⟨_,(by omega),(by omega),_,_,_,_,_,_,_,_,_,rfl,rfl,rfl,rfl,(by first|rfl|(simp only [List.length_set];done)|(simp only [List.length_drop,List.length_take,List.length_append,List.length_set] at *;omega)),rfl,rfl,rfl,rfl,h⟩
        · rw [if_neg c] at h
          refine X.exit (B.out ?_)
          refine X.seq ?_
          refine X.still ?_
          refine O.pu (Pu.move (.tmp (v:=.os _ _ _ _ _) rfl)) ?_
          refine O.pu (Pu.move (.tmp (v:=.int _ _) rfl)) ?_
          refine O.pu (Pu.move (.tmp (v:=.int _ _) rfl)) ?_
          repeat (rw [giff] at h;obtain ⟨_,h⟩:=h)
          refine O.pu (U.indexO0 rfl (.tmp rfl) rfl rfl (.tmp rfl) (by first|omega|(simp only [List.length_set] at *;omega)) (by first|omega|(simp only [List.length_set] at *;omega)) rfl rfl) ?_
          refine O.ef0 (U.storeE (.tmp rfl) rfl rfl (.tmp (v:=.int _ _) rfl) rfl rfl (.whole (notBad_ne rfl) rfl) .ints) ?_
          refine O.nil ?_
          refine X.seq ?_
          refine X.still ?_
          refine O.pu (Pu.move (.tmp (v:=.int _ _) rfl)) ?_
          obtain ⟨q5,Hq5,h⟩:=Option.bind_eq_some_iff.1 h
          refine O.pu (U.call (ss:=[]) (.cons (.tmp (v:=.int _ _) rfl) .nil) (.cons (.cl .int) .nil) (chattelref01_Small.cs Hq5) (.inl rfl) (.fi)) ?_
          refine O.pu (Pu.assign (.tmp (v:=.fi _ _) rfl)) ?_
          refine O.nil ?_
          refine X.seq ?_
          refine X.still ?_
          refine O.pu (Pu.move (.tmp (v:=.fi _ _) rfl)) ?_
          refine O.pu (Pu.move (.tmp (v:=.fi _ _) rfl)) ?_
          obtain ⟨q6,Hq6,h⟩:=Option.bind_eq_some_iff.1 h
          refine O.pu (U.call (ss:=[]) (.cons (.tmp (v:=.fi _ _) rfl) (.cons (.tmp (v:=.fi _ _) rfl) .nil)) (.cons (.cl .fi) (.cons (.cl .fi) .nil)) (chattelref01_Mul.cs Hq6) (.inl rfl) (.fi)) ?_
          refine O.pu (Pu.assign (.tmp (v:=.fi _ _) rfl)) ?_
          refine O.nil ?_
          refine X.still ?_
          refine O.pu (Pu.move (.tmp (v:=.fi _ _) rfl)) ?_
          refine O.pu (Pu.move (.tmp (v:=.fi _ _) rfl)) ?_
          obtain ⟨q7,Hq7,h⟩:=Option.bind_eq_some_iff.1 h
          refine O.pu (U.call (ss:=[]) (.cons (.tmp (v:=.fi _ _) rfl) (.cons (.tmp (v:=.fi _ _) rfl) .nil)) (.cons (.cl .fi) (.cons (.cl .fi) .nil)) (chattelref01_Sub.cs Hq7) (.inl rfl) (.fi)) ?_
          refine O.pu (Pu.assign (.tmp (v:=.fi _ _) rfl)) ?_
          refine O.nil ?_
          refine X.still ?_
          refine O.pu (Pu.move (.tmp (v:=.int _ _) rfl)) ?_
          refine O.pu (Pu.bin (.tmp rfl) .int U.sub64) ?_
          refine O.pu (Pu.assign (.tmp (v:=.int _ _) rfl)) ?_
          refine O.nil ?_
          exact ⟨_,(by omega),_,_,_,_,_,_,_,rfl,rfl,rfl,rfl,(by first|rfl|(simp only [List.length_set];done)|(simp only [List.length_drop,List.length_take,List.length_append,List.length_set] at *;omega)),rfl,rfl,h⟩
    · rw [if_neg c] at h
      refine X.exit (B.out ?_)
      refine X.seq ?_
      refine X.still ?_
      refine O.pu (Pu.move (.tmp (v:=.os _ _ _ _ _) rfl)) ?_
      obtain ⟨q8,Hq8,h⟩:=Option.bind_eq_some_iff.1 h
      refine O.ef (U.callZ (ss:=[20]) (.cons (.tmp (v:=.os _ _ _ _ _) rfl) .nil) (.cons (.osIf (by simp) rfl (Mode.live_ne rfl) rfl (by first|rfl|(simp only [List.length_set];done)|(simp only [List.length_drop,List.length_take,List.length_append,List.length_set] at *;omega))) .nil) (chattelref01_Trim.cs Hq8) (.fi) (nowin rfl)) ?_
      refine O.pu (Pu.move (.tmp (v:=.fi _ _) rfl)) ?_
      refine O.pu (Pu.assign (.tmp (v:=.fi _ _) rfl)) ?_
      refine O.pu (Pu.assign (.tmp (v:=.fi _ _) rfl)) ?_
      refine O.nil ?_
      refine X.ret ?_
      cases h
      exact E.fin [] (.tmp (v:=.fi _ _) rfl (.tmp (v:=.fi _ _) rfl .nil)) (.cons (.cl .fi) (.cons (.cl .fi) .nil))
noncomputable def c88:Code:=Try.f88.body.getD .skip
theorem fn88:FnOk Try.prog 88 Try.f88 c88:=⟨Try.func88,rfl,by kernel_rfl,by kernel_rfl,mixed⟩
theorem chattelref02_Gcd.cs {k:Nat} {l0:List Int} {l1:List Int} {r:List Int} (h:chattelref02_Gcd.f k l0 l1=some r):CS Try.prog 88 [.fi .i64 l0, .fi .i64 l1] .no [.fi .i64 r]:=by
  unfold chattelref02_Gcd.f at h
  refine E.pure fn88 rfl ?_
  refine X.seq ?_
  refine X.still ?_
  refine O.pu (Pu.assign (.nilI (k:=.i64))) ?_
  refine O.nil ?_
  refine X.seq ?_
  refine X.block ?_
  refine X.inv (fun k s=>∃ x0 x1,s.t 0 = .fi .i64 x0∧s.t 1 = .fi .i64 x1∧chattelref02_Gcd.l0 k x0 x1=some r) ?_ ?_ ⟨_,_,rfl,rfl,h⟩
  · rintro s ⟨_,_,_,_,h⟩;unfold chattelref02_Gcd.l0 at h;cases h
  · rintro k1 s1 ⟨x0,x1,e0,e1,h⟩
    unfold chattelref02_Gcd.l0 at h
    rw [St.fixT e0,St.fixT e1]
    refine X.seq ?_
    refine X.seq ?_
    refine X.still ?_
    refine O.pu (Pu.move (.tmp (v:=.fi _ _) rfl)) ?_
    refine O.pu (Pu.lenI rfl (.tmp rfl)) ?_
    refine O.pu (Pu.bin (.tmp rfl) .int .gtr) ?_
    refine O.nil ?_
    refine X.condP (.tmp rfl) (fun c=>?_) (fun c=>?_)
    · rw [if_pos c] at h
      refine X.skip ?_
      refine X.block ?_
      refine X.seq ?_
      refine X.still ?_
      refine O.pu (Pu.move (.tmp (v:=.fi _ _) rfl)) ?_
      refine O.pu (Pu.move (.tmp (v:=.fi _ _) rfl)) ?_
      obtain ⟨q1,Hq1,h⟩:=Option.bind_eq_some_iff.1 h
      refine O.pu (U.call (ss:=[]) (.cons (.tmp (v:=.fi _ _) rfl) (.cons (.tmp (v:=.fi _ _) rfl) .nil)) (.cons (.cl .fi) (.cons (.cl .fi) .nil)) (chattelref01_DivMod.cs Hq1) (.inl rfl) (.tupL (.cons .fi (.cons .fi .nil)))) ?_
      refine O.pu (Pu.move (.tmp (v:=.tup _) rfl)) ?_
      refine O.pu (Pu.extract (.tmp rfl) rfl) ?_
      refine O.pu (Pu.extract (.tmp rfl) rfl) ?_
      refine O.pu (Pu.assign (.tmp (v:=.fi _ _) rfl)) ?_
      refine O.pu (Pu.assign (.tmp (v:=.fi _ _) rfl)) ?_
      refine O.nil ?_
      refine X.seq ?_
      refine X.still ?_
      refine O.pu (Pu.move (.tmp (v:=.fi _ _) rfl)) ?_
      refine O.pu (Pu.assign (.tmp (v:=.fi _ _) rfl)) ?_
      refine O.nil ?_
      refine X.still ?_
      refine O.pu (Pu.move (.tmp (v:=.fi _ _) rfl)) ?_
      refine O.pu (Pu.assign (.tmp (v:=.fi _ _) rfl)) ?_
      refine O.nil ?_
      exact ⟨_,(by omega),_,_,rfl,rfl,h⟩
    · rw [if_neg c] at h
      refine X.exit (B.out ?_)
      refine X.seq ?_
      refine X.still ?_
      refine O.pu (Pu.move (.tmp (v:=.fi _ _) rfl)) ?_
      refine O.pu (Pu.assign (.tmp (v:=.fi _ _) rfl)) ?_
      refine O.nil ?_
      refine X.ret ?_
      cases h
      exact E.fin [] (.tmp (v:=.fi _ _) rfl .nil) (.cons (.cl .fi) .nil)
noncomputable def c74:Code:=Try.f74.body.getD .skip
theorem fn74:FnOk Try.prog 74 Try.f74 c74:=⟨Try.func74,rfl,by kernel_rfl,by kernel_rfl,mixed⟩
theorem chattelref05_Make.cs {k:Nat} {l0_0:List Int} {a0_1:Bool} {l1:List Int} {r:List Int×Bool×List Int} (h:chattelref05_Make.f k l0_0 a0_1 l1=some r):CS Try.prog 74 [.agg [.fi .i64 l0_0, .bool a0_1], .fi .i64 l1] .no [.agg [.fi .i64 r.1, .bool r.2.1, .fi .i64 r.2.2]]:=by
  unfold chattelref05_Make.f at h
  refine E.pure fn74 rfl ?_
  refine X.seq ?_
  refine X.still ?_
  refine O.puE (v':=.op 2 (1) 0 0) (b':=⟨1, .own,_,_⟩) (Pu.box (.tmp (v:=.agg _) rfl) rfl rfl) rfl rfl ?_
  refine O.puE (v':=.op 4 (1) 0 0) (b':=⟨1, .own,(.vals [.agg [.fi .i64 [], .bool false, .fi .i64 []]]),_⟩) Pu.alloc rfl rfl ?_
  refine O.nil ?_
  refine X.seq ?_
  refine X.still ?_
  refine O.pu (U.fieldA rfl rfl rfl (.tmp rfl)) ?_
  refine O.pu (U.load (.tmp rfl) rfl rfl (U.cell rfl rfl rfl)) ?_
  refine O.pu (Pu.move (.tmp (v:=.fi _ _) rfl)) ?_
  obtain ⟨q1,Hq1,h⟩:=Option.bind_eq_some_iff.1 h
  refine O.pu (U.call (ss:=[]) (.cons (.tmp (v:=.fi _ _) rfl) (.cons (.tmp (v:=.fi _ _) rfl) .nil)) (.cons (.cl .fi) (.cons (.cl .fi) .nil)) (chattelref02_Gcd.cs Hq1) (.inl rfl) (.fi)) ?_
  refine O.pu (Pu.assign (.tmp (v:=.fi _ _) rfl)) ?_
  refine O.nil ?_
  refine X.seq ?_
  refine X.still ?_
  refine O.pu (U.fieldA rfl rfl rfl (.tmp rfl)) ?_
  refine O.pu (U.load (.tmp rfl) rfl rfl (U.cell rfl rfl rfl)) ?_
  refine O.pu (Pu.move (.tmp (v:=.fi _ _) rfl)) ?_
  obtain ⟨q2,Hq2,h⟩:=Option.bind_eq_some_iff.1 h
  refine O.pu (U.call (ss:=[]) (.cons (.tmp (v:=.fi _ _) rfl) (.cons (.tmp (v:=.fi _ _) rfl) .nil)) (.cons (.cl .fi) (.cons (.cl .fi) .nil)) (chattelref01_DivMod.cs Hq2) (.inl rfl) (.tupL (.cons .fi (.cons .fi .nil)))) ?_
  refine O.pu (Pu.move (.tmp (v:=.tup _) rfl)) ?_
  refine O.pu (Pu.extract (.tmp rfl) rfl) ?_
  refine O.pu (Pu.extract (.tmp rfl) rfl) ?_
  refine O.pu (Pu.assign (.tmp (v:=.fi _ _) rfl)) ?_
  refine O.pu (Pu.assign (.tmp (v:=.fi _ _) rfl)) ?_
  refine O.nil ?_
  refine X.seq ?_
  refine X.still ?_
  refine O.pu (Pu.move (.tmp (v:=.fi _ _) rfl)) ?_
  refine O.pu (Pu.move (.tmp (v:=.fi _ _) rfl)) ?_
  obtain ⟨q3,Hq3,h⟩:=Option.bind_eq_some_iff.1 h
  refine O.pu (U.call (ss:=[]) (.cons (.tmp (v:=.fi _ _) rfl) (.cons (.tmp (v:=.fi _ _) rfl) .nil)) (.cons (.cl .fi) (.cons (.cl .fi) .nil)) (chattelref01_DivMod.cs Hq3) (.inl rfl) (.tupL (.cons .fi (.cons .fi .nil)))) ?_
  refine O.pu (Pu.move (.tmp (v:=.tup _) rfl)) ?_
  refine O.pu (Pu.extract (.tmp rfl) rfl) ?_
  refine O.pu (Pu.extract (.tmp rfl) rfl) ?_
  refine O.pu (Pu.assign (.tmp (v:=.fi _ _) rfl)) ?_
  refine O.pu (Pu.assign (.tmp (v:=.fi _ _) rfl)) ?_
  refine O.nil ?_
  refine X.seq ?_
  refine X.still ?_
  refine O.pu (Pu.move (.tmp (v:=.fi _ _) rfl)) ?_
  refine O.pu (U.fieldA rfl rfl rfl (.tmp rfl)) ?_
  refine O.pu (U.load (.tmp rfl) rfl rfl (U.cell rfl rfl rfl)) ?_
  obtain ⟨q4,Hq4,h⟩:=Option.bind_eq_some_iff.1 h
  refine O.pu (U.call (ss:=[]) (.cons (.tmp (v:=.fi _ _) rfl) (.cons (.tmp (v:=.bool _) rfl) .nil)) (.cons (.cl .fi) (.cons (.cl .bool) .nil)) (chattelref04_Of.cs Hq4) (.inl rfl) (.aggL (.cons .fi (.cons .bool .nil)))) ?_
  refine O.puE (v':=.op 10 (1) 0 0) (b':=⟨1, .own,(.vals [.agg [.fi .i64 [], .bool false]]),_⟩) Pu.alloc rfl rfl ?_
  refine O.ef0 (U.storeE (.tmp rfl) rfl rfl (.tmp (v:=.agg _) rfl) rfl rfl (.whole (notBad_ne rfl) rfl) .one) ?_
  refine O.nil ?_
  refine X.seq ?_
  refine X.still ?_
  refine O.pu (U.load (.tmp rfl) rfl rfl (U.whole rfl rfl)) ?_
  refine O.pu (Pu.move (.tmp (v:=.fi _ _) rfl)) ?_
  refine O.pu (Pu.build rfl (.cons (.tmp (v:=.agg _) rfl) rfl rfl rfl (.put (.put .done)) (.cons (.tmp (v:=.fi _ _) rfl) rfl rfl rfl (.skip (.skip (.put .done))) .nil))) ?_
  refine O.ef0 (U.storeE (.tmp rfl) rfl rfl (.tmp (v:=.agg _) rfl) rfl rfl (.whole (notBad_ne rfl) rfl) .one) ?_
  refine O.nil ?_
  refine X.ret ?_
  cases h
  exact E.fin [] (.cell rfl rfl (Mode.live_ne rfl) (U.whole rfl rfl) .nil) (.cons (.cl (.aggL (.cons .fi (.cons .bool (.cons .fi .nil))))) .nil)
noncomputable def c48:Code:=Try.f48.body.getD .skip
theorem fn48:FnOk Try.prog 48 Try.f48 c48:=⟨Try.func48,rfl,by kernel_rfl,by kernel_rfl,mixed⟩
theorem chattelref05_Of.cs {k:Nat} {l0_0:List Int} {a0_1:Bool} {l1_0:List Int} {a1_1:Bool} {r:List Int×Bool×List Int} (h:chattelref05_Of.f k l0_0 a0_1 l1_0 a1_1=some r):CS Try.prog 48 [.agg [.fi .i64 l0_0, .bool a0_1], .agg [.fi .i64 l1_0, .bool a1_1]] .no [.agg [.fi .i64 r.1, .bool r.2.1, .fi .i64 r.2.2]]:=by
  unfold chattelref05_Of.f at h
  refine E.pure fn48 rfl ?_
  refine X.seq ?_
  refine X.still ?_
  refine O.puE (v':=.op 2 (1) 0 0) (b':=⟨1, .own,_,_⟩) (Pu.box (.tmp (v:=.agg _) rfl) rfl rfl) rfl rfl ?_
  refine O.puE (v':=.op 3 (1) 0 0) (b':=⟨1, .own,_,_⟩) (Pu.box (.tmp (v:=.agg _) rfl) rfl rfl) rfl rfl ?_
  refine O.puE (v':=.op 4 (1) 0 0) (b':=⟨1, .own,(.vals [.agg [.fi .i64 [], .bool false, .fi .i64 []]]),_⟩) Pu.alloc rfl rfl ?_
  refine O.nil ?_
  refine X.seq ?_
  refine X.seq ?_
  refine X.still ?_
  refine O.pu (U.fieldA rfl rfl rfl (.tmp rfl)) ?_
  refine O.pu (U.load (.tmp rfl) rfl rfl (U.cell rfl rfl rfl)) ?_
  refine O.nil ?_
  refine X.cond (.tmp rfl) (fun c=>?_) (fun c=>?_)
  · rw [if_pos c] at h
    refine X.still ?_
    refine O.pu (U.load (.tmp rfl) rfl rfl (U.whole rfl rfl)) ?_
    obtain ⟨q1,Hq1,h⟩:=Option.bind_eq_some_iff.1 h
    refine O.pu (U.call (ss:=[]) (.cons (.tmp (v:=.agg _) rfl) .nil) (.cons (.cl (.aggL (.cons .fi (.cons .bool .nil)))) .nil) (chattelref04_Neg.cs Hq1) (.inl rfl) (.aggL (.cons .fi (.cons .bool .nil)))) ?_
    refine O.ef0 (U.storeE (.tmp rfl) rfl rfl (.tmp (v:=.agg _) rfl) rfl rfl (.whole (notBad_ne rfl) rfl) .one) ?_
    refine O.nil ?_
    refine X.seq ?_
    refine X.still ?_
    refine O.pu (U.load (.tmp rfl) rfl rfl (U.whole rfl rfl)) ?_
    refine O.pu (U.fieldA rfl rfl rfl (.tmp rfl)) ?_
    refine O.pu (U.load (.tmp rfl) rfl rfl (U.cell rfl rfl rfl)) ?_
    obtain ⟨q2,Hq2,h⟩:=Option.bind_eq_some_iff.1 h
    refine O.pu (U.call (ss:=[]) (.cons (.tmp (v:=.agg _) rfl) (.cons (.tmp (v:=.fi _ _) rfl) .nil)) (.cons (.cl (.aggL (.cons .fi (.cons .bool .nil)))) (.cons (.cl .fi) .nil)) (chattelref05_Make.cs Hq2) (.inl rfl) (.aggL (.cons .fi (.cons .bool (.cons .fi .nil))))) ?_
    refine O.ef0 (U.storeE (.tmp rfl) rfl rfl (.tmp (v:=.agg _) rfl) rfl rfl (.whole (notBad_ne rfl) rfl) .one) ?_
    refine O.nil ?_
    refine X.ret ?_
    cases h
    exact E.fin [] (.cell rfl rfl (Mode.live_ne rfl) (U.whole rfl rfl) .nil) (.cons (.cl (.aggL (.cons .fi (.cons .bool (.cons .fi .nil))))) .nil)
  · rw [if_neg (bf c)] at h
    refine X.skip ?_
    refine X.seq ?_
    refine X.still ?_
    refine O.pu (U.load (.tmp rfl) rfl rfl (U.whole rfl rfl)) ?_
    refine O.pu (U.fieldA rfl rfl rfl (.tmp rfl)) ?_
    refine O.pu (U.load (.tmp rfl) rfl rfl (U.cell rfl rfl rfl)) ?_
    obtain ⟨q3,Hq3,h⟩:=Option.bind_eq_some_iff.1 h
    refine O.pu (U.call (ss:=[]) (.cons (.tmp (v:=.agg _) rfl) (.cons (.tmp (v:=.fi _ _) rfl) .nil)) (.cons (.cl (.aggL (.cons .fi (.cons .bool .nil)))) (.cons (.cl .fi) .nil)) (chattelref05_Make.cs Hq3) (.inl rfl) (.aggL (.cons .fi (.cons .bool (.cons .fi .nil))))) ?_
    refine O.ef0 (U.storeE (.tmp rfl) rfl rfl (.tmp (v:=.agg _) rfl) rfl rfl (.whole (notBad_ne rfl) rfl) .one) ?_
    refine O.nil ?_
    refine X.ret ?_
    cases h
    exact E.fin [] (.cell rfl rfl (Mode.live_ne rfl) (U.whole rfl rfl) .nil) (.cons (.cl (.aggL (.cons .fi (.cons .bool (.cons .fi .nil))))) .nil)
noncomputable def c19:Code:=Try.f19.body.getD .skip
theorem fn19:FnOk Try.prog 19 Try.f19 c19:=⟨Try.func19,rfl,by kernel_rfl,by kernel_rfl,mixed⟩
theorem chattelref05_Small.cs {k:Nat} {a0:Int} {a1:Int} {r:List Int×Bool×List Int} (h:chattelref05_Small.f k a0 a1=some r):CS Try.prog 19 [.int .i64 a0, .int .i64 a1] .no [.agg [.fi .i64 r.1, .bool r.2.1, .fi .i64 r.2.2]]:=by
  unfold chattelref05_Small.f at h
  refine E.pure fn19 rfl ?_
  refine X.seq ?_
  refine X.still ?_
  refine O.puE (v':=.op 4 (1) 0 0) (b':=⟨1, .own,(.vals [.agg [.fi .i64 [], .bool false, .fi .i64 []]]),_⟩) Pu.alloc rfl rfl ?_
  refine O.nil ?_
  refine X.seq ?_
  refine X.still ?_
  refine O.pu (Pu.move (.tmp (v:=.int _ _) rfl)) ?_
  obtain ⟨q1,Hq1,h⟩:=Option.bind_eq_some_iff.1 h
  refine O.pu (U.call (ss:=[]) (.cons (.tmp (v:=.int _ _) rfl) .nil) (.cons (.cl .int) .nil) (chattelref04_From.cs Hq1) (.inl rfl) (.aggL (.cons .fi (.cons .bool .nil)))) ?_
  refine O.puE (v':=.op 5 (1) 0 0) (b':=⟨1, .own,(.vals [.agg [.fi .i64 [], .bool false]]),_⟩) Pu.alloc rfl rfl ?_
  refine O.ef0 (U.storeE (.tmp rfl) rfl rfl (.tmp (v:=.agg _) rfl) rfl rfl (.whole (notBad_ne rfl) rfl) .one) ?_
  refine O.nil ?_
  refine X.seq ?_
  refine X.still ?_
  refine O.pu (Pu.move (.tmp (v:=.int _ _) rfl)) ?_
  obtain ⟨q2,Hq2,h⟩:=Option.bind_eq_some_iff.1 h
  refine O.pu (U.call (ss:=[]) (.cons (.tmp (v:=.int _ _) rfl) .nil) (.cons (.cl .int) .nil) (chattelref04_From.cs Hq2) (.inl rfl) (.aggL (.cons .fi (.cons .bool .nil)))) ?_
  refine O.puE (v':=.op 6 (1) 0 0) (b':=⟨1, .own,(.vals [.agg [.fi .i64 [], .bool false]]),_⟩) Pu.alloc rfl rfl ?_
  refine O.ef0 (U.storeE (.tmp rfl) rfl rfl (.tmp (v:=.agg _) rfl) rfl rfl (.whole (notBad_ne rfl) rfl) .one) ?_
  refine O.nil ?_
  refine X.seq ?_
  refine X.still ?_
  refine O.pu (U.load (.tmp rfl) rfl rfl (U.whole rfl rfl)) ?_
  refine O.pu (U.load (.tmp rfl) rfl rfl (U.whole rfl rfl)) ?_
  obtain ⟨q3,Hq3,h⟩:=Option.bind_eq_some_iff.1 h
  refine O.pu (U.call (ss:=[]) (.cons (.tmp (v:=.agg _) rfl) (.cons (.tmp (v:=.agg _) rfl) .nil)) (.cons (.cl (.aggL (.cons .fi (.cons .bool .nil)))) (.cons (.cl (.aggL (.cons .fi (.cons .bool .nil)))) .nil)) (chattelref05_Of.cs Hq3) (.inl rfl) (.aggL (.cons .fi (.cons .bool (.cons .fi .nil))))) ?_
  refine O.ef0 (U.storeE (.tmp rfl) rfl rfl (.tmp (v:=.agg _) rfl) rfl rfl (.whole (notBad_ne rfl) rfl) .one) ?_
  refine O.nil ?_
  refine X.ret ?_
  cases h
  exact E.fin [] (.cell rfl rfl (Mode.live_ne rfl) (U.whole rfl rfl) .nil) (.cons (.cl (.aggL (.cons .fi (.cons .bool (.cons .fi .nil))))) .nil)
theorem month_Add.j0_e {k y0 y1 y2 y3 y4 r}:(month_Add.j0 k y0 y1 y2 y3 y4=some r) = ∃ j,k=j + 1∧month_Add.j0 (j + 1) y0 y1 y2 y3 y4=some r:=propext ⟨fun h=>by cases k with|zero=>(unfold month_Add.j0 at h;cases h)|succ k=>exact ⟨k,rfl,h⟩,fun ⟨j,hj,h⟩=>by subst hj;exact h⟩
noncomputable def c20:Code:=Try.f20.body.getD .skip
theorem fn20:FnOk Try.prog 20 Try.f20 c20:=⟨Try.func20,rfl,by kernel_rfl,by kernel_rfl,mixed⟩
theorem month_Add.cs {k:Nat} {a0_0:Int} {a0_1:Int} {a0_2:Int} {a1:Int} {r:Int×Int×Int×Int} (h:month_Add.f k a0_0 a0_1 a0_2 a1=some r):CS Try.prog 20 [.agg [.int .i64 a0_0, .int .i64 a0_1, .int .i64 a0_2], .int .i64 a1] .no [.agg [.int .i64 r.1, .int .i64 r.2.1, .int .i64 r.2.2.1], .int .i64 r.2.2.2]:=by
  unfold month_Add.f at h
  refine E.pure fn20 rfl ?_
  refine X.seq ?_
  refine X.still ?_
  refine O.puE (v':=.op 2 (1) 0 0) (b':=⟨1, .own,_,_⟩) (Pu.box (.tmp (v:=.agg _) rfl) rfl rfl) rfl rfl ?_
  refine O.puE (v':=.op 4 (1) 0 0) (b':=⟨1, .own,(.vals [.agg [.int .i64 0, .int .i64 0, .int .i64 0]]),_⟩) Pu.alloc rfl rfl ?_
  refine O.pu (Pu.assign .int) ?_
  refine O.nil ?_
  refine X.seq ?_
  refine X.seq ?_
  refine X.still ?_
  refine O.pu (U.load (.tmp rfl) rfl rfl (U.whole rfl rfl)) ?_
  obtain ⟨q1,Hq1,h⟩:=Option.bind_eq_some_iff.1 h
  refine O.pu (U.call (ss:=[]) (.cons (.tmp (v:=.agg _) rfl) .nil) (.cons (.cl (.aggL (.cons .int (.cons .int (.cons .int .nil))))) .nil) (date_Check.cs Hq1) (.inl rfl) (.int)) ?_
  refine O.pu (Pu.assign (.tmp (v:=.int _ _) rfl)) ?_
  refine O.nil ?_
  refine X.seq ?_
  refine X.still ?_
  refine O.pu (Pu.move (.tmp (v:=.int _ _) rfl)) ?_
  refine O.pu (Pu.bin (.tmp rfl) .int .neq) ?_
  refine O.nil ?_
  refine X.condN (.tmp rfl) (fun c=>?_) (fun c=>?_)
  · rw [if_neg c] at h
    refine X.seq ?_
    refine X.still ?_
    refine O.pu (Pu.build rfl .nil) ?_
    refine O.pu (Pu.move (.tmp (v:=.int _ _) rfl)) ?_
    refine O.ef0 (U.storeE (.tmp rfl) rfl rfl (.tmp (v:=.agg _) rfl) rfl rfl (.whole (notBad_ne rfl) rfl) .one) ?_
    refine O.pu (Pu.assign (.tmp (v:=.int _ _) rfl)) ?_
    refine O.nil ?_
    refine X.ret ?_
    cases h
    exact E.fin [] (.cell rfl rfl (Mode.live_ne rfl) (U.whole rfl rfl) (.tmp (v:=.int _ _) rfl .nil)) (.cons (.cl (.aggL (.cons .int (.cons .int (.cons .int .nil))))) (.cons (.cl .int) .nil))
  · rw [if_pos c] at h
    refine X.skip ?_
    refine X.seq ?_
    refine X.seq ?_
    refine X.still ?_
    refine O.pu (Pu.move (.tmp (v:=.int _ _) rfl)) ?_
    refine O.pu (Pu.bin (.tmp rfl) .int .lss) ?_
    refine O.pu (Pu.move (.tmp (v:=.bool _) rfl)) ?_
    refine O.splitP (fun c=>?_) (fun c=>?_)
    · rw [if_pos c] at h
      refine G.skip (W.f rfl rfl rfl) ?_
      refine G.skip (W.f rfl rfl rfl) ?_
      refine O.pu (Pu.pickT (.tmp rfl) .bool) ?_
      refine O.nil ?_
      repeat (rw [month_Add.j0_e] at h;obtain ⟨k,_,h⟩:=h;unfold month_Add.j0 at h;try dsimp only at h)
      rw [if_pos rfl] at h
      refine X.condT (.tmp rfl) ?_
      refine X.seq ?_
      refine X.still ?_
      refine O.pu (Pu.build rfl .nil) ?_
      refine O.ef0 (U.storeE (.tmp rfl) rfl rfl (.tmp (v:=.agg _) rfl) rfl rfl (.whole (notBad_ne rfl) rfl) .one) ?_
      refine O.pu (Pu.assign .int) ?_
      refine O.nil ?_
      refine X.ret ?_
      cases h
      exact E.fin [] (.cell rfl rfl (Mode.live_ne rfl) (U.whole rfl rfl) (.tmp (v:=.int _ _) rfl .nil)) (.cons (.cl (.aggL (.cons .int (.cons .int (.cons .int .nil))))) (.cons (.cl .int) .nil))
    · rw [if_neg c] at h
      refine G.pu (W.t rfl rfl) (Pu.move (.tmp (v:=.int _ _) rfl)) ?_
      refine G.pu (W.t rfl rfl) (Pu.bin (.tmp rfl) .int .gtr) ?_
      refine O.pu (Pu.pickF (.tmp rfl) (.tmp (v:=.bool _) rfl)) ?_
      refine O.nil ?_
      repeat (rw [month_Add.j0_e] at h;obtain ⟨k,_,h⟩:=h;unfold month_Add.j0 at h;try dsimp only at h)
      refine X.condP (.tmp rfl) (fun c=>?_) (fun c=>?_)
      · rw [if_pos (decide_eq_true c)] at h
        refine X.seq ?_
        refine X.still ?_
        refine O.pu (Pu.build rfl .nil) ?_
        refine O.ef0 (U.storeE (.tmp rfl) rfl rfl (.tmp (v:=.agg _) rfl) rfl rfl (.whole (notBad_ne rfl) rfl) .one) ?_
        refine O.pu (Pu.assign .int) ?_
        refine O.nil ?_
        refine X.ret ?_
        cases h
        exact E.fin [] (.cell rfl rfl (Mode.live_ne rfl) (U.whole rfl rfl) (.tmp (v:=.int _ _) rfl .nil)) (.cons (.cl (.aggL (.cons .int (.cons .int (.cons .int .nil))))) (.cons (.cl .int) .nil))
      · rw [if_neg (nd c)] at h
        refine X.skip ?_
        refine X.seq ?_
        refine X.still ?_
        refine O.pu (U.fieldA rfl rfl rfl (.tmp rfl)) ?_
        refine O.pu (U.load (.tmp rfl) rfl rfl (U.cell rfl rfl rfl)) ?_
        refine O.pu (Pu.bin .int (.tmp rfl) U.mul64) ?_
        refine O.pu (U.fieldA rfl rfl rfl (.tmp rfl)) ?_
        refine O.pu (U.load (.tmp rfl) rfl rfl (U.cell rfl rfl rfl)) ?_
        refine O.pu (Pu.bin (.tmp rfl) (.tmp rfl) U.add64) ?_
        refine O.pu (Pu.bin (.tmp rfl) .int U.sub64) ?_
        refine O.pu (Pu.move (.tmp (v:=.int _ _) rfl)) ?_
        refine O.pu (Pu.bin (.tmp rfl) (.tmp rfl) U.add64) ?_
        refine O.pu (Pu.assign (.tmp (v:=.int _ _) rfl)) ?_
        refine O.nil ?_
        refine X.seq ?_
        refine X.seq ?_
        refine X.still ?_
        refine O.pu (Pu.move (.tmp (v:=.int _ _) rfl)) ?_
        refine O.pu (Pu.bin (.tmp rfl) .int .lss) ?_
        refine O.pu (Pu.move (.tmp (v:=.bool _) rfl)) ?_
        refine O.splitP (fun c=>?_) (fun c=>?_)
        · rw [if_pos c] at h
          refine G.skip (W.f rfl rfl rfl) ?_
          refine G.skip (W.f rfl rfl rfl) ?_
          refine G.skip (W.f rfl rfl rfl) ?_
          refine O.pu (Pu.pickT (.tmp rfl) .bool) ?_
          refine O.nil ?_
          refine X.condT (.tmp rfl) ?_
          refine X.seq ?_
          refine X.still ?_
          refine O.pu (Pu.build rfl .nil) ?_
          refine O.ef0 (U.storeE (.tmp rfl) rfl rfl (.tmp (v:=.agg _) rfl) rfl rfl (.whole (notBad_ne rfl) rfl) .one) ?_
          refine O.pu (Pu.assign .int) ?_
          refine O.nil ?_
          refine X.ret ?_
          cases h
          exact E.fin [] (.cell rfl rfl (Mode.live_ne rfl) (U.whole rfl rfl) (.tmp (v:=.int _ _) rfl .nil)) (.cons (.cl (.aggL (.cons .int (.cons .int (.cons .int .nil))))) (.cons (.cl .int) .nil))
        · rw [if_neg c] at h
          refine G.pu (W.t rfl rfl) (Pu.move (.tmp (v:=.int _ _) rfl)) ?_
          refine G.pu (W.t rfl rfl) (Pu.bin (.tmp rfl) .int (U.quo64 (by omega))) ?_
          refine G.pu (W.t rfl rfl) (Pu.bin (.tmp rfl) .int .gtr) ?_
          refine O.pu (Pu.pickF (.tmp rfl) (.tmp (v:=.bool _) rfl)) ?_
          refine O.nil ?_
          refine X.condP (.tmp rfl) (fun c=>?_) (fun c=>?_)
          · rw [if_pos c] at h
            refine X.seq ?_
            refine X.still ?_
            refine O.pu (Pu.build rfl .nil) ?_
            refine O.ef0 (U.storeE (.tmp rfl) rfl rfl (.tmp (v:=.agg _) rfl) rfl rfl (.whole (notBad_ne rfl) rfl) .one) ?_
            refine O.pu (Pu.assign .int) ?_
            refine O.nil ?_
            refine X.ret ?_
            cases h
            exact E.fin [] (.cell rfl rfl (Mode.live_ne rfl) (U.whole rfl rfl) (.tmp (v:=.int _ _) rfl .nil)) (.cons (.cl (.aggL (.cons .int (.cons .int (.cons .int .nil))))) (.cons (.cl .int) .nil))
          · rw [if_neg c] at h
            refine X.skip ?_
            refine X.seq ?_
            refine X.still ?_
            refine O.pu (Pu.move (.tmp (v:=.int _ _) rfl)) ?_
            refine O.pu (Pu.bin (.tmp rfl) .int (U.quo64 (by omega))) ?_
            refine O.pu (Pu.move (.tmp (v:=.int _ _) rfl)) ?_
            refine O.pu (Pu.bin (.tmp rfl) .int (.rem (by omega))) ?_
            refine O.pu (Pu.bin (.tmp rfl) .int U.add64) ?_
            refine O.pu (U.fieldA rfl rfl rfl (.tmp rfl)) ?_
            refine O.pu (U.load (.tmp rfl) rfl rfl (U.cell rfl rfl rfl)) ?_
            refine O.pu (Pu.build rfl (.cons (.tmp (v:=.int _ _) rfl) rfl rfl rfl (.put .done) (.cons (.tmp (v:=.int _ _) rfl) rfl rfl rfl (.skip (.put .done)) (.cons (.tmp (v:=.int _ _) rfl) rfl rfl rfl (.skip (.skip (.put .done))) .nil)))) ?_
            refine O.puE (v':=.op 8 (1) 0 0) (b':=⟨1, .own,(.vals [.agg [.int .i64 0, .int .i64 0, .int .i64 0]]),_⟩) Pu.alloc rfl rfl ?_
            refine O.ef0 (U.storeE (.tmp rfl) rfl rfl (.tmp (v:=.agg _) rfl) rfl rfl (.whole (notBad_ne rfl) rfl) .one) ?_
            refine O.nil ?_
            refine X.seq ?_
            refine X.drawn ?_
            refine D.pu (U.fieldA rfl rfl rfl (.tmp rfl)) ?_
            refine D.pu (U.load (.tmp rfl) rfl rfl (U.cell rfl rfl rfl)) ?_
            refine D.pu (U.fieldA rfl rfl rfl (.tmp rfl)) ?_
            refine D.pu (U.load (.tmp rfl) rfl rfl (U.cell rfl rfl rfl)) ?_
            refine D.pu (U.fieldA rfl rfl rfl (.tmp rfl)) ?_
            refine D.pu (U.load (.tmp rfl) rfl rfl (U.cell rfl rfl rfl)) ?_
            obtain ⟨q2,Hq2,h⟩:=Option.bind_eq_some_iff.1 h
            refine D.pu (U.call (ss:=[]) (.cons (.tmp (v:=.int _ _) rfl) (.cons (.tmp (v:=.int _ _) rfl) .nil)) (.cons (.cl .int) (.cons (.cl .int) .nil)) (date_Days.cs Hq2) (.inl rfl) (.int)) ?_
            refine D.pu (U.mn (.tmp rfl) (.tmp rfl)) ?_
            refine D.pu (U.fieldA rfl rfl rfl (.tmp rfl)) ?_
            refine D.ef0 (C.storeE (.tmp rfl) rfl rfl (.tmp (v:=.int _ _) rfl) rfl rfl (.part (.skip (.skip (.put .done)))) .one) ?_
            refine D.nil (by kernel_rfl) ?_
            refine X.seq ?_
            refine X.still ?_
            refine O.pu (U.load (.tmp rfl) rfl rfl (U.whole rfl rfl)) ?_
            refine O.ef0 (U.storeE (.tmp rfl) rfl rfl (.tmp (v:=.agg _) rfl) rfl rfl (.whole (notBad_ne rfl) rfl) .one) ?_
            refine O.pu (Pu.assign .int) ?_
            refine O.nil ?_
            refine X.ret ?_
            cases h
            exact E.fin [] (.cell rfl rfl (Mode.live_ne rfl) (U.whole rfl rfl) (.tmp (v:=.int _ _) rfl .nil)) (.cons (.cl (.aggL (.cons .int (.cons .int (.cons .int .nil))))) (.cons (.cl .int) .nil))
theorem chattellaw11_CountYears.j0_e {k y0 y1 y2 y3 r}:(chattellaw11_CountYears.j0 k y0 y1 y2 y3=some r) = ∃ j,k=j + 1∧chattellaw11_CountYears.j0 (j + 1) y0 y1 y2 y3=some r:=propext ⟨fun h=>by cases k with|zero=>(unfold chattellaw11_CountYears.j0 at h;cases h)|succ k=>exact ⟨k,rfl,h⟩,fun ⟨j,hj,h⟩=>by subst hj;exact h⟩
noncomputable def c5:Code:=Try.f5.body.getD .skip
theorem fn5:FnOk Try.prog 5 Try.f5 c5:=⟨Try.func5,rfl,by kernel_rfl,by kernel_rfl,mixed⟩
theorem chattellaw11_CountYears.cs {k:Nat} {a0_0:Int} {a0_1:Int} {a0_2:Int} {a1:Int} {r:Bool} (h:chattellaw11_CountYears.f k a0_0 a0_1 a0_2 a1=some r):CS Try.prog 5 [.agg [.int .i64 a0_0, .int .i64 a0_1, .int .i64 a0_2], .int .u8 a1] .no [.bool r]:=by
  unfold chattellaw11_CountYears.f at h
  refine E.pure fn5 rfl ?_
  refine X.seq ?_
  refine X.still ?_
  refine O.puE (v':=.op 2 (1) 0 0) (b':=⟨1, .own,_,_⟩) (Pu.box (.tmp (v:=.agg _) rfl) rfl rfl) rfl rfl ?_
  refine O.pu (Pu.assign .bool) ?_
  refine O.nil ?_
  refine X.seq ?_
  refine X.still ?_
  refine O.pu (U.load (.tmp rfl) rfl rfl (U.whole rfl rfl)) ?_
  obtain ⟨q1,Hq1,h⟩:=Option.bind_eq_some_iff.1 h
  refine O.pu (U.call (ss:=[]) (.cons (.tmp (v:=.agg _) rfl) (.cons .int .nil)) (.cons (.cl (.aggL (.cons .int (.cons .int (.cons .int .nil))))) (.cons (.cl .int) .nil)) (chattelref09_Make.cs Hq1) (.inl rfl) (.aggL (.cons .int (.cons .int (.cons .int .nil))))) ?_
  refine O.puE (v':=.op 5 (1) 0 0) (b':=⟨1, .own,(.vals [.agg [.int .i64 0, .int .i64 0, .int .i64 0]]),_⟩) Pu.alloc rfl rfl ?_
  refine O.ef0 (U.storeE (.tmp rfl) rfl rfl (.tmp (v:=.agg _) rfl) rfl rfl (.whole (notBad_ne rfl) rfl) .one) ?_
  refine O.nil ?_
  refine X.seq ?_
  refine X.still ?_
  refine O.pu (U.fieldA rfl rfl rfl (.tmp rfl)) ?_
  refine O.pu (U.load (.tmp rfl) rfl rfl (U.cell rfl rfl rfl)) ?_
  refine O.pu (Pu.build rfl (.cons (.tmp (v:=.int _ _) rfl) rfl rfl rfl (.put .done) (.cons .int rfl rfl rfl (.skip (.put .done)) (.cons .int rfl rfl rfl (.skip (.skip (.put .done))) .nil)))) ?_
  refine O.puE (v':=.op 6 (1) 0 0) (b':=⟨1, .own,(.vals [.agg [.int .i64 0, .int .i64 0, .int .i64 0]]),_⟩) Pu.alloc rfl rfl ?_
  refine O.ef0 (U.storeE (.tmp rfl) rfl rfl (.tmp (v:=.agg _) rfl) rfl rfl (.whole (notBad_ne rfl) rfl) .one) ?_
  refine O.nil ?_
  refine X.seq ?_
  refine X.still ?_
  refine O.pu (U.fieldA rfl rfl rfl (.tmp rfl)) ?_
  refine O.pu (U.load (.tmp rfl) rfl rfl (U.cell rfl rfl rfl)) ?_
  refine O.pu (Pu.move (.tmp (v:=.int _ _) rfl)) ?_
  refine O.pu (U.conv64 rfl (.tmp rfl)) ?_
  refine O.pu (Pu.bin (.tmp rfl) (.tmp rfl) U.add64) ?_
  refine O.pu (Pu.build rfl (.cons (.tmp (v:=.int _ _) rfl) rfl rfl rfl (.put .done) (.cons .int rfl rfl rfl (.skip (.put .done)) (.cons .int rfl rfl rfl (.skip (.skip (.put .done))) .nil)))) ?_
  refine O.puE (v':=.op 7 (1) 0 0) (b':=⟨1, .own,(.vals [.agg [.int .i64 0, .int .i64 0, .int .i64 0]]),_⟩) Pu.alloc rfl rfl ?_
  refine O.ef0 (U.storeE (.tmp rfl) rfl rfl (.tmp (v:=.agg _) rfl) rfl rfl (.whole (notBad_ne rfl) rfl) .one) ?_
  refine O.nil ?_
  refine X.seq ?_
  refine X.still ?_
  refine O.pu (U.load (.tmp rfl) rfl rfl (U.whole rfl rfl)) ?_
  refine O.pu (U.load (.tmp rfl) rfl rfl (U.whole rfl rfl)) ?_
  obtain ⟨q2,Hq2,h⟩:=Option.bind_eq_some_iff.1 h
  refine O.pu (U.call (ss:=[]) (.cons .int (.cons (.tmp (v:=.agg _) rfl) (.cons (.tmp (v:=.agg _) rfl) .nil))) (.cons (.cl .int) (.cons (.cl (.aggL (.cons .int (.cons .int (.cons .int .nil))))) (.cons (.cl (.aggL (.cons .int (.cons .int (.cons .int .nil))))) .nil))) (count_Year.cs Hq2) (.inl rfl) (.tupL (.cons (.aggL (.cons .fi (.cons .bool (.cons .fi .nil)))) (.cons .int .nil)))) ?_
  refine O.pu (Pu.move (.tmp (v:=.tup _) rfl)) ?_
  refine O.pu (Pu.extract (.tmp rfl) rfl) ?_
  refine O.pu (Pu.extract (.tmp rfl) rfl) ?_
  refine O.puE (v':=.op 8 (1) 0 0) (b':=⟨1, .own,(.vals [.agg [.fi .u64 [], .bool false, .fi .u64 []]]),_⟩) Pu.alloc rfl rfl ?_
  refine O.ef0 (U.storeE (.tmp rfl) rfl rfl (.tmp (v:=.agg _) rfl) rfl rfl (.whole (notBad_ne rfl) rfl) .one) ?_
  refine O.pu (Pu.assign (.tmp (v:=.int _ _) rfl)) ?_
  refine O.nil ?_
  refine X.seq ?_
  refine X.still ?_
  refine O.pu (U.load (.tmp rfl) rfl rfl (U.whole rfl rfl)) ?_
  refine O.pu (U.load (.tmp rfl) rfl rfl (U.whole rfl rfl)) ?_
  obtain ⟨q3,Hq3,h⟩:=Option.bind_eq_some_iff.1 h
  refine O.pu (U.call (ss:=[]) (.cons .int (.cons (.tmp (v:=.agg _) rfl) (.cons (.tmp (v:=.agg _) rfl) .nil))) (.cons (.cl .int) (.cons (.cl (.aggL (.cons .int (.cons .int (.cons .int .nil))))) (.cons (.cl (.aggL (.cons .int (.cons .int (.cons .int .nil))))) .nil))) (count_Year.cs Hq3) (.inl rfl) (.tupL (.cons (.aggL (.cons .fi (.cons .bool (.cons .fi .nil)))) (.cons .int .nil)))) ?_
  refine O.pu (Pu.move (.tmp (v:=.tup _) rfl)) ?_
  refine O.pu (Pu.extract (.tmp rfl) rfl) ?_
  refine O.pu (Pu.extract (.tmp rfl) rfl) ?_
  refine O.puE (v':=.op 10 (1) 0 0) (b':=⟨1, .own,(.vals [.agg [.fi .u64 [], .bool false, .fi .u64 []]]),_⟩) Pu.alloc rfl rfl ?_
  refine O.ef0 (U.storeE (.tmp rfl) rfl rfl (.tmp (v:=.agg _) rfl) rfl rfl (.whole (notBad_ne rfl) rfl) .one) ?_
  refine O.pu (Pu.assign (.tmp (v:=.int _ _) rfl)) ?_
  refine O.nil ?_
  refine X.seq ?_
  refine X.still ?_
  refine O.pu (U.load (.tmp rfl) rfl rfl (U.whole rfl rfl)) ?_
  obtain ⟨q4,Hq4,h⟩:=Option.bind_eq_some_iff.1 h
  refine O.pu (U.call (ss:=[]) (.cons (.tmp (v:=.agg _) rfl) (.cons .int .nil)) (.cons (.cl (.aggL (.cons .int (.cons .int (.cons .int .nil))))) (.cons (.cl .int) .nil)) (month_AddDays.cs Hq4) (.inl rfl) (.tupL (.cons (.aggL (.cons .int (.cons .int (.cons .int .nil)))) (.cons .int .nil)))) ?_
  refine O.pu (Pu.move (.tmp (v:=.tup _) rfl)) ?_
  refine O.pu (Pu.extract (.tmp rfl) rfl) ?_
  refine O.pu (Pu.extract (.tmp rfl) rfl) ?_
  refine O.puE (v':=.op 12 (1) 0 0) (b':=⟨1, .own,(.vals [.agg [.int .i64 0, .int .i64 0, .int .i64 0]]),_⟩) Pu.alloc rfl rfl ?_
  refine O.ef0 (U.storeE (.tmp rfl) rfl rfl (.tmp (v:=.agg _) rfl) rfl rfl (.whole (notBad_ne rfl) rfl) .one) ?_
  refine O.pu (Pu.assign (.tmp (v:=.int _ _) rfl)) ?_
  refine O.nil ?_
  refine X.seq ?_
  refine X.still ?_
  refine O.pu (U.load (.tmp rfl) rfl rfl (U.whole rfl rfl)) ?_
  refine O.pu (U.load (.tmp rfl) rfl rfl (U.whole rfl rfl)) ?_
  obtain ⟨q5,Hq5,h⟩:=Option.bind_eq_some_iff.1 h
  refine O.pu (U.call (ss:=[]) (.cons .int (.cons (.tmp (v:=.agg _) rfl) (.cons (.tmp (v:=.agg _) rfl) .nil))) (.cons (.cl .int) (.cons (.cl (.aggL (.cons .int (.cons .int (.cons .int .nil))))) (.cons (.cl (.aggL (.cons .int (.cons .int (.cons .int .nil))))) .nil))) (count_Year.cs Hq5) (.inl rfl) (.tupL (.cons (.aggL (.cons .fi (.cons .bool (.cons .fi .nil)))) (.cons .int .nil)))) ?_
  refine O.pu (Pu.move (.tmp (v:=.tup _) rfl)) ?_
  refine O.pu (Pu.extract (.tmp rfl) rfl) ?_
  refine O.pu (Pu.extract (.tmp rfl) rfl) ?_
  refine O.puE (v':=.op 14 (1) 0 0) (b':=⟨1, .own,(.vals [.agg [.fi .u64 [], .bool false, .fi .u64 []]]),_⟩) Pu.alloc rfl rfl ?_
  refine O.ef0 (U.storeE (.tmp rfl) rfl rfl (.tmp (v:=.agg _) rfl) rfl rfl (.whole (notBad_ne rfl) rfl) .one) ?_
  refine O.pu (Pu.assign (.tmp (v:=.int _ _) rfl)) ?_
  refine O.nil ?_
  refine X.seq ?_
  refine X.seq ?_
  refine X.still ?_
  refine O.pu (Pu.move (.tmp (v:=.int _ _) rfl)) ?_
  refine O.pu (Pu.bin (.tmp rfl) .int .neq) ?_
  refine O.pu (Pu.move (.tmp (v:=.bool _) rfl)) ?_
  refine O.splitN (fun c=>?_) (fun c=>?_)
  · rw [if_neg c] at h
    refine G.skip (W.f rfl rfl rfl) ?_
    refine G.skip (W.f rfl rfl rfl) ?_
    refine O.pu (Pu.pickT (.tmp rfl) .bool) ?_
    refine O.pu (Pu.move (.tmp (v:=.bool _) rfl)) ?_
    refine G.skip (W.f rfl rfl rfl) ?_
    refine G.skip (W.f rfl rfl rfl) ?_
    refine O.pu (Pu.pickT (.tmp rfl) .bool) ?_
    refine O.pu (Pu.move (.tmp (v:=.bool _) rfl)) ?_
    refine G.skip (W.f rfl rfl rfl) ?_
    refine G.skip (W.f rfl rfl rfl) ?_
    refine G.skip (W.f rfl rfl rfl) ?_
    refine G.skip (W.f rfl rfl rfl) ?_
    refine G.skip (W.f rfl rfl rfl) ?_
    refine G.skip (W.f rfl rfl rfl) ?_
    refine G.skip (W.f rfl rfl rfl) ?_
    refine O.pu (Pu.pickT (.tmp rfl) .bool) ?_
    refine O.pu (Pu.move (.tmp (v:=.bool _) rfl)) ?_
    refine G.skip (W.f rfl rfl rfl) ?_
    refine G.skip (W.f rfl rfl rfl) ?_
    refine G.skip (W.f rfl rfl rfl) ?_
    refine G.skip (W.f rfl rfl rfl) ?_
    refine O.pu (Pu.pickT (.tmp rfl) .bool) ?_
    refine O.pu (Pu.move (.tmp (v:=.bool _) rfl)) ?_
    refine G.skip (W.f rfl rfl rfl) ?_
    refine G.skip (W.f rfl rfl rfl) ?_
    refine G.skip (W.f rfl rfl rfl) ?_
    refine O.pu (Pu.pickT (.tmp rfl) .bool) ?_
    refine O.nil ?_
    repeat (rw [chattellaw11_CountYears.j0_e] at h;obtain ⟨k,_,h⟩:=h;unfold chattellaw11_CountYears.j0 at h;try dsimp only at h)
    rw [if_pos rfl] at h
    refine X.condT (.tmp rfl) ?_
    refine X.seq ?_
    refine X.still ?_
    refine O.pu (Pu.assign .bool) ?_
    refine O.nil ?_
    refine X.ret ?_
    cases h
    exact E.fin [] (.tmp (v:=.bool _) rfl .nil) (.cons (.cl .bool) .nil)
  · rw [if_pos c] at h
    refine G.pu (W.t rfl rfl) (Pu.move (.tmp (v:=.int _ _) rfl)) ?_
    refine G.pu (W.t rfl rfl) (Pu.bin (.tmp rfl) .int .neq) ?_
    refine O.pu (Pu.pickF (.tmp rfl) (.tmp (v:=.bool _) rfl)) ?_
    refine O.pu (Pu.move (.tmp (v:=.bool _) rfl)) ?_
    refine O.splitN (fun c=>?_) (fun c=>?_)
    · rw [if_neg c] at h
      refine G.skip (W.f rfl rfl rfl) ?_
      refine G.skip (W.f rfl rfl rfl) ?_
      refine O.pu (Pu.pickT (.tmp rfl) .bool) ?_
      refine O.pu (Pu.move (.tmp (v:=.bool _) rfl)) ?_
      refine G.skip (W.f rfl rfl rfl) ?_
      refine G.skip (W.f rfl rfl rfl) ?_
      refine G.skip (W.f rfl rfl rfl) ?_
      refine G.skip (W.f rfl rfl rfl) ?_
      refine G.skip (W.f rfl rfl rfl) ?_
      refine G.skip (W.f rfl rfl rfl) ?_
      refine G.skip (W.f rfl rfl rfl) ?_
      refine O.pu (Pu.pickT (.tmp rfl) .bool) ?_
      refine O.pu (Pu.move (.tmp (v:=.bool _) rfl)) ?_
      refine G.skip (W.f rfl rfl rfl) ?_
      refine G.skip (W.f rfl rfl rfl) ?_
      refine G.skip (W.f rfl rfl rfl) ?_
      refine G.skip (W.f rfl rfl rfl) ?_
      refine O.pu (Pu.pickT (.tmp rfl) .bool) ?_
      refine O.pu (Pu.move (.tmp (v:=.bool _) rfl)) ?_
      refine G.skip (W.f rfl rfl rfl) ?_
      refine G.skip (W.f rfl rfl rfl) ?_
      refine G.skip (W.f rfl rfl rfl) ?_
      refine O.pu (Pu.pickT (.tmp rfl) .bool) ?_
      refine O.nil ?_
      repeat (rw [chattellaw11_CountYears.j0_e] at h;obtain ⟨k,_,h⟩:=h;unfold chattellaw11_CountYears.j0 at h;try dsimp only at h)
      rw [if_pos rfl] at h
      refine X.condT (.tmp rfl) ?_
      refine X.seq ?_
      refine X.still ?_
      refine O.pu (Pu.assign .bool) ?_
      refine O.nil ?_
      refine X.ret ?_
      cases h
      exact E.fin [] (.tmp (v:=.bool _) rfl .nil) (.cons (.cl .bool) .nil)
    · rw [if_pos c] at h
      refine G.pu (W.t rfl rfl) (Pu.move (.tmp (v:=.int _ _) rfl)) ?_
      refine G.pu (W.t rfl rfl) (Pu.bin (.tmp rfl) .int .neq) ?_
      refine O.pu (Pu.pickF (.tmp rfl) (.tmp (v:=.bool _) rfl)) ?_
      refine O.pu (Pu.move (.tmp (v:=.bool _) rfl)) ?_
      refine O.splitN (fun c=>?_) (fun c=>?_)
      · rw [if_neg c] at h
        refine G.skip (W.f rfl rfl rfl) ?_
        refine G.skip (W.f rfl rfl rfl) ?_
        refine G.skip (W.f rfl rfl rfl) ?_
        refine G.skip (W.f rfl rfl rfl) ?_
        refine G.skip (W.f rfl rfl rfl) ?_
        refine G.skip (W.f rfl rfl rfl) ?_
        refine G.skip (W.f rfl rfl rfl) ?_
        refine O.pu (Pu.pickT (.tmp rfl) .bool) ?_
        refine O.pu (Pu.move (.tmp (v:=.bool _) rfl)) ?_
        refine G.skip (W.f rfl rfl rfl) ?_
        refine G.skip (W.f rfl rfl rfl) ?_
        refine G.skip (W.f rfl rfl rfl) ?_
        refine G.skip (W.f rfl rfl rfl) ?_
        refine O.pu (Pu.pickT (.tmp rfl) .bool) ?_
        refine O.pu (Pu.move (.tmp (v:=.bool _) rfl)) ?_
        refine G.skip (W.f rfl rfl rfl) ?_
        refine G.skip (W.f rfl rfl rfl) ?_
        refine G.skip (W.f rfl rfl rfl) ?_
        refine O.pu (Pu.pickT (.tmp rfl) .bool) ?_
        refine O.nil ?_
        repeat (rw [chattellaw11_CountYears.j0_e] at h;obtain ⟨k,_,h⟩:=h;unfold chattellaw11_CountYears.j0 at h;try dsimp only at h)
        rw [if_pos rfl] at h
        refine X.condT (.tmp rfl) ?_
        refine X.seq ?_
        refine X.still ?_
        refine O.pu (Pu.assign .bool) ?_
        refine O.nil ?_
        refine X.ret ?_
        cases h
        exact E.fin [] (.tmp (v:=.bool _) rfl .nil) (.cons (.cl .bool) .nil)
      · rw [if_pos c] at h
        refine G.pu (W.t rfl rfl) (U.load (.tmp rfl) rfl rfl (U.whole rfl rfl)) ?_
        obtain ⟨q6,Hq6,h⟩:=Option.bind_eq_some_iff.1 h
        refine G.pu (W.t rfl rfl) (U.call (ss:=[]) (.cons (.tmp (v:=.agg _) rfl) .nil) (.cons (.cl (.aggL (.cons .fi (.cons .bool (.cons .fi .nil))))) .nil) (frac_Frac_Print.cs Hq6) (.inl rfl) (.str)) ?_
        refine G.pu (W.t rfl rfl) (Pu.move (.tmp (v:=.int _ _) rfl)) ?_
        refine G.pu (W.t rfl rfl) (U.conv64 rfl (.tmp rfl)) ?_
        obtain ⟨q7,Hq7,h⟩:=Option.bind_eq_some_iff.1 h
        refine G.pu (W.t rfl rfl) (U.call (ss:=[]) (.cons (.tmp (v:=.int _ _) rfl) (.cons .int .nil)) (.cons (.cl .int) (.cons (.cl .int) .nil)) (chattelref05_Small.cs Hq7) (.inl rfl) (.aggL (.cons .fi (.cons .bool (.cons .fi .nil))))) ?_
        obtain ⟨q8,Hq8,h⟩:=Option.bind_eq_some_iff.1 h
        refine G.pu (W.t rfl rfl) (U.call (ss:=[]) (.cons (.tmp (v:=.agg _) rfl) .nil) (.cons (.cl (.aggL (.cons .fi (.cons .bool (.cons .fi .nil))))) .nil) (chattelref05_Print.cs Hq8) (.inl rfl) (.str)) ?_
        refine G.pu (W.t rfl rfl) (Pu.bin (.tmp rfl) (.tmp rfl) .sneq) ?_
        refine O.pu (Pu.pickF (.tmp rfl) (.tmp (v:=.bool _) rfl)) ?_
        refine O.pu (Pu.move (.tmp (v:=.bool _) rfl)) ?_
        refine O.splitSN rfl (fun c=>?_) (fun c=>?_)
        · rw [if_neg c] at h
          refine G.skip (W.f rfl rfl rfl) ?_
          refine G.skip (W.f rfl rfl rfl) ?_
          refine G.skip (W.f rfl rfl rfl) ?_
          refine G.skip (W.f rfl rfl rfl) ?_
          refine O.pu (Pu.pickT (.tmp rfl) .bool) ?_
          refine O.pu (Pu.move (.tmp (v:=.bool _) rfl)) ?_
          refine G.skip (W.f rfl rfl rfl) ?_
          refine G.skip (W.f rfl rfl rfl) ?_
          refine G.skip (W.f rfl rfl rfl) ?_
          refine O.pu (Pu.pickT (.tmp rfl) .bool) ?_
          refine O.nil ?_
          repeat (rw [chattellaw11_CountYears.j0_e] at h;obtain ⟨k,_,h⟩:=h;unfold chattellaw11_CountYears.j0 at h;try dsimp only at h)
          rw [if_pos rfl] at h
          refine X.condT (.tmp rfl) ?_
          refine X.seq ?_
          refine X.still ?_
          refine O.pu (Pu.assign .bool) ?_
          refine O.nil ?_
          refine X.ret ?_
          cases h
          exact E.fin [] (.tmp (v:=.bool _) rfl .nil) (.cons (.cl .bool) .nil)
        · rw [if_pos c] at h
          refine G.pu (W.t rfl rfl) (U.load (.tmp rfl) rfl rfl (U.whole rfl rfl)) ?_
          refine G.pu (W.t rfl rfl) (U.load (.tmp rfl) rfl rfl (U.whole rfl rfl)) ?_
          obtain ⟨q9,Hq9,h⟩:=Option.bind_eq_some_iff.1 h
          refine G.pu (W.t rfl rfl) (U.call (ss:=[]) (.cons (.tmp (v:=.agg _) rfl) (.cons (.tmp (v:=.agg _) rfl) .nil)) (.cons (.cl (.aggL (.cons .fi (.cons .bool (.cons .fi .nil))))) (.cons (.cl (.aggL (.cons .fi (.cons .bool (.cons .fi .nil))))) .nil)) (frac_Frac_Cmp.cs Hq9) (.inl rfl) (.int)) ?_
          refine G.pu (W.t rfl rfl) (Pu.bin (.tmp rfl) .int .neq) ?_
          refine O.pu (Pu.pickF (.tmp rfl) (.tmp (v:=.bool _) rfl)) ?_
          refine O.pu (Pu.move (.tmp (v:=.bool _) rfl)) ?_
          refine O.splitN (fun c=>?_) (fun c=>?_)
          · rw [if_neg c] at h
            refine G.skip (W.f rfl rfl rfl) ?_
            refine G.skip (W.f rfl rfl rfl) ?_
            refine G.skip (W.f rfl rfl rfl) ?_
            refine O.pu (Pu.pickT (.tmp rfl) .bool) ?_
            refine O.nil ?_
            repeat (rw [chattellaw11_CountYears.j0_e] at h;obtain ⟨k,_,h⟩:=h;unfold chattellaw11_CountYears.j0 at h;try dsimp only at h)
            rw [if_pos rfl] at h
            refine X.condT (.tmp rfl) ?_
            refine X.seq ?_
            refine X.still ?_
            refine O.pu (Pu.assign .bool) ?_
            refine O.nil ?_
            refine X.ret ?_
            cases h
            exact E.fin [] (.tmp (v:=.bool _) rfl .nil) (.cons (.cl .bool) .nil)
          · rw [if_pos c] at h
            refine G.pu (W.t rfl rfl) (U.load (.tmp rfl) rfl rfl (U.whole rfl rfl)) ?_
            obtain ⟨q10,Hq10,h⟩:=Option.bind_eq_some_iff.1 h
            refine G.pu (W.t rfl rfl) (U.call (ss:=[]) (.cons (.tmp (v:=.agg _) rfl) .nil) (.cons (.cl (.aggL (.cons .fi (.cons .bool (.cons .fi .nil))))) .nil) (frac_Frac_Print.cs Hq10) (.inl rfl) (.str)) ?_
            refine G.pu (W.t rfl rfl) (Pu.bin (.tmp rfl) .str .sneq) ?_
            refine O.pu (Pu.pickF (.tmp rfl) (.tmp (v:=.bool _) rfl)) ?_
            refine O.nil ?_
            repeat (rw [chattellaw11_CountYears.j0_e] at h;obtain ⟨k,_,h⟩:=h;unfold chattellaw11_CountYears.j0 at h;try dsimp only at h)
            refine X.condSN (l:=[49,47,51,54,53]) (.tmp rfl) (by kernel_rfl) (fun c=>?_) (fun c=>?_)
            · rw [if_pos (ne1 c)] at h
              refine X.seq ?_
              refine X.still ?_
              refine O.pu (Pu.assign .bool) ?_
              refine O.nil ?_
              refine X.ret ?_
              cases h
              exact E.fin [] (.tmp (v:=.bool _) rfl .nil) (.cons (.cl .bool) .nil)
            · rw [if_neg (ne0 c)] at h
              refine X.skip ?_
              refine X.seq ?_
              refine X.still ?_
              refine O.pu (U.fieldA rfl rfl rfl (.tmp rfl)) ?_
              refine O.pu (U.load (.tmp rfl) rfl rfl (U.cell rfl rfl rfl)) ?_
              refine O.pu (U.mn (.tmp rfl) .int) ?_
              refine O.pu (U.fieldA rfl rfl rfl (.tmp rfl)) ?_
              refine O.ef0 (U.storeE (.tmp rfl) rfl rfl (.tmp (v:=.int _ _) rfl) rfl rfl (.part (.skip (.skip (.put .done)))) .one) ?_
              refine O.nil ?_
              refine X.seq ?_
              refine X.still ?_
              refine O.pu (U.load (.tmp rfl) rfl rfl (U.whole rfl rfl)) ?_
              obtain ⟨q11,Hq11,h⟩:=Option.bind_eq_some_iff.1 h
              refine O.pu (U.call (ss:=[]) (.cons (.tmp (v:=.agg _) rfl) (.cons .int .nil)) (.cons (.cl (.aggL (.cons .int (.cons .int (.cons .int .nil))))) (.cons (.cl .int) .nil)) (month_Add.cs Hq11) (.inl rfl) (.tupL (.cons (.aggL (.cons .int (.cons .int (.cons .int .nil)))) (.cons .int .nil)))) ?_
              refine O.pu (Pu.move (.tmp (v:=.tup _) rfl)) ?_
              refine O.pu (Pu.extract (.tmp rfl) rfl) ?_
              refine O.pu (Pu.extract (.tmp rfl) rfl) ?_
              refine O.puE (v':=.op 16 (1) 0 0) (b':=⟨1, .own,(.vals [.agg [.int .i64 0, .int .i64 0, .int .i64 0]]),_⟩) Pu.alloc rfl rfl ?_
              refine O.ef0 (U.storeE (.tmp rfl) rfl rfl (.tmp (v:=.agg _) rfl) rfl rfl (.whole (notBad_ne rfl) rfl) .one) ?_
              refine O.pu (Pu.assign (.tmp (v:=.int _ _) rfl)) ?_
              refine O.nil ?_
              refine X.seq ?_
              refine X.still ?_
              refine O.pu (U.load (.tmp rfl) rfl rfl (U.whole rfl rfl)) ?_
              refine O.pu (U.load (.tmp rfl) rfl rfl (U.whole rfl rfl)) ?_
              obtain ⟨q12,Hq12,h⟩:=Option.bind_eq_some_iff.1 h
              refine O.pu (U.call (ss:=[]) (.cons .int (.cons (.tmp (v:=.agg _) rfl) (.cons (.tmp (v:=.agg _) rfl) .nil))) (.cons (.cl .int) (.cons (.cl (.aggL (.cons .int (.cons .int (.cons .int .nil))))) (.cons (.cl (.aggL (.cons .int (.cons .int (.cons .int .nil))))) .nil))) (count_Year.cs Hq12) (.inl rfl) (.tupL (.cons (.aggL (.cons .fi (.cons .bool (.cons .fi .nil)))) (.cons .int .nil)))) ?_
              refine O.pu (Pu.move (.tmp (v:=.tup _) rfl)) ?_
              refine O.pu (Pu.extract (.tmp rfl) rfl) ?_
              refine O.pu (Pu.extract (.tmp rfl) rfl) ?_
              refine O.puE (v':=.op 18 (1) 0 0) (b':=⟨1, .own,(.vals [.agg [.fi .u64 [], .bool false, .fi .u64 []]]),_⟩) Pu.alloc rfl rfl ?_
              refine O.ef0 (U.storeE (.tmp rfl) rfl rfl (.tmp (v:=.agg _) rfl) rfl rfl (.whole (notBad_ne rfl) rfl) .one) ?_
              refine O.pu (Pu.assign (.tmp (v:=.int _ _) rfl)) ?_
              refine O.nil ?_
              refine X.seq ?_
              refine X.still ?_
              obtain ⟨q13,Hq13,h⟩:=Option.bind_eq_some_iff.1 h
              refine O.pu (U.call (ss:=[]) .nil .nil (chattellaw11_wakes.cs Hq13) (.inl rfl) (.bool)) ?_
              refine O.pu (Pu.move (.tmp (v:=.bool _) rfl)) ?_
              refine O.split (fun c=>?_) (fun c=>?_)
              · rw [if_pos c] at h
                refine G.pu (W.t rfl rfl) (Pu.move (.tmp (v:=.int _ _) rfl)) ?_
                refine G.pu (W.t rfl rfl) (Pu.bin (.tmp rfl) .int .eql) ?_
                refine O.pu (Pu.pickT (.tmp rfl) (.tmp (v:=.bool _) rfl)) ?_
                refine O.pu (Pu.move (.tmp (v:=.bool _) rfl)) ?_
                refine O.splitE (fun c=>?_) (fun c=>?_)
                · rw [if_pos c] at h
                  refine G.pu (W.t rfl rfl) (U.load (.tmp rfl) rfl rfl (U.whole rfl rfl)) ?_
                  obtain ⟨q14,Hq14,h⟩:=Option.bind_eq_some_iff.1 h
                  refine G.pu (W.t rfl rfl) (U.call (ss:=[]) (.cons (.tmp (v:=.agg _) rfl) .nil) (.cons (.cl (.aggL (.cons .fi (.cons .bool (.cons .fi .nil))))) .nil) (frac_Frac_Print.cs Hq14) (.inl rfl) (.str)) ?_
                  refine G.pu (W.t rfl rfl) (Pu.bin (.tmp rfl) .str .seql) ?_
                  refine O.pu (Pu.pickT (.tmp rfl) (.tmp (v:=.bool _) rfl)) ?_
                  refine O.pu (Pu.move (.tmp (v:=.bool _) rfl)) ?_
                  refine O.splitS (l:=[49,47,49,50]) (by kernel_rfl) (fun c=>?_) (fun c=>?_)
                  · rw [if_pos c] at h
                    refine G.pu (W.t rfl rfl) (U.load (.tmp rfl) rfl rfl (U.whole rfl rfl)) ?_
                    obtain ⟨q15,Hq15,h⟩:=Option.bind_eq_some_iff.1 h
                    refine G.pu (W.t rfl rfl) (U.call (ss:=[]) (.cons (.tmp (v:=.agg _) rfl) .nil) (.cons (.cl (.aggL (.cons .int (.cons .int (.cons .int .nil))))) .nil) (date_Check.cs Hq15) (.inl rfl) (.int)) ?_
                    refine G.pu (W.t rfl rfl) (Pu.bin (.tmp rfl) .int .eql) ?_
                    refine O.pu (Pu.pickT (.tmp rfl) (.tmp (v:=.bool _) rfl)) ?_
                    refine O.pu (Pu.assign (.tmp (v:=.bool _) rfl)) ?_
                    refine O.nil ?_
                    refine X.ret ?_
                    cases h
                    exact E.fin [] (.tmp (v:=.bool _) rfl .nil) (.cons (.cl .bool) .nil)
                  · rw [if_neg c] at h
                    refine G.skip (W.f rfl rfl rfl) ?_
                    refine G.skip (W.f rfl rfl rfl) ?_
                    refine G.skip (W.f rfl rfl rfl) ?_
                    refine O.pu (Pu.pickF (.tmp rfl) .bool) ?_
                    refine O.pu (Pu.assign (.tmp (v:=.bool _) rfl)) ?_
                    refine O.nil ?_
                    refine X.ret ?_
                    cases h
                    exact E.fin [] (.tmp (v:=.bool _) rfl .nil) (.cons (.cl .bool) .nil)
                · rw [if_neg c] at h
                  refine G.skip (W.f rfl rfl rfl) ?_
                  refine G.skip (W.f rfl rfl rfl) ?_
                  refine G.skip (W.f rfl rfl rfl) ?_
                  refine O.pu (Pu.pickF (.tmp rfl) .bool) ?_
                  refine O.pu (Pu.move (.tmp (v:=.bool _) rfl)) ?_
                  refine G.skip (W.f rfl rfl rfl) ?_
                  refine G.skip (W.f rfl rfl rfl) ?_
                  refine G.skip (W.f rfl rfl rfl) ?_
                  refine O.pu (Pu.pickF (.tmp rfl) .bool) ?_
                  refine O.pu (Pu.assign (.tmp (v:=.bool _) rfl)) ?_
                  refine O.nil ?_
                  refine X.ret ?_
                  cases h
                  exact E.fin [] (.tmp (v:=.bool _) rfl .nil) (.cons (.cl .bool) .nil)
              · rw [if_neg (bf c)] at h
                refine G.skip (W.f rfl rfl rfl) ?_
                refine G.skip (W.f rfl rfl rfl) ?_
                refine O.pu (Pu.pickF (.tmp rfl) .bool) ?_
                refine O.pu (Pu.move (.tmp (v:=.bool _) rfl)) ?_
                refine G.skip (W.f rfl rfl rfl) ?_
                refine G.skip (W.f rfl rfl rfl) ?_
                refine G.skip (W.f rfl rfl rfl) ?_
                refine O.pu (Pu.pickF (.tmp rfl) .bool) ?_
                refine O.pu (Pu.move (.tmp (v:=.bool _) rfl)) ?_
                refine G.skip (W.f rfl rfl rfl) ?_
                refine G.skip (W.f rfl rfl rfl) ?_
                refine G.skip (W.f rfl rfl rfl) ?_
                refine O.pu (Pu.pickF (.tmp rfl) .bool) ?_
                refine O.pu (Pu.assign (.tmp (v:=.bool _) rfl)) ?_
                refine O.nil ?_
                refine X.ret ?_
                cases h
                exact E.fin [] (.tmp (v:=.bool _) rfl .nil) (.cons (.cl .bool) .nil)
end Go.Proofs.Ytelfpflfikaloaa
end
