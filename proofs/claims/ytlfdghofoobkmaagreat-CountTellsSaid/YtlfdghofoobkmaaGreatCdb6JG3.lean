-- Joined of: G98 G70 G42 G61 G87 G75 G88 G60 G37 G38 G19 G18 G89 G63 G39 G20 G40 G48 G26 G90 G67 G64 G65 G66 G41 G21 G5 G6 G8 V25 K32T K76 G25 G24 G9 G28 G27 G10 G76 G77 G49 G83 G84 G53 G81
import Derived.Test.YtlfdghofoobkmaaGreatCdb6JG2
import Derived.Test.YtlfdghofoobkmaaGreatCdb6B
section
namespace Go.Proofs.YtlfdghofoobkmaaGreat
open Go.AVL Go.RowKit Go.Proofs.YtlfdghofoobkmaaGreat.F Go.Proofs.YtlfdghofoobkmaaGreatX Go.Proofs.YtlfdghofoobkmaaGreatW.PrintWords Go.Proofs.YtlfdghofoobkmaaGreatW.PrintLast Go.Proofs.YtlfdghofoobkmaaGreatW.PrintMore
set_option linter.unusedVariables false
set_option linter.unusedSimpArgs false
set_option maxRecDepth 100000
set_option maxHeartbeats 4000000
noncomputable def c98:Code:=Tryz.f98.body.getD .skip
theorem fn98:FnOk Tryz.prog 98 Tryz.f98 c98:=⟨Tryz.func98,rfl,by kernel_rfl,by kernel_rfl,mixed⟩
theorem quot_Shr.cs {k:Nat} {l0_0:List Int} {a1:Int} {r:List Int×Int} (h:quot_Shr.f k l0_0 a1=some r):CS Tryz.prog 98 [.agg [.fi .u64 l0_0], .int .i64 a1] .no [.agg [.fi .u64 r.1], .int .i64 r.2]:=by
  unfold quot_Shr.f at h
  refine E.pure fn98 rfl ?_
  refine X.seq ?_
  refine X.still ?_
  refine O.puE (v':=.op 2 (1) 0 0) (b':=⟨1, .own,_,_⟩) (Pu.box (.tmp (v:=.agg _) rfl) rfl rfl) rfl rfl ?_
  refine O.puE (v':=.op 4 (1) 0 0) (b':=⟨1, .own,(.vals [.agg [.fi .u64 []]]),_⟩) Pu.alloc rfl rfl ?_
  refine O.pu (Pu.assign .int) ?_
  refine O.nil ?_
  refine X.seq ?_
  refine X.seq ?_
  refine X.still ?_
  refine O.pu (Pu.move (.tmp (v:=.int _ _) rfl)) ?_
  obtain ⟨q1,Hq1,h⟩:=Option.bind_eq_some_iff.1 h
  refine O.pu (U.call (ss:=[]) (.cons (.tmp (v:=.int _ _) rfl) .nil) (.cons (.cl .int) .nil) (quot_wrong.cs Hq1) (.inl rfl) (.bool)) ?_
  refine O.nil ?_
  refine X.cond (.tmp rfl) (fun c=>?_) (fun c=>?_)
  · rw [if_pos c] at h
    refine X.seq ?_
    refine X.still ?_
    refine O.pu (Pu.build rfl .nil) ?_
    refine O.ef0 (U.storeE (.tmp rfl) rfl rfl (.tmp (v:=.agg _) rfl) rfl rfl (.whole (notBad_ne rfl) rfl) .one) ?_
    refine O.pu (Pu.assign .int) ?_
    refine O.nil ?_
    refine X.ret ?_
    cases h
    exact E.fin [] (.cell rfl rfl (Mode.live_ne rfl) (U.whole rfl rfl) (.tmp (v:=.int _ _) rfl .nil)) (.cons (.cl (.aggL (.cons .fi .nil))) (.cons (.cl .int) .nil))
  · rw [if_neg (bf c)] at h
    refine X.skip ?_
    refine X.seq ?_
    refine X.still ?_
    refine O.pu (U.load (.tmp rfl) rfl rfl (U.whole rfl rfl)) ?_
    obtain ⟨q2,Hq2,h⟩:=Option.bind_eq_some_iff.1 h
    refine O.puE (v':=.os 13 (1) 0 _ true) (b':=⟨1, .own,_,_⟩) (U.callF (ss:=[]) (.cons (.tmp (v:=.agg _) rfl) .nil) (.cons (.cl (.aggL (.cons .fi .nil))) .nil) (nat_Nat_Limbs.cs Hq2)) rfl rfl ?_
    refine O.pu (Pu.assign (.tmp (v:=.os _ _ _ _ _) rfl)) ?_
    refine O.nil ?_
    refine X.seq ?_
    refine X.still ?_
    refine O.pu (Pu.move (.tmp (v:=.os _ _ _ _ _) rfl)) ?_
    refine O.pu (Pu.move (.tmp (v:=.int _ _) rfl)) ?_
    repeat first|(rw [giff] at h;obtain ⟨_,h⟩:=h)|rw [bdff] at h
    refine O.pu (Pu.bin (.tmp rfl) .int (U.quo64 (by omega))) ?_
    refine O.pu (Pu.move (.tmp (v:=.os _ _ _ _ _) rfl)) ?_
    refine O.pu (Pu.lenO rfl (.tmp rfl)) ?_
    refine O.pu (U.mn (.tmp rfl) (.tmp rfl)) ?_
    refine O.pu (U.sliceO0 rfl (.tmp rfl) rfl rfl ⟨rfl,rfl⟩ (.yes (.tmp rfl) (by omega)) .no .no (by omega) (by omega)) ?_
    refine O.ef (U.cutL (u':=1) (.tmp rfl) rfl (List.take_of_length_le (by simp only [List.length_drop];omega)) (by simp only [List.length_drop,List.length_take] <;> omega) rfl) ?_
    refine O.nil ?_
    refine X.seq ?_
    refine X.still ?_
    refine O.pu (Pu.move (.tmp (v:=.int _ _) rfl)) ?_
    refine O.pu (Pu.bin (.tmp rfl) .int (.rem (by omega))) ?_
    refine O.pu (U.convI rfl (.tmp rfl)) ?_
    refine O.pu (Pu.assign (.tmp (v:=.int _ _) rfl)) ?_
    refine O.nil ?_
    refine X.seq ?_
    refine X.seq ?_
    refine X.still ?_
    refine O.pu (Pu.move (.tmp (v:=.os _ _ _ _ _) rfl)) ?_
    refine O.pu (Pu.lenO rfl (.tmp rfl)) ?_
    refine O.pu (Pu.move .int) ?_
    refine O.nil ?_
    refine X.block ?_
    refine X.inv (fun k s=>∃ x6 x7 x25 x26 n6 u2 u4 u6 z2_0,s.b 6=⟨u6, .own, .ints .u64 x6,75⟩∧s.t 6 = .os 6 u6 0 n6 false∧x6.length=n6∧s.t 7 = .int .u64 x7∧s.t 25 = .int .i64 x25∧s.t 26 = .int .i64 x26∧s.t 2 = .op 2 u2 0 0∧s.b 2=⟨u2, .own, .vals [.agg [.fi .u64 z2_0]],29⟩∧s.t 4 = .op 4 u4 0 0∧s.b 4=⟨u4, .own, .vals [.agg [.fi .u64 []]],29⟩∧quot_Shr.l0 k x6 x7 x25 x26=some r) ?_ ?_ ⟨_,_,_,_,_,_,_,_,_,rfl,rfl,rfl,rfl,rfl,rfl,rfl,rfl,rfl,rfl,h⟩
    · rintro s ⟨_,_,_,_,_,_,_,_,_,_,_,_,_,_,_,_,_,_,_,h⟩;unfold quot_Shr.l0 at h;cases h
    · rintro k1 s1 ⟨x6,x7,x25,x26,n6,u2,u4,u6,z2_0,e0,e1,rfl,e3,e4,e5,e6,e7,e8,e9,h⟩
      unfold quot_Shr.l0 at h
      rw [St.fixB e0,St.fixT e1,St.fixT e3,St.fixT e4,St.fixT e5,St.fixT e6,St.fixB e7,St.fixT e8,St.fixB e9]
      refine X.seq ?_
      refine X.still ?_
      refine O.pu (Pu.bin (.tmp rfl) (.tmp rfl) .lss) ?_
      refine O.nil ?_
      refine X.seq ?_
      refine X.condP (.tmp rfl) (fun c=>?_) (fun c=>?_)
      · rw [if_pos c] at h
        refine X.skip ?_
        refine X.seq ?_
        refine X.block ?_
        refine X.seq ?_
        refine X.still ?_
        refine O.pu (Pu.move (.tmp (v:=.int _ _) rfl)) ?_
        refine O.pu (Pu.assign (.tmp (v:=.int _ _) rfl)) ?_
        refine O.nil ?_
        refine X.seq ?_
        refine X.still ?_
        refine O.pu (Pu.move (.tmp (v:=.os _ _ _ _ _) rfl)) ?_
        refine O.pu (Pu.move (.tmp (v:=.int _ _) rfl)) ?_
        repeat first|(rw [giff] at h;obtain ⟨_,h⟩:=h)|rw [bdff] at h
        refine O.pu (U.indexO0 rfl (.tmp rfl) rfl rfl (.tmp rfl) (by first|omega|(simp only [List.length_set] at *;omega)) (by first|omega|(simp only [List.length_set] at *;omega)) rfl rfl) ?_
        refine O.pu (U.rdO (.tmp rfl) rfl rfl rfl rfl rfl) ?_
        refine O.pu (Pu.move (.tmp (v:=.int _ _) rfl)) ?_
        refine O.pu (Pu.bin (.tmp rfl) (.tmp rfl) (U.shrW (by omega))) ?_
        refine O.pu (U.indexO0 rfl (.tmp rfl) rfl rfl (.tmp rfl) (by first|omega|(simp only [List.length_set] at *;omega)) (by first|omega|(simp only [List.length_set] at *;omega)) rfl rfl) ?_
        refine O.ef0 (U.storeE (.tmp rfl) rfl rfl (.tmp (v:=.int _ _) rfl) rfl rfl (.whole (notBad_ne rfl) rfl) .ints) ?_
        refine O.nil ?_
        refine X.seq ?_
        refine X.still ?_
        refine O.pu (Pu.move (.tmp (v:=.int _ _) rfl)) ?_
        refine O.pu (Pu.bin (.tmp rfl) .int U.add64) ?_
        refine O.pu (Pu.move (.tmp (v:=.os _ _ _ _ _) rfl)) ?_
        refine O.pu (Pu.lenO rfl (.tmp rfl)) ?_
        refine O.pu (Pu.bin (.tmp rfl) (.tmp rfl) .lss) ?_
        refine O.nil ?_
        refine X.condP (.tmp rfl) (fun c=>?_) (fun c=>?_)
        · rw [if_pos c] at h
          refine X.drawn ?_
          refine D.pu (Pu.move (.tmp (v:=.os _ _ _ _ _) rfl)) ?_
          refine D.pu (Pu.move (.tmp (v:=.int _ _) rfl)) ?_
          repeat (rw [giff] at h;obtain ⟨_,h⟩:=h)
          refine D.pu (U.indexO0 rfl (.tmp rfl) rfl rfl (.tmp rfl) (by first|omega|(simp only [List.length_set] at *;omega)) (by first|omega|(simp only [List.length_set] at *;omega)) rfl rfl) ?_
          refine D.pu (U.rdO (.tmp rfl) rfl rfl rfl rfl rfl) ?_
          refine D.pu (Pu.move (.tmp (v:=.os _ _ _ _ _) rfl)) ?_
          refine D.pu (Pu.move (.tmp (v:=.int _ _) rfl)) ?_
          refine D.pu (Pu.bin (.tmp rfl) .int U.add64) ?_
          refine D.pu (U.indexO0 rfl (.tmp rfl) rfl rfl (.tmp rfl) (by first|omega|(simp only [List.length_set] at *;omega)) (by first|omega|(simp only [List.length_set] at *;omega)) rfl rfl) ?_
          refine D.pu (U.rdO (.tmp rfl) rfl rfl rfl rfl rfl) ?_
          refine D.pu (Pu.move (.tmp (v:=.int _ _) rfl)) ?_
          refine D.pu (Pu.bin .int (.tmp rfl) .sub) ?_
          refine D.pu (Pu.bin (.tmp rfl) (.tmp rfl) (U.shlW (by omega))) ?_
          refine D.pu (Pu.bin (.tmp rfl) (.tmp rfl) .bor) ?_
          refine D.pu (U.indexO0 rfl (.tmp rfl) rfl rfl (.tmp rfl) (by first|omega|(simp only [List.length_set] at *;omega)) (by first|omega|(simp only [List.length_set] at *;omega)) rfl rfl) ?_
          refine D.ef0 (C.storeE (.tmp rfl) rfl rfl (.tmp (v:=.int _ _) rfl) rfl rfl (.whole (notBad_ne rfl) rfl) .ints) ?_
          refine D.nil (by kernel_rfl) ?_
          refine X.still ?_
          refine O.pu (Pu.bin (.tmp rfl) .int U.add64) ?_
          refine O.pu (Pu.move (.tmp (v:=.int _ _) rfl)) ?_
          refine O.nil ?_
          exact ⟨_,(by omega),_,_,_,_,_,_,_,_,_,rfl,rfl,(by first|rfl|(simp only [List.length_set];done)|(simp only [List.length_drop,List.length_take,List.length_append,List.length_set] at *;omega)),rfl,rfl,rfl,rfl,rfl,rfl,rfl,h⟩
        · rw [if_neg c] at h
          refine X.skip ?_
          refine X.still ?_
          refine O.pu (Pu.bin (.tmp rfl) .int U.add64) ?_
          refine O.pu (Pu.move (.tmp (v:=.int _ _) rfl)) ?_
          refine O.nil ?_
          exact ⟨_,(by omega),_,_,_,_,_,_,_,_,_,rfl,rfl,(by first|rfl|(simp only [List.length_set];done)|(simp only [List.length_drop,List.length_take,List.length_append,List.length_set] at *;omega)),rfl,rfl,rfl,rfl,rfl,rfl,rfl,h⟩
      · rw [if_neg c] at h
        refine X.exit (B.out ?_)
        refine X.seq ?_
        refine X.still ?_
        refine O.pu (Pu.move (.tmp (v:=.os _ _ _ _ _) rfl)) ?_
        obtain ⟨q3,Hq3,h⟩:=Option.bind_eq_some_iff.1 h
        refine O.ef (U.callZ (ss:=[6]) (.cons (.tmp (v:=.os _ _ _ _ _) rfl) .nil) (.cons (.osIf (by simp) rfl (Mode.live_ne rfl) rfl (by first|rfl|(simp only [List.length_set];done)|(simp only [List.length_drop,List.length_take,List.length_append,List.length_set] at *;omega))) .nil) (nat_Of.cs Hq3) (.aggL (.cons .fi .nil)) (nowin rfl)) ?_
        refine O.ef0 (U.storeE (.tmp rfl) rfl rfl (.tmp (v:=.agg _) rfl) rfl rfl (.whole (notBad_ne rfl) rfl) .one) ?_
        refine O.pu (Pu.assign .int) ?_
        refine O.nil ?_
        refine X.ret ?_
        cases h
        exact E.fin [] (.cell rfl rfl (Mode.live_ne rfl) (U.whole rfl rfl) (.tmp (v:=.int _ _) rfl .nil)) (.cons (.cl (.aggL (.cons .fi .nil))) (.cons (.cl .int) .nil))
noncomputable def c70:Code:=Tryz.f70.body.getD .skip
theorem fn70:FnOk Tryz.prog 70 Tryz.f70 c70:=⟨Tryz.func70,rfl,by kernel_rfl,by kernel_rfl,mixed⟩
theorem quot_long.cs {k:Nat} {l0:List Int} {l1:List Int} {r:List Int×List Int} (h:quot_long.f k l0 l1=some r):CS Tryz.prog 70 [.fi .u64 l0, .fi .u64 l1] .no [.fi .u64 r.1, .fi .u64 r.2]:=by
  unfold quot_long.f at h
  refine E.pure fn70 rfl ?_
  refine X.seq ?_
  refine X.still ?_
  refine O.pu (Pu.assign (.nilI (k:=.u64))) ?_
  refine O.pu (Pu.assign (.nilI (k:=.u64))) ?_
  refine O.nil ?_
  refine X.seq ?_
  refine X.still ?_
  refine O.pu (Pu.move (.tmp (v:=.fi _ _) rfl)) ?_
  refine O.pu (Pu.move (.tmp (v:=.fi _ _) rfl)) ?_
  refine O.pu (Pu.lenI rfl (.tmp rfl)) ?_
  refine O.pu (Pu.bin (.tmp rfl) .int U.sub64) ?_
  repeat (rw [giff] at h;obtain ⟨_,h⟩:=h)
  refine O.pu (U.rdI rfl rfl (.tmp rfl) (.tmp rfl) (by omega) (by omega)) ?_
  refine O.pu (Pu.loadR (.tmp rfl) (U.self rfl rfl rfl)) ?_
  obtain ⟨q1,Hq1,h⟩:=Option.bind_eq_some_iff.1 h
  refine O.pu (U.call (ss:=[]) (.cons (.tmp (v:=.int _ _) rfl) .nil) (.cons (.cl .int) .nil) (bits_LeadingZeros64.cs Hq1) (.inl rfl) (.int)) ?_
  refine O.pu (U.convI rfl (.tmp rfl)) ?_
  refine O.pu (Pu.assign (.tmp (v:=.int _ _) rfl)) ?_
  refine O.nil ?_
  refine X.seq ?_
  refine X.drawn ?_
  refine D.pu (Pu.move (.tmp (v:=.fi _ _) rfl)) ?_
  refine D.pu (Pu.move (.tmp (v:=.int _ _) rfl)) ?_
  obtain ⟨q2,Hq2,h⟩:=Option.bind_eq_some_iff.1 h
  refine D.puE (v':=.os 24 (1) 0 _ true) (b':=⟨1, .own,_,_⟩) (U.callF (ss:=[]) (.cons (.tmp (v:=.fi _ _) rfl) (.cons (.tmp (v:=.int _ _) rfl) .nil)) (.cons (.cl .fi) (.cons (.cl .int) .nil)) (quot_moved.cs Hq2)) rfl rfl ?_
  refine D.pu (Pu.move (.tmp (v:=.fi _ _) rfl)) ?_
  refine D.pu (Pu.move (.tmp (v:=.int _ _) rfl)) ?_
  obtain ⟨q3,Hq3,h⟩:=Option.bind_eq_some_iff.1 h
  refine D.puE (v':=.os 27 (1) 0 _ true) (b':=⟨1, .own,_,_⟩) (U.callF (ss:=[]) (.cons (.tmp (v:=.fi _ _) rfl) (.cons (.tmp (v:=.int _ _) rfl) .nil)) (.cons (.cl .fi) (.cons (.cl .int) .nil)) (quot_moved.cs Hq3)) rfl rfl ?_
  refine D.pu (Pu.move (.tmp (v:=.fi _ _) rfl)) ?_
  refine D.pu (Pu.lenI rfl (.tmp rfl)) ?_
  repeat first|(rw [giff] at h;obtain ⟨_,h⟩:=h)|rw [bdff] at h
  refine D.pu (U.sliceO0 rfl (.tmp rfl) rfl rfl ⟨rfl,rfl⟩ .no (.yes (.tmp rfl) (by omega)) .no (by omega) (by omega)) ?_
  refine D.pu (Pu.assign (.tmp (v:=.os _ _ _ _ _) rfl)) ?_
  refine D.any (U.cutL (u':=1) (.tmp rfl) rfl cutH (by simp only [List.length_drop,List.length_take] <;> omega) rfl) ?_
  refine D.nil (by kernel_rfl) ?_
  refine X.seq ?_
  refine X.still ?_
  refine O.pu (Pu.move (.tmp (v:=.os _ _ _ _ _) rfl)) ?_
  refine O.pu (Pu.lenO rfl (.tmp rfl)) ?_
  refine O.pu (Pu.move (.tmp (v:=.os _ _ _ _ _) rfl)) ?_
  refine O.pu (Pu.lenO rfl (.tmp rfl)) ?_
  refine O.pu (Pu.bin (.tmp rfl) (.tmp rfl) U.sub64) ?_
  refine O.puE (v':=.os 36 (1) 0 _ true) (b':=⟨1, .own,_,_⟩) (U.makeI rfl rfl (.tmp rfl) (.tmp rfl) (by omega) (by omega) rfl (by omega)) rfl rfl ?_
  refine O.pu (Pu.assign (.tmp (v:=.os _ _ _ _ _) rfl)) ?_
  refine O.nil ?_
  refine X.seq ?_
  refine X.seq ?_
  refine X.still ?_
  refine O.pu (Pu.move (.tmp (v:=.os _ _ _ _ _) rfl)) ?_
  refine O.pu (Pu.lenO rfl (.tmp rfl)) ?_
  refine O.pu (Pu.bin (.tmp rfl) .int U.sub64) ?_
  refine O.pu (Pu.assign (.tmp (v:=.int _ _) rfl)) ?_
  refine O.nil ?_
  refine X.block ?_
  refine X.inv (fun k s=>∃ x0 x1 x6 x7 x8 n0 n1 n7 u1 u24 u36,s.b 24=⟨u24, .own, .ints .u64 x0,75⟩∧s.t 0 = .os 24 u24 0 n0 true∧x0.length=n0∧s.b 1=⟨u1, .own, .ints .u64 x1,75⟩∧s.t 1 = .os 1 u1 0 n1 false∧x1.length=n1∧s.t 6 = .int .u64 x6∧s.b 36=⟨u36, .own, .ints .u64 x7,75⟩∧s.t 7 = .os 36 u36 0 n7 true∧x7.length=n7∧s.t 8 = .int .i64 x8∧quot_long.l0 k x0 x1 x6 x7 x8=some r) ?_ ?_ ⟨_,_,_,_,_,_,_,_,_,_,_,rfl,rfl,rfl,rfl,rfl,rfl,rfl,rfl,rfl,rfl,rfl,h⟩
  · rintro s ⟨_,_,_,_,_,_,_,_,_,_,_,_,_,_,_,_,_,_,_,_,_,_,h⟩;unfold quot_long.l0 at h;cases h
  · rintro k1 s1 ⟨x0,x1,x6,x7,x8,n0,n1,n7,u1,u24,u36,e0,e1,rfl,e3,e4,rfl,e6,e7,e8,rfl,e10,h⟩
    unfold quot_long.l0 at h
    rw [St.fixB e0,St.fixT e1,St.fixB e3,St.fixT e4,St.fixT e6,St.fixB e7,St.fixT e8,St.fixT e10]
    refine X.seq ?_
    refine X.seq ?_
    refine X.still ?_
    refine O.pu (Pu.move (.tmp (v:=.int _ _) rfl)) ?_
    refine O.pu (Pu.bin (.tmp rfl) .int .geq) ?_
    refine O.nil ?_
    refine X.condP (.tmp rfl) (fun c=>?_) (fun c=>?_)
    · rw [if_pos c] at h
      refine X.skip ?_
      refine X.seq ?_
      refine X.block ?_
      refine X.seq ?_
      refine X.still ?_
      refine O.pu (Pu.move (.tmp (v:=.os _ _ _ _ _) rfl)) ?_
      refine O.pu (Pu.move (.tmp (v:=.int _ _) rfl)) ?_
      refine O.pu (Pu.move (.tmp (v:=.int _ _) rfl)) ?_
      refine O.pu (Pu.move (.tmp (v:=.os _ _ _ _ _) rfl)) ?_
      refine O.pu (Pu.lenO rfl (.tmp rfl)) ?_
      refine O.pu (Pu.bin (.tmp rfl) (.tmp rfl) U.add64) ?_
      refine O.pu (Pu.bin (.tmp rfl) .int U.add64) ?_
      repeat (rw [giff] at h;obtain ⟨_,h⟩:=h)
      refine O.pu (U.sliceO0 rfl (.tmp rfl) rfl rfl ⟨rfl,rfl⟩ (.yes (.tmp rfl) (by omega)) (.yes (.tmp rfl) (by omega)) .no (by omega) (by omega)) ?_
      refine O.pu (Pu.assign (.tmp (v:=.os _ _ _ _ _) rfl)) ?_
      refine O.nil ?_
      refine X.seq ?_
      refine X.still ?_
      refine O.pu (Pu.move (.tmp (v:=.os _ _ _ _ _) rfl)) ?_
      refine O.pu (Pu.move (.tmp (v:=.os _ _ _ _ _) rfl)) ?_
      obtain ⟨q4,Hq4,h⟩:=Option.bind_eq_some_iff.1 h
      obtain ⟨⟨_,_,_⟩,Hq4⟩:=gi Hq4
      refine O.pu (U.call (ss:=[1,24]) (.cons (.tmp (v:=.os _ _ _ _ _) rfl) (.cons (.tmp (v:=.os _ _ _ _ _) rfl) .nil)) (.cons (Snap.osW (by simp) rfl (Mode.live_ne rfl) rfl (by omega)) (.cons (.osIf (by simp) rfl (Mode.live_ne rfl) rfl (by first|rfl|(simp only [List.length_set];done)|(simp only [List.length_drop,List.length_take,List.length_append,List.length_set] at *;omega))) .nil)) (quot_guess.cs Hq4) (.inr (.int)) (.int)) ?_
      refine O.pu (Pu.assign (.tmp (v:=.int _ _) rfl)) ?_
      refine O.nil ?_
      refine X.seq ?_
      refine X.seq ?_
      refine X.still ?_
      refine O.pu (Pu.move (.tmp (v:=.os _ _ _ _ _) rfl)) ?_
      refine O.pu (Pu.move (.tmp (v:=.os _ _ _ _ _) rfl)) ?_
      refine O.pu (Pu.move (.tmp (v:=.int _ _) rfl)) ?_
      obtain ⟨q5,Hq5,h⟩:=Option.bind_eq_some_iff.1 h
      obtain ⟨⟨_,_,_⟩,q6,Hq6,rfl⟩:=win_e Hq5
      have hlq6:=quot_less_len Hq6
      refine O.ef (U.callW (res:=[.int _ _]) (ss:=[1]) (.cons (.tmp (v:=.os _ _ _ _ _) rfl) (.cons (.tmp (v:=.os _ _ _ _ _) rfl) (.cons (.tmp (v:=.int _ _) rfl) .nil))) (.hole (.cons (.osIf (by simp) rfl (Mode.live_ne rfl) rfl (by first|rfl|(simp only [List.length_set];done)|(simp only [List.length_drop,List.length_take,List.length_append,List.length_set] at *;omega))) (.cons (.cl .int) .nil))) rfl rfl rfl rfl rfl (by simp only [List.length_drop,List.length_take,List.length_append,List.length_set] at *;omega) (by simp only [List.length_drop,List.length_take,List.length_append,List.length_set] at *;omega) (by simp only [List.length_drop,List.length_take,List.length_append,List.length_set] at *;omega) (by simp only [List.length_drop,List.length_take,List.length_append,List.length_set] at *;omega) (.int) (quot_less.cs Hq6)) ?_
      refine O.pu (Pu.assign (.tmp (v:=.int _ _) rfl)) ?_
      refine O.nil ?_
      refine X.block ?_
      refine X.inv (fun k s=>k≤k1∧∃ x0 x1 x6 x7 x8 x10 x11 n0 n1 n7 u1 u24 u36,s.b 24=⟨u24, .own, .ints .u64 x0,75⟩∧s.t 0 = .os 24 u24 0 n0 true∧x0.length=n0∧s.b 1=⟨u1, .own, .ints .u64 x1,75⟩∧s.t 1 = .os 1 u1 0 n1 false∧x1.length=n1∧s.t 6 = .int .u64 x6∧s.b 36=⟨u36, .own, .ints .u64 x7,75⟩∧s.t 7 = .os 36 u36 0 n7 true∧x7.length=n7∧s.t 8 = .int .i64 x8∧s.t 10 = .int .u64 x10∧s.t 11 = .int .u64 x11∧s.t 9 = .os 24 u24 x8.toNat ((wrap64 ((wrap64 (x8 + (x1.length:Int))) + 1)).toNat - x8.toNat) false∧0≤x8∧x8 < wrap64 ((wrap64 (x8 + (x1.length:Int))) + 1)∧wrap64 ((wrap64 (x8 + (x1.length:Int))) + 1)≤(x0.length:Int)∧quot_long.l1 k x0 x1 x6 x7 x8 x10 x11=some r) ?_ ?_ ⟨(by omega),_,_,_,_,_,_,_,_,_,_,_,_,_,rfl,rfl,(by first|rfl|(simp only [List.length_set];done)|(simp only [List.length_drop,List.length_take,List.length_append,List.length_set] at *;omega)),rfl,rfl,(by first|rfl|(simp only [List.length_set];done)|(simp only [List.length_drop,List.length_take,List.length_append,List.length_set] at *;omega)),rfl,rfl,rfl,(by first|rfl|(simp only [List.length_set];done)|(simp only [List.length_drop,List.length_take,List.length_append,List.length_set] at *;omega)),rfl,rfl,rfl,rfl,(by first|omega|(simp only [List.length_drop,List.length_take,List.length_append,List.length_set] at *;omega)),(by first|omega|(simp only [List.length_drop,List.length_take,List.length_append,List.length_set] at *;omega)),(by first|omega|(simp only [List.length_drop,List.length_take,List.length_append,List.length_set] at *;omega)),h⟩
      · rintro s ⟨_,_,_,_,_,_,_,_,_,_,_,_,_,_,_,_,_,_,_,_,_,_,_,_,_,_,_,_,_,_,_,h⟩;unfold quot_long.l1 at h;cases h
      · rintro k2 s2 ⟨kl2,x0,x1,x6,x7,x8,x10,x11,n0,n1,n7,u1,u24,u36,e0,e1,rfl,e3,e4,rfl,e6,e7,e8,rfl,e10,e11,e12,e13,_,_,_,h⟩
        unfold quot_long.l1 at h
        rw [St.fixB e0,St.fixT e1,St.fixB e3,St.fixT e4,St.fixT e6,St.fixB e7,St.fixT e8,St.fixT e10,St.fixT e11,St.fixT e12,St.fixT e13]
        refine X.seq ?_
        refine X.seq ?_
        refine X.still ?_
        refine O.pu (Pu.move (.tmp (v:=.int _ _) rfl)) ?_
        refine O.pu (Pu.bin (.tmp rfl) .int .neq) ?_
        refine O.nil ?_
        refine X.condN (.tmp rfl) (fun c=>?_) (fun c=>?_)
        · rw [if_neg c] at h
          refine X.skip ?_
          refine X.block ?_
          refine X.seq ?_
          refine X.still ?_
          refine O.pu (Pu.move (.tmp (v:=.int _ _) rfl)) ?_
          refine O.pu (Pu.bin (.tmp rfl) .int .sub) ?_
          refine O.pu (Pu.assign (.tmp (v:=.int _ _) rfl)) ?_
          refine O.nil ?_
          refine X.seq ?_
          refine X.still ?_
          refine O.pu (Pu.move (.tmp (v:=.os _ _ _ _ _) rfl)) ?_
          refine O.pu (Pu.move (.tmp (v:=.os _ _ _ _ _) rfl)) ?_
          obtain ⟨q7,Hq7,h⟩:=Option.bind_eq_some_iff.1 h
          obtain ⟨⟨_,_,_⟩,q8,Hq8,rfl⟩:=win_e Hq7
          have hlq8:=quot_back_len Hq8
          refine O.ef (U.callW (res:=[]) (ss:=[1]) (.cons (.tmp (v:=.os _ _ _ _ _) rfl) (.cons (.tmp (v:=.os _ _ _ _ _) rfl) .nil)) (.hole (.cons (.osIf (by simp) rfl (Mode.live_ne rfl) rfl (by first|rfl|(simp only [List.length_set];done)|(simp only [List.length_drop,List.length_take,List.length_append,List.length_set] at *;omega))) .nil)) rfl rfl rfl rfl rfl (by simp only [List.length_drop,List.length_take,List.length_append,List.length_set] at *;omega) (by simp only [List.length_drop,List.length_take,List.length_append,List.length_set] at *;omega) (by simp only [List.length_drop,List.length_take,List.length_append,List.length_set] at *;omega) (by simp only [List.length_drop,List.length_take,List.length_append,List.length_set] at *;omega) (.tupL .nil) (quot_back.cs Hq8)) ?_
          refine O.nil ?_
          refine X.seq ?_
          refine X.still ?_
          refine O.pu (Pu.move (.tmp (v:=.os _ _ _ _ _) rfl)) ?_
          refine O.pu (Pu.move (.tmp (v:=.os _ _ _ _ _) rfl)) ?_
          refine O.pu (Pu.lenO rfl (.tmp rfl)) ?_
          repeat (rw [giff] at h;obtain ⟨_,h⟩:=h)
          refine O.pu (U.indexW (n:=((x1.length:Int) + x8)) rfl (.tmp rfl) rfl rfl (.tmp rfl) (by omega) (by omega) rfl rfl (by omega)) ?_
          refine O.pu (U.rdO (.tmp rfl) rfl rfl rfl rfl rfl) ?_
          refine O.pu (Pu.bin (.tmp rfl) .int .eql) ?_
          refine O.nil ?_
          refine X.condE (.tmp rfl) (fun c=>?_) (fun c=>?_)
          · rw [if_pos c] at h
            refine X.still ?_
            refine O.pu (Pu.assign .int) ?_
            refine O.nil ?_
            exact ⟨_,(by omega),(by omega),_,_,_,_,_,_,_,_,_,_,_,_,_,rfl,rfl,(by first|rfl|(simp only [List.length_set];done)|(simp only [List.length_drop,List.length_take,List.length_append,List.length_set] at *;omega)),rfl,rfl,(by first|rfl|(simp only [List.length_set];done)|(simp only [List.length_drop,List.length_take,List.length_append,List.length_set] at *;omega)),rfl,rfl,rfl,(by first|rfl|(simp only [List.length_set];done)|(simp only [List.length_drop,List.length_take,List.length_append,List.length_set] at *;omega)),rfl,rfl,rfl,rfl,(by first|omega|(simp only [List.length_drop,List.length_take,List.length_append,List.length_set] at *;omega)),(by first|omega|(simp only [List.length_drop,List.length_take,List.length_append,List.length_set] at *;omega)),(by first|omega|(simp only [List.length_drop,List.length_take,List.length_append,List.length_set] at *;omega)),h⟩
          · rw [if_neg c] at h
            refine X.skip ?_
            exact ⟨_,(by omega),(by omega),_,_,_,_,_,_,_,_,_,_,_,_,_,rfl,rfl,(by first|rfl|(simp only [List.length_set];done)|(simp only [List.length_drop,List.length_take,List.length_append,List.length_set] at *;omega)),rfl,rfl,(by first|rfl|(simp only [List.length_set];done)|(simp only [List.length_drop,List.length_take,List.length_append,List.length_set] at *;omega)),rfl,rfl,rfl,(by first|rfl|(simp only [List.length_set];done)|(simp only [List.length_drop,List.length_take,List.length_append,List.length_set] at *;omega)),rfl,rfl,rfl,rfl,(by first|omega|(simp only [List.length_drop,List.length_take,List.length_append,List.length_set] at *;omega)),(by first|omega|(simp only [List.length_drop,List.length_take,List.length_append,List.length_set] at *;omega)),(by first|omega|(simp only [List.length_drop,List.length_take,List.length_append,List.length_set] at *;omega)),h⟩
        · rw [if_pos c] at h
          refine X.exit (B.out ?_)
          refine X.still ?_
          refine O.pu (Pu.move (.tmp (v:=.os _ _ _ _ _) rfl)) ?_
          refine O.pu (Pu.move (.tmp (v:=.int _ _) rfl)) ?_
          refine O.pu (Pu.move (.tmp (v:=.int _ _) rfl)) ?_
          repeat (rw [giff] at h;obtain ⟨_,h⟩:=h)
          refine O.pu (U.indexO0 rfl (.tmp rfl) rfl rfl (.tmp rfl) (by first|omega|(simp only [List.length_set] at *;omega)) (by first|omega|(simp only [List.length_set] at *;omega)) rfl rfl) ?_
          refine O.ef0 (U.storeE (.tmp rfl) rfl rfl (.tmp (v:=.int _ _) rfl) rfl rfl (.whole (notBad_ne rfl) rfl) .ints) ?_
          refine O.nil ?_
          refine X.still ?_
          refine O.pu (Pu.move (.tmp (v:=.int _ _) rfl)) ?_
          refine O.pu (Pu.bin (.tmp rfl) .int U.sub64) ?_
          refine O.pu (Pu.assign (.tmp (v:=.int _ _) rfl)) ?_
          refine O.nil ?_
          exact ⟨_,(by omega),_,_,_,_,_,_,_,_,_,_,_,rfl,rfl,(by first|rfl|(simp only [List.length_set];done)|(simp only [List.length_drop,List.length_take,List.length_append,List.length_set] at *;omega)),rfl,rfl,(by first|rfl|(simp only [List.length_set];done)|(simp only [List.length_drop,List.length_take,List.length_append,List.length_set] at *;omega)),rfl,rfl,rfl,(by first|rfl|(simp only [List.length_set];done)|(simp only [List.length_drop,List.length_take,List.length_append,List.length_set] at *;omega)),rfl,h⟩
    · rw [if_neg c] at h
      refine X.exit (B.out ?_)
      refine X.seq ?_
      refine X.still ?_
      refine O.pu (Pu.move (.tmp (v:=.os _ _ _ _ _) rfl)) ?_
      obtain ⟨q9,Hq9,h⟩:=Option.bind_eq_some_iff.1 h
      refine O.ef (U.callZ (ss:=[24]) (.cons (.tmp (v:=.os _ _ _ _ _) rfl) .nil) (.cons (.osIf (by simp) rfl (Mode.live_ne rfl) rfl (by first|rfl|(simp only [List.length_set];done)|(simp only [List.length_drop,List.length_take,List.length_append,List.length_set] at *;omega))) .nil) (nat_Of.cs Hq9) (.aggL (.cons .fi .nil)) (nowin rfl)) ?_
      refine O.pu (Pu.move (.tmp (v:=.int _ _) rfl)) ?_
      refine O.pu (U.conv64 rfl (.tmp rfl)) ?_
      obtain ⟨q10,Hq10,h⟩:=Option.bind_eq_some_iff.1 h
      refine O.pu (U.call (ss:=[]) (.cons (.tmp (v:=.agg _) rfl) (.cons (.tmp (v:=.int _ _) rfl) .nil)) (.cons (.cl (.aggL (.cons .fi .nil))) (.cons (.cl .int) .nil)) (quot_Shr.cs Hq10) (.inl rfl) (.tupL (.cons (.aggL (.cons .fi .nil)) (.cons .int .nil)))) ?_
      refine O.pu (Pu.move (.tmp (v:=.tup _) rfl)) ?_
      refine O.pu (Pu.extract (.tmp rfl) rfl) ?_
      refine O.pu (Pu.extract (.tmp rfl) rfl) ?_
      refine O.puE (v':=.op 12 ((s1.b 12).ver + 1) 0 0) (b':=⟨(s1.b 12).ver + 1, .own,(.vals [.agg [.fi .u64 []]]),_⟩) Pu.alloc rfl rfl ?_
      refine O.ef0 (U.storeE (.tmp rfl) rfl rfl (.tmp (v:=.agg _) rfl) rfl rfl (.whole (notBad_ne rfl) rfl) .one) ?_
      refine O.pu (Pu.assign (.tmp (v:=.int _ _) rfl)) ?_
      refine O.nil ?_
      refine X.seq ?_
      refine X.still ?_
      refine O.pu (Pu.move (.tmp (v:=.os _ _ _ _ _) rfl)) ?_
      refine O.pu (U.load (.tmp rfl) rfl rfl (U.whole rfl rfl)) ?_
      obtain ⟨q11,Hq11,h⟩:=Option.bind_eq_some_iff.1 h
      refine O.puE (v':=.os 86 ((s1.b 86).ver + 1) 0 _ true) (b':=⟨(s1.b 86).ver + 1, .own,_,_⟩) (U.callF (ss:=[]) (.cons (.tmp (v:=.agg _) rfl) .nil) (.cons (.cl (.aggL (.cons .fi .nil))) .nil) (nat_Nat_Limbs.cs Hq11)) rfl rfl ?_
      refine O.pu (Pu.assign (.tmp (v:=.os _ _ _ _ _) rfl)) ?_
      refine O.pu (Pu.assign (.tmp (v:=.os _ _ _ _ _) rfl)) ?_
      refine O.nil ?_
      refine X.ret ?_
      cases h
      exact E.fin [36,86] (.tmp (v:=.os _ _ _ _ _) rfl (.tmp (v:=.os _ _ _ _ _) rfl .nil)) (.cons (.osIf (by simp) rfl (Mode.live_ne rfl) rfl (by first|rfl|(simp only [List.length_set];done)|(simp only [List.length_drop,List.length_take,List.length_append,List.length_set] at *;omega))) (.cons (.osIf (by simp) rfl (Mode.live_ne rfl) rfl (by first|rfl|(simp only [List.length_set];done)|(simp only [List.length_drop,List.length_take,List.length_append,List.length_set] at *;omega))) .nil))
noncomputable def c42:Code:=Tryz.f42.body.getD .skip
theorem fn42:FnOk Tryz.prog 42 Tryz.f42 c42:=⟨Tryz.func42,rfl,by kernel_rfl,by kernel_rfl,mixed⟩
theorem quot_Div.cs {k:Nat} {l0_0:List Int} {l1_0:List Int} {r:List Int×List Int×Int} (h:quot_Div.f k l0_0 l1_0=some r):CS Tryz.prog 42 [.agg [.fi .u64 l0_0], .agg [.fi .u64 l1_0]] .no [.agg [.fi .u64 r.1], .agg [.fi .u64 r.2.1], .int .i64 r.2.2]:=by
  unfold quot_Div.f at h
  refine E.pure fn42 rfl ?_
  refine X.seq ?_
  refine X.still ?_
  refine O.puE (v':=.op 2 (1) 0 0) (b':=⟨1, .own,_,_⟩) (Pu.box (.tmp (v:=.agg _) rfl) rfl rfl) rfl rfl ?_
  refine O.puE (v':=.op 3 (1) 0 0) (b':=⟨1, .own,_,_⟩) (Pu.box (.tmp (v:=.agg _) rfl) rfl rfl) rfl rfl ?_
  refine O.puE (v':=.op 4 (1) 0 0) (b':=⟨1, .own,(.vals [.agg [.fi .u64 []]]),_⟩) Pu.alloc rfl rfl ?_
  refine O.puE (v':=.op 5 (1) 0 0) (b':=⟨1, .own,(.vals [.agg [.fi .u64 []]]),_⟩) Pu.alloc rfl rfl ?_
  refine O.pu (Pu.assign .int) ?_
  refine O.nil ?_
  refine X.seq ?_
  refine X.seq ?_
  refine X.still ?_
  refine O.pu (U.load (.tmp rfl) rfl rfl (U.whole rfl rfl)) ?_
  obtain ⟨q1,Hq1,h⟩:=Option.bind_eq_some_iff.1 h
  refine O.pu (U.call (ss:=[]) (.cons (.tmp (v:=.agg _) rfl) .nil) (.cons (.cl (.aggL (.cons .fi .nil))) .nil) (nat_Nat_Zero.cs Hq1) (.inl rfl) (.bool)) ?_
  refine O.nil ?_
  refine X.cond (.tmp rfl) (fun c=>?_) (fun c=>?_)
  · rw [if_pos c] at h
    refine X.seq ?_
    refine X.still ?_
    refine O.pu (Pu.build rfl .nil) ?_
    refine O.pu (Pu.build rfl .nil) ?_
    refine O.ef0 (U.storeE (.tmp rfl) rfl rfl (.tmp (v:=.agg _) rfl) rfl rfl (.whole (notBad_ne rfl) rfl) .one) ?_
    refine O.ef0 (U.storeE (.tmp rfl) rfl rfl (.tmp (v:=.agg _) rfl) rfl rfl (.whole (notBad_ne rfl) rfl) .one) ?_
    refine O.pu (Pu.assign .int) ?_
    refine O.nil ?_
    refine X.ret ?_
    cases h
    exact E.fin [] (.cell rfl rfl (Mode.live_ne rfl) (U.whole rfl rfl) (.cell rfl rfl (Mode.live_ne rfl) (U.whole rfl rfl) (.tmp (v:=.int _ _) rfl .nil))) (.cons (.cl (.aggL (.cons .fi .nil))) (.cons (.cl (.aggL (.cons .fi .nil))) (.cons (.cl .int) .nil)))
  · rw [if_neg (bf c)] at h
    refine X.skip ?_
    refine X.seq ?_
    refine X.seq ?_
    refine X.still ?_
    refine O.pu (U.load (.tmp rfl) rfl rfl (U.whole rfl rfl)) ?_
    refine O.pu (U.load (.tmp rfl) rfl rfl (U.whole rfl rfl)) ?_
    obtain ⟨q2,Hq2,h⟩:=Option.bind_eq_some_iff.1 h
    refine O.pu (U.call (ss:=[]) (.cons (.tmp (v:=.agg _) rfl) (.cons (.tmp (v:=.agg _) rfl) .nil)) (.cons (.cl (.aggL (.cons .fi .nil))) (.cons (.cl (.aggL (.cons .fi .nil))) .nil)) (nat_Nat_Cmp.cs Hq2) (.inl rfl) (.int)) ?_
    refine O.pu (Pu.bin (.tmp rfl) .int .lss) ?_
    refine O.nil ?_
    refine X.condP (.tmp rfl) (fun c=>?_) (fun c=>?_)
    · rw [if_pos c] at h
      refine X.seq ?_
      refine X.drawn ?_
      refine D.pu (Pu.build rfl .nil) ?_
      refine D.pu (U.load (.tmp rfl) rfl rfl (U.whole rfl rfl)) ?_
      refine D.ef0 (C.storeE (.tmp rfl) rfl rfl (.tmp (v:=.agg _) rfl) rfl rfl (.whole (notBad_ne rfl) rfl) .one) ?_
      refine D.ef0 (C.storeE (.tmp rfl) rfl rfl (.tmp (v:=.agg _) rfl) rfl rfl (.whole (notBad_ne rfl) rfl) .one) ?_
      refine D.pu (Pu.assign .int) ?_
      refine D.nil (by kernel_rfl) ?_
      refine X.ret ?_
      cases h
      exact E.fin [] (.cell rfl rfl (Mode.live_ne rfl) (U.whole rfl rfl) (.cell rfl rfl (Mode.live_ne rfl) (U.whole rfl rfl) (.tmp (v:=.int _ _) rfl .nil))) (.cons (.cl (.aggL (.cons .fi .nil))) (.cons (.cl (.aggL (.cons .fi .nil))) (.cons (.cl .int) .nil)))
    · rw [if_neg c] at h
      refine X.skip ?_
      refine X.seq ?_
      refine X.drawn ?_
      refine D.pu (U.load (.tmp rfl) rfl rfl (U.whole rfl rfl)) ?_
      obtain ⟨q3,Hq3,h⟩:=Option.bind_eq_some_iff.1 h
      refine D.puE (v':=.os 24 (1) 0 _ true) (b':=⟨1, .own,_,_⟩) (U.callF (ss:=[]) (.cons (.tmp (v:=.agg _) rfl) .nil) (.cons (.cl (.aggL (.cons .fi .nil))) .nil) (nat_Nat_Limbs.cs Hq3)) rfl rfl ?_
      refine D.pu (U.load (.tmp rfl) rfl rfl (U.whole rfl rfl)) ?_
      obtain ⟨q4,Hq4,h⟩:=Option.bind_eq_some_iff.1 h
      refine D.puE (v':=.os 26 (1) 0 _ true) (b':=⟨1, .own,_,_⟩) (U.callF (ss:=[]) (.cons (.tmp (v:=.agg _) rfl) .nil) (.cons (.cl (.aggL (.cons .fi .nil))) .nil) (nat_Nat_Limbs.cs Hq4)) rfl rfl ?_
      refine D.pu (Pu.assign (.tmp (v:=.os _ _ _ _ _) rfl)) ?_
      refine D.pu (Pu.assign (.tmp (v:=.os _ _ _ _ _) rfl)) ?_
      refine D.nil (by kernel_rfl) ?_
      refine X.seq ?_
      refine X.seq ?_
      refine X.still ?_
      refine O.pu (Pu.move (.tmp (v:=.os _ _ _ _ _) rfl)) ?_
      refine O.pu (Pu.lenO rfl (.tmp rfl)) ?_
      refine O.pu (Pu.bin (.tmp rfl) .int .eql) ?_
      refine O.nil ?_
      refine X.condE (.tmp rfl) (fun c=>?_) (fun c=>?_)
      · rw [if_pos c] at h
        refine X.seq ?_
        refine X.still ?_
        refine O.pu (Pu.move (.tmp (v:=.os _ _ _ _ _) rfl)) ?_
        refine O.pu (Pu.move (.tmp (v:=.os _ _ _ _ _) rfl)) ?_
        repeat (rw [giff] at h;obtain ⟨_,h⟩:=h)
        refine O.pu (U.indexO0 rfl (.tmp rfl) rfl rfl .int (by first|omega|(simp only [List.length_set] at *;omega)) (by first|omega|(simp only [List.length_set] at *;omega)) rfl rfl) ?_
        refine O.pu (U.rdO (.tmp rfl) rfl rfl rfl rfl rfl) ?_
        obtain ⟨q5,Hq5,h⟩:=Option.bind_eq_some_iff.1 h
        refine O.ef (U.callZ (ss:=[24]) (.cons (.tmp (v:=.os _ _ _ _ _) rfl) (.cons (.tmp (v:=.int _ _) rfl) .nil)) (.cons (.osIf (by simp) rfl (Mode.live_ne rfl) rfl (by first|rfl|(simp only [List.length_set];done)|(simp only [List.length_drop,List.length_take,List.length_append,List.length_set] at *;omega))) (.cons (.cl .int) .nil)) (quot_by.cs Hq5) (.tupL (.cons .fi (.cons .int .nil))) (nowin rfl)) ?_
        refine O.pu (Pu.move (.tmp (v:=.tup _) rfl)) ?_
        refine O.pu (Pu.extract (.tmp rfl) rfl) ?_
        refine O.pu (Pu.extract (.tmp rfl) rfl) ?_
        refine O.pu (Pu.assign (.tmp (v:=.fi _ _) rfl)) ?_
        refine O.pu (Pu.assign (.tmp (v:=.int _ _) rfl)) ?_
        refine O.nil ?_
        refine X.seq ?_
        refine X.still ?_
        refine O.pu (Pu.move (.tmp (v:=.fi _ _) rfl)) ?_
        obtain ⟨q6,Hq6,h⟩:=Option.bind_eq_some_iff.1 h
        refine O.pu (U.call (ss:=[]) (.cons (.tmp (v:=.fi _ _) rfl) .nil) (.cons (.cl .fi) .nil) (nat_Of.cs Hq6) (.inl rfl) (.aggL (.cons .fi .nil))) ?_
        refine O.pu (Pu.move (.tmp (v:=.int _ _) rfl)) ?_
        refine O.puE (v':=.os 41 (1) 0 _ true) (b':=⟨1, .own,_,_⟩) (U.litI rfl rfl (.cons (.tmp (v:=.int _ _) rfl) .nil) rfl rfl) rfl rfl ?_
        obtain ⟨q7,Hq7,h⟩:=Option.bind_eq_some_iff.1 h
        refine O.ef (U.callZ (ss:=[41]) (.cons (.tmp (v:=.os _ _ _ _ _) rfl) .nil) (.cons (.osIf (by simp) rfl (Mode.live_ne rfl) rfl (by first|rfl|(simp only [List.length_set];done)|(simp only [List.length_drop,List.length_take,List.length_append,List.length_set] at *;omega))) .nil) (nat_Of.cs Hq7) (.aggL (.cons .fi .nil)) (nowin rfl)) ?_
        refine O.ef0 (U.storeE (.tmp rfl) rfl rfl (.tmp (v:=.agg _) rfl) rfl rfl (.whole (notBad_ne rfl) rfl) .one) ?_
        refine O.ef0 (U.storeE (.tmp rfl) rfl rfl (.tmp (v:=.agg _) rfl) rfl rfl (.whole (notBad_ne rfl) rfl) .one) ?_
        refine O.pu (Pu.assign .int) ?_
        refine O.nil ?_
        refine X.ret ?_
        cases h
        exact E.fin [] (.cell rfl rfl (Mode.live_ne rfl) (U.whole rfl rfl) (.cell rfl rfl (Mode.live_ne rfl) (U.whole rfl rfl) (.tmp (v:=.int _ _) rfl .nil))) (.cons (.cl (.aggL (.cons .fi .nil))) (.cons (.cl (.aggL (.cons .fi .nil))) (.cons (.cl .int) .nil)))
      · rw [if_neg c] at h
        refine X.skip ?_
        refine X.seq ?_
        refine X.still ?_
        refine O.pu (Pu.move (.tmp (v:=.os _ _ _ _ _) rfl)) ?_
        refine O.pu (Pu.move (.tmp (v:=.os _ _ _ _ _) rfl)) ?_
        obtain ⟨q8,Hq8,h⟩:=Option.bind_eq_some_iff.1 h
        refine O.ef (U.callZ (ss:=[24,26]) (.cons (.tmp (v:=.os _ _ _ _ _) rfl) (.cons (.tmp (v:=.os _ _ _ _ _) rfl) .nil)) (.cons (.osIf (by simp) rfl (Mode.live_ne rfl) rfl (by first|rfl|(simp only [List.length_set];done)|(simp only [List.length_drop,List.length_take,List.length_append,List.length_set] at *;omega))) (.cons (.osIf (by simp) rfl (Mode.live_ne rfl) rfl (by first|rfl|(simp only [List.length_set];done)|(simp only [List.length_drop,List.length_take,List.length_append,List.length_set] at *;omega))) .nil)) (quot_long.cs Hq8) (.tupL (.cons .fi (.cons .fi .nil))) (nowin rfl)) ?_
        refine O.pu (Pu.move (.tmp (v:=.tup _) rfl)) ?_
        refine O.pu (Pu.extract (.tmp rfl) rfl) ?_
        refine O.pu (Pu.extract (.tmp rfl) rfl) ?_
        refine O.pu (Pu.assign (.tmp (v:=.fi _ _) rfl)) ?_
        refine O.pu (Pu.assign (.tmp (v:=.fi _ _) rfl)) ?_
        refine O.nil ?_
        refine X.seq ?_
        refine X.still ?_
        refine O.pu (Pu.move (.tmp (v:=.fi _ _) rfl)) ?_
        obtain ⟨q9,Hq9,h⟩:=Option.bind_eq_some_iff.1 h
        refine O.pu (U.call (ss:=[]) (.cons (.tmp (v:=.fi _ _) rfl) .nil) (.cons (.cl .fi) .nil) (nat_Of.cs Hq9) (.inl rfl) (.aggL (.cons .fi .nil))) ?_
        refine O.pu (Pu.move (.tmp (v:=.fi _ _) rfl)) ?_
        obtain ⟨q10,Hq10,h⟩:=Option.bind_eq_some_iff.1 h
        refine O.pu (U.call (ss:=[]) (.cons (.tmp (v:=.fi _ _) rfl) .nil) (.cons (.cl .fi) .nil) (nat_Of.cs Hq10) (.inl rfl) (.aggL (.cons .fi .nil))) ?_
        refine O.ef0 (U.storeE (.tmp rfl) rfl rfl (.tmp (v:=.agg _) rfl) rfl rfl (.whole (notBad_ne rfl) rfl) .one) ?_
        refine O.ef0 (U.storeE (.tmp rfl) rfl rfl (.tmp (v:=.agg _) rfl) rfl rfl (.whole (notBad_ne rfl) rfl) .one) ?_
        refine O.pu (Pu.assign .int) ?_
        refine O.nil ?_
        refine X.ret ?_
        cases h
        exact E.fin [] (.cell rfl rfl (Mode.live_ne rfl) (U.whole rfl rfl) (.cell rfl rfl (Mode.live_ne rfl) (U.whole rfl rfl) (.tmp (v:=.int _ _) rfl .nil))) (.cons (.cl (.aggL (.cons .fi .nil))) (.cons (.cl (.aggL (.cons .fi .nil))) (.cons (.cl .int) .nil)))
noncomputable def c61:Code:=Tryz.f61.body.getD .skip
theorem fn61:FnOk Tryz.prog 61 Tryz.f61 c61:=⟨Tryz.func61,rfl,by kernel_rfl,by kernel_rfl,mixed⟩
theorem whole_Int_Abs.cs {l0_0:List Int} {a0_1:Bool} {r:List Int} (h:whole_Int_Abs.f l0_0 a0_1=some r):CS Tryz.prog 61 [.agg [.fi .u64 l0_0, .bool a0_1]] .no [.agg [.fi .u64 r]]:=by
  unfold whole_Int_Abs.f at h
  refine E.pure fn61 rfl ?_
  refine X.seq ?_
  refine X.still ?_
  refine O.puE (v':=.op 1 (1) 0 0) (b':=⟨1, .own,_,_⟩) (Pu.box (.tmp (v:=.agg _) rfl) rfl rfl) rfl rfl ?_
  refine O.puE (v':=.op 2 (1) 0 0) (b':=⟨1, .own,(.vals [.agg [.fi .u64 []]]),_⟩) Pu.alloc rfl rfl ?_
  refine O.nil ?_
  refine X.seq ?_
  refine X.still ?_
  refine O.pu (U.fieldA rfl rfl rfl (.tmp rfl)) ?_
  refine O.pu (U.load (.tmp rfl) rfl rfl (U.sub rfl (.take .done))) ?_
  refine O.ef0 (U.storeE (.tmp rfl) rfl rfl (.tmp (v:=.agg _) rfl) rfl rfl (.whole (notBad_ne rfl) rfl) .one) ?_
  refine O.nil ?_
  refine X.ret ?_
  cases h
  exact E.fin [] (.cell rfl rfl (Mode.live_ne rfl) (U.whole rfl rfl) .nil) (.cons (.cl (.aggL (.cons .fi .nil))) .nil)
noncomputable def c87:Code:=Tryz.f87.body.getD .skip
theorem fn87:FnOk Tryz.prog 87 Tryz.f87 c87:=⟨Tryz.func87,rfl,by kernel_rfl,by kernel_rfl,mixed⟩
theorem quot_Gcd.cs {k:Nat} {l0_0:List Int} {l1_0:List Int} {r:List Int} (h:quot_Gcd.f k l0_0 l1_0=some r):CS Tryz.prog 87 [.agg [.fi .u64 l0_0], .agg [.fi .u64 l1_0]] .no [.agg [.fi .u64 r]]:=by
  unfold quot_Gcd.f at h
  refine E.pure fn87 rfl ?_
  refine X.seq ?_
  refine X.still ?_
  refine O.puE (v':=.op 2 (1) 0 0) (b':=⟨1, .own,_,_⟩) (Pu.box (.tmp (v:=.agg _) rfl) rfl rfl) rfl rfl ?_
  refine O.puE (v':=.op 3 (1) 0 0) (b':=⟨1, .own,_,_⟩) (Pu.box (.tmp (v:=.agg _) rfl) rfl rfl) rfl rfl ?_
  refine O.puE (v':=.op 4 (1) 0 0) (b':=⟨1, .own,(.vals [.agg [.fi .u64 []]]),_⟩) Pu.alloc rfl rfl ?_
  refine O.nil ?_
  refine X.seq ?_
  refine X.block ?_
  refine X.inv (fun k s=>∃ x326000 x327000 u2 u3 u4,s.t 2 = .op 2 u2 0 0∧s.b 2=⟨u2, .own, .vals [.agg [.fi .u64 x326000]],29⟩∧s.t 3 = .op 3 u3 0 0∧s.b 3=⟨u3, .own, .vals [.agg [.fi .u64 x327000]],29⟩∧s.t 4 = .op 4 u4 0 0∧s.b 4=⟨u4, .own, .vals [.agg [.fi .u64 []]],29⟩∧quot_Gcd.l0 k x326000 x327000=some r) ?_ ?_ ⟨_,_,_,_,_,rfl,rfl,rfl,rfl,rfl,rfl,h⟩
  · rintro s ⟨_,_,_,_,_,_,_,_,_,_,_,h⟩;unfold quot_Gcd.l0 at h;cases h
  · rintro k1 s1 ⟨x326000,x327000,u2,u3,u4,e0,e1,e2,e3,e4,e5,h⟩
    unfold quot_Gcd.l0 at h
    rw [St.fixT e0,St.fixB e1,St.fixT e2,St.fixB e3,St.fixT e4,St.fixB e5]
    refine X.seq ?_
    refine X.seq ?_
    refine X.still ?_
    refine O.pu (U.load (.tmp rfl) rfl rfl (U.whole rfl rfl)) ?_
    obtain ⟨q1,Hq1,h⟩:=Option.bind_eq_some_iff.1 h
    refine O.pu (U.call (ss:=[]) (.cons (.tmp (v:=.agg _) rfl) .nil) (.cons (.cl (.aggL (.cons .fi .nil))) .nil) (nat_Nat_Zero.cs Hq1) (.inl rfl) (.bool)) ?_
    refine O.pu (Pu.un (.tmp rfl) .not) ?_
    refine O.nil ?_
    refine X.condNot (.tmp rfl) (fun c=>?_) (fun c=>?_)
    · rw [if_neg (bf c)] at h
      refine X.skip ?_
      refine X.block ?_
      refine X.seq ?_
      refine X.still ?_
      refine O.pu (U.load (.tmp rfl) rfl rfl (U.whole rfl rfl)) ?_
      refine O.pu (U.load (.tmp rfl) rfl rfl (U.whole rfl rfl)) ?_
      obtain ⟨q2,Hq2,h⟩:=Option.bind_eq_some_iff.1 h
      refine O.pu (U.call (ss:=[]) (.cons (.tmp (v:=.agg _) rfl) (.cons (.tmp (v:=.agg _) rfl) .nil)) (.cons (.cl (.aggL (.cons .fi .nil))) (.cons (.cl (.aggL (.cons .fi .nil))) .nil)) (quot_Div.cs Hq2) (.inl rfl) (.tupL (.cons (.aggL (.cons .fi .nil)) (.cons (.aggL (.cons .fi .nil)) (.cons .int .nil))))) ?_
      refine O.pu (Pu.move (.tmp (v:=.tup _) rfl)) ?_
      refine O.pu (Pu.extract (.tmp rfl) rfl) ?_
      refine O.pu (Pu.extract (.tmp rfl) rfl) ?_
      refine O.pu (Pu.extract (.tmp rfl) rfl) ?_
      refine O.puE (v':=.op 5 ((s1.b 5).ver + 1) 0 0) (b':=⟨(s1.b 5).ver + 1, .own,(.vals [.agg [.fi .u64 []]]),_⟩) Pu.alloc rfl rfl ?_
      refine O.puE (v':=.op 6 ((s1.b 6).ver + 1) 0 0) (b':=⟨(s1.b 6).ver + 1, .own,(.vals [.agg [.fi .u64 []]]),_⟩) Pu.alloc rfl rfl ?_
      refine O.ef0 (U.storeE (.tmp rfl) rfl rfl (.tmp (v:=.agg _) rfl) rfl rfl (.whole (notBad_ne rfl) rfl) .one) ?_
      refine O.ef0 (U.storeE (.tmp rfl) rfl rfl (.tmp (v:=.agg _) rfl) rfl rfl (.whole (notBad_ne rfl) rfl) .one) ?_
      refine O.pu (Pu.assign (.tmp (v:=.int _ _) rfl)) ?_
      refine O.nil ?_
      refine X.drawn ?_
      refine D.pu (U.load (.tmp rfl) rfl rfl (U.whole rfl rfl)) ?_
      refine D.pu (U.load (.tmp rfl) rfl rfl (U.whole rfl rfl)) ?_
      refine D.ef0 (C.storeE (.tmp rfl) rfl rfl (.tmp (v:=.agg _) rfl) rfl rfl (.whole (notBad_ne rfl) rfl) .one) ?_
      refine D.ef0 (C.storeE (.tmp rfl) rfl rfl (.tmp (v:=.agg _) rfl) rfl rfl (.whole (notBad_ne rfl) rfl) .one) ?_
      refine D.nil (by kernel_rfl) ?_
      exact ⟨_,(by omega),_,_,_,_,_,rfl,rfl,rfl,rfl,rfl,rfl,h⟩
    · rw [if_pos c] at h
      refine X.exit (B.out ?_)
      refine X.seq ?_
      refine X.still ?_
      refine O.pu (U.load (.tmp rfl) rfl rfl (U.whole rfl rfl)) ?_
      refine O.ef0 (U.storeE (.tmp rfl) rfl rfl (.tmp (v:=.agg _) rfl) rfl rfl (.whole (notBad_ne rfl) rfl) .one) ?_
      refine O.nil ?_
      refine X.ret ?_
      cases h
      exact E.fin [] (.cell rfl rfl (Mode.live_ne rfl) (U.whole rfl rfl) .nil) (.cons (.cl (.aggL (.cons .fi .nil))) .nil)
noncomputable def c75:Code:=Tryz.f75.body.getD .skip
theorem fn75:FnOk Tryz.prog 75 Tryz.f75 c75:=⟨Tryz.func75,rfl,by kernel_rfl,by kernel_rfl,mixed⟩
theorem nat_Nat_limb.cs {l0_0:List Int} {a1:Int} {r:Int} (h:nat_Nat_limb.f l0_0 a1=some r):CS Tryz.prog 75 [.agg [.fi .u64 l0_0], .int .i64 a1] .no [.int .u64 r]:=by
  unfold nat_Nat_limb.f at h
  refine E.pure fn75 rfl ?_
  refine X.seq ?_
  refine X.still ?_
  refine O.puE (v':=.op 2 (1) 0 0) (b':=⟨1, .own,_,_⟩) (Pu.box (.tmp (v:=.agg _) rfl) rfl rfl) rfl rfl ?_
  refine O.pu (Pu.assign .int) ?_
  refine O.nil ?_
  refine X.seq ?_
  refine X.seq ?_
  refine X.still ?_
  refine O.pu (Pu.move (.tmp (v:=.int _ _) rfl)) ?_
  refine O.pu (U.fieldA rfl rfl rfl (.tmp rfl)) ?_
  refine O.pu (U.load (.tmp rfl) rfl rfl (U.cell rfl rfl rfl)) ?_
  refine O.pu (Pu.lenI rfl (.tmp rfl)) ?_
  refine O.pu (Pu.bin (.tmp rfl) (.tmp rfl) .geq) ?_
  refine O.nil ?_
  refine X.condP (.tmp rfl) (fun c=>?_) (fun c=>?_)
  · rw [if_pos c] at h
    refine X.seq ?_
    refine X.still ?_
    refine O.pu (Pu.assign .int) ?_
    refine O.nil ?_
    refine X.ret ?_
    cases h
    exact E.fin [] (.tmp (v:=.int _ _) rfl .nil) (.cons (.cl .int) .nil)
  · rw [if_neg c] at h
    refine X.skip ?_
    refine X.seq ?_
    refine X.still ?_
    refine O.pu (U.fieldA rfl rfl rfl (.tmp rfl)) ?_
    refine O.pu (U.load (.tmp rfl) rfl rfl (U.cell rfl rfl rfl)) ?_
    refine O.pu (Pu.move (.tmp (v:=.int _ _) rfl)) ?_
    repeat (rw [giff] at h;obtain ⟨_,h⟩:=h)
    refine O.pu (U.rdI rfl rfl (.tmp rfl) (.tmp rfl) (by omega) (by omega)) ?_
    refine O.pu (Pu.loadR (.tmp rfl) (U.self rfl rfl rfl)) ?_
    refine O.pu (Pu.assign (.tmp (v:=.int _ _) rfl)) ?_
    refine O.nil ?_
    refine X.ret ?_
    cases h
    exact E.fin [] (.tmp (v:=.int _ _) rfl .nil) (.cons (.cl .int) .nil)
noncomputable def c88:Code:=Tryz.f88.body.getD .skip
theorem fn88:FnOk Tryz.prog 88 Tryz.f88 c88:=⟨Tryz.func88,rfl,by kernel_rfl,by kernel_rfl,mixed⟩
theorem nat_Nat_Sub.cs {k:Nat} {l0_0:List Int} {l1_0:List Int} {r:List Int×Bool} (h:nat_Nat_Sub.f k l0_0 l1_0=some r):CS Tryz.prog 88 [.agg [.fi .u64 l0_0], .agg [.fi .u64 l1_0]] .no [.agg [.fi .u64 r.1], .bool r.2]:=by
  unfold nat_Nat_Sub.f at h
  refine E.pure fn88 rfl ?_
  refine X.seq ?_
  refine X.still ?_
  refine O.puE (v':=.op 2 (1) 0 0) (b':=⟨1, .own,_,_⟩) (Pu.box (.tmp (v:=.agg _) rfl) rfl rfl) rfl rfl ?_
  refine O.puE (v':=.op 3 (1) 0 0) (b':=⟨1, .own,_,_⟩) (Pu.box (.tmp (v:=.agg _) rfl) rfl rfl) rfl rfl ?_
  refine O.puE (v':=.op 4 (1) 0 0) (b':=⟨1, .own,(.vals [.agg [.fi .u64 []]]),_⟩) Pu.alloc rfl rfl ?_
  refine O.pu (Pu.assign .bool) ?_
  refine O.nil ?_
  refine X.seq ?_
  refine X.seq ?_
  refine X.still ?_
  refine O.pu (U.load (.tmp rfl) rfl rfl (U.whole rfl rfl)) ?_
  refine O.pu (U.load (.tmp rfl) rfl rfl (U.whole rfl rfl)) ?_
  obtain ⟨q1,Hq1,h⟩:=Option.bind_eq_some_iff.1 h
  refine O.pu (U.call (ss:=[]) (.cons (.tmp (v:=.agg _) rfl) (.cons (.tmp (v:=.agg _) rfl) .nil)) (.cons (.cl (.aggL (.cons .fi .nil))) (.cons (.cl (.aggL (.cons .fi .nil))) .nil)) (nat_Nat_Cmp.cs Hq1) (.inl rfl) (.int)) ?_
  refine O.pu (Pu.bin (.tmp rfl) .int .lss) ?_
  refine O.nil ?_
  refine X.condP (.tmp rfl) (fun c=>?_) (fun c=>?_)
  · rw [if_pos c] at h
    refine X.seq ?_
    refine X.still ?_
    refine O.pu (Pu.build rfl .nil) ?_
    refine O.ef0 (U.storeE (.tmp rfl) rfl rfl (.tmp (v:=.agg _) rfl) rfl rfl (.whole (notBad_ne rfl) rfl) .one) ?_
    refine O.pu (Pu.assign .bool) ?_
    refine O.nil ?_
    refine X.ret ?_
    cases h
    exact E.fin [] (.cell rfl rfl (Mode.live_ne rfl) (U.whole rfl rfl) (.tmp (v:=.bool _) rfl .nil)) (.cons (.cl (.aggL (.cons .fi .nil))) (.cons (.cl .bool) .nil))
  · rw [if_neg c] at h
    refine X.skip ?_
    refine X.seq ?_
    refine X.still ?_
    refine O.pu (U.fieldA rfl rfl rfl (.tmp rfl)) ?_
    refine O.pu (U.load (.tmp rfl) rfl rfl (U.cell rfl rfl rfl)) ?_
    refine O.pu (Pu.lenI rfl (.tmp rfl)) ?_
    repeat first|(rw [giff] at h;obtain ⟨_,h⟩:=h)|rw [bdff] at h
    refine O.puE (v':=.os 17 (1) 0 _ true) (b':=⟨1, .own,_,_⟩) (U.makeI rfl rfl (.tmp rfl) (.tmp rfl) (by omega) (by omega) rfl (by omega)) rfl rfl ?_
    refine O.pu (Pu.assign (.tmp (v:=.os _ _ _ _ _) rfl)) ?_
    refine O.nil ?_
    refine X.seq ?_
    refine X.still ?_
    refine O.pu (Pu.assign .int) ?_
    refine O.nil ?_
    refine X.seq ?_
    refine X.seq ?_
    refine X.still ?_
    refine O.pu (Pu.move (.tmp (v:=.os _ _ _ _ _) rfl)) ?_
    refine O.pu (Pu.lenO rfl (.tmp rfl)) ?_
    refine O.pu (Pu.move .int) ?_
    refine O.nil ?_
    refine X.block ?_
    refine X.inv (fun k s=>∃ x6 x7 x19 x20 x341000 x342000 n6 u17 u2 u3 u4,s.b 17=⟨u17, .own, .ints .u64 x6,75⟩∧s.t 6 = .os 17 u17 0 n6 true∧x6.length=n6∧s.t 7 = .int .u64 x7∧s.t 19 = .int .i64 x19∧s.t 20 = .int .i64 x20∧s.t 2 = .op 2 u2 0 0∧s.b 2=⟨u2, .own, .vals [.agg [.fi .u64 x341000]],29⟩∧s.t 3 = .op 3 u3 0 0∧s.b 3=⟨u3, .own, .vals [.agg [.fi .u64 x342000]],29⟩∧s.t 4 = .op 4 u4 0 0∧s.b 4=⟨u4, .own, .vals [.agg [.fi .u64 []]],29⟩∧nat_Nat_Sub.l0 k x6 x7 x19 x20 x341000 x342000=some r) ?_ ?_ ⟨_,_,_,_,_,_,_,_,_,_,_,rfl,rfl,rfl,rfl,rfl,rfl,rfl,rfl,rfl,rfl,rfl,rfl,h⟩
    · rintro s ⟨_,_,_,_,_,_,_,_,_,_,_,_,_,_,_,_,_,_,_,_,_,_,_,h⟩;unfold nat_Nat_Sub.l0 at h;cases h
    · rintro k1 s1 ⟨x6,x7,x19,x20,x341000,x342000,n6,u17,u2,u3,u4,e0,e1,rfl,e3,e4,e5,e6,e7,e8,e9,e10,e11,h⟩
      unfold nat_Nat_Sub.l0 at h
      rw [St.fixB e0,St.fixT e1,St.fixT e3,St.fixT e4,St.fixT e5,St.fixT e6,St.fixB e7,St.fixT e8,St.fixB e9,St.fixT e10,St.fixB e11]
      refine X.seq ?_
      refine X.still ?_
      refine O.pu (Pu.bin (.tmp rfl) (.tmp rfl) .lss) ?_
      refine O.nil ?_
      refine X.seq ?_
      refine X.condP (.tmp rfl) (fun c=>?_) (fun c=>?_)
      · rw [if_pos c] at h
        refine X.skip ?_
        refine X.seq ?_
        refine X.block ?_
        refine X.seq ?_
        refine X.still ?_
        refine O.pu (Pu.move (.tmp (v:=.int _ _) rfl)) ?_
        refine O.pu (Pu.assign (.tmp (v:=.int _ _) rfl)) ?_
        refine O.nil ?_
        refine X.drawn ?_
        refine D.pu (Pu.move (.tmp (v:=.os _ _ _ _ _) rfl)) ?_
        refine D.pu (Pu.move (.tmp (v:=.int _ _) rfl)) ?_
        refine D.pu (U.fieldA rfl rfl rfl (.tmp rfl)) ?_
        refine D.pu (U.load (.tmp rfl) rfl rfl (U.cell rfl rfl rfl)) ?_
        refine D.pu (Pu.move (.tmp (v:=.int _ _) rfl)) ?_
        repeat (rw [giff] at h;obtain ⟨_,h⟩:=h)
        refine D.pu (U.rdI rfl rfl (.tmp rfl) (.tmp rfl) (by omega) (by omega)) ?_
        refine D.pu (Pu.loadR (.tmp rfl) (U.self rfl rfl rfl)) ?_
        refine D.pu (U.load (.tmp rfl) rfl rfl (U.whole rfl rfl)) ?_
        refine D.pu (Pu.move (.tmp (v:=.int _ _) rfl)) ?_
        obtain ⟨q2,Hq2,h⟩:=Option.bind_eq_some_iff.1 h
        refine D.pu (U.call (ss:=[]) (.cons (.tmp (v:=.agg _) rfl) (.cons (.tmp (v:=.int _ _) rfl) .nil)) (.cons (.cl (.aggL (.cons .fi .nil))) (.cons (.cl .int) .nil)) (nat_Nat_limb.cs Hq2) (.inl rfl) (.int)) ?_
        refine D.pu (Pu.move (.tmp (v:=.int _ _) rfl)) ?_
        repeat (rw [giff] at h;obtain ⟨_,h⟩:=h)
        refine D.pu (U.call (ss:=[]) (.cons (.tmp (v:=.int _ _) rfl) (.cons (.tmp (v:=.int _ _) rfl) (.cons (.tmp (v:=.int _ _) rfl) .nil))) (.cons (.cl .int) (.cons (.cl .int) (.cons (.cl .int) .nil))) (sub64_cs (by omega)) (.inl rfl) (.tupL (.cons .int (.cons .int .nil)))) ?_
        refine D.pu (Pu.move (.tmp (v:=.tup _) rfl)) ?_
        refine D.pu (Pu.extract (.tmp rfl) rfl) ?_
        refine D.pu (Pu.extract (.tmp rfl) rfl) ?_
        refine D.pu (U.indexO0 rfl (.tmp rfl) rfl rfl (.tmp rfl) (by first|omega|(simp only [List.length_set] at *;omega)) (by first|omega|(simp only [List.length_set] at *;omega)) rfl rfl) ?_
        refine D.ef0 (C.storeE (.tmp rfl) rfl rfl (.tmp (v:=.int _ _) rfl) rfl rfl (.whole (notBad_ne rfl) rfl) .ints) ?_
        refine D.pu (Pu.assign (.tmp (v:=.int _ _) rfl)) ?_
        refine D.nil (by kernel_rfl) ?_
        refine X.still ?_
        refine O.pu (Pu.bin (.tmp rfl) .int U.add64) ?_
        refine O.pu (Pu.move (.tmp (v:=.int _ _) rfl)) ?_
        refine O.nil ?_
        exact ⟨_,(by omega),_,_,_,_,_,_,_,_,_,_,_,rfl,rfl,(by first|rfl|(simp only [List.length_set];done)|(simp only [List.length_drop,List.length_take,List.length_append,List.length_set] at *;omega)),rfl,rfl,rfl,rfl,rfl,rfl,rfl,rfl,rfl,h⟩
      · rw [if_neg c] at h
        refine X.exit (B.out ?_)
        refine X.seq ?_
        refine X.still ?_
        refine O.pu (Pu.move (.tmp (v:=.os _ _ _ _ _) rfl)) ?_
        obtain ⟨q4,Hq4,h⟩:=Option.bind_eq_some_iff.1 h
        refine O.ef (U.callZ (ss:=[17]) (.cons (.tmp (v:=.os _ _ _ _ _) rfl) .nil) (.cons (.osIf (by simp) rfl (Mode.live_ne rfl) rfl (by first|rfl|(simp only [List.length_set];done)|(simp only [List.length_drop,List.length_take,List.length_append,List.length_set] at *;omega))) .nil) (nat_trimmed.cs Hq4) (.aggL (.cons .fi .nil)) (nowin rfl)) ?_
        refine O.ef0 (U.storeE (.tmp rfl) rfl rfl (.tmp (v:=.agg _) rfl) rfl rfl (.whole (notBad_ne rfl) rfl) .one) ?_
        refine O.pu (Pu.assign .bool) ?_
        refine O.nil ?_
        refine X.ret ?_
        cases h
        exact E.fin [] (.cell rfl rfl (Mode.live_ne rfl) (U.whole rfl rfl) (.tmp (v:=.bool _) rfl .nil)) (.cons (.cl (.aggL (.cons .fi .nil))) (.cons (.cl .bool) .nil))
noncomputable def c60:Code:=Tryz.f60.body.getD .skip
theorem fn60:FnOk Tryz.prog 60 Tryz.f60 c60:=⟨Tryz.func60,rfl,by kernel_rfl,by kernel_rfl,mixed⟩
theorem frac_made.cs {k:Nat} {l0_0:List Int} {a0_1:Bool} {l1_0:List Int} {r:List Int×Bool×List Int} (h:frac_made.f k l0_0 a0_1 l1_0=some r):CS Tryz.prog 60 [.agg [.fi .u64 l0_0, .bool a0_1], .agg [.fi .u64 l1_0]] .no [.agg [.fi .u64 r.1, .bool r.2.1, .fi .u64 r.2.2]]:=by
  unfold frac_made.f at h
  refine E.pure fn60 rfl ?_
  refine X.seq ?_
  refine X.still ?_
  refine O.puE (v':=.op 2 (1) 0 0) (b':=⟨1, .own,_,_⟩) (Pu.box (.tmp (v:=.agg _) rfl) rfl rfl) rfl rfl ?_
  refine O.puE (v':=.op 3 (1) 0 0) (b':=⟨1, .own,_,_⟩) (Pu.box (.tmp (v:=.agg _) rfl) rfl rfl) rfl rfl ?_
  refine O.puE (v':=.op 4 (1) 0 0) (b':=⟨1, .own,(.vals [.agg [.fi .u64 [], .bool false, .fi .u64 []]]),_⟩) Pu.alloc rfl rfl ?_
  refine O.nil ?_
  refine X.seq ?_
  refine X.drawn ?_
  refine D.pu (U.load (.tmp rfl) rfl rfl (U.whole rfl rfl)) ?_
  obtain ⟨q1,Hq1,h⟩:=Option.bind_eq_some_iff.1 h
  refine D.pu (U.call (ss:=[]) (.cons (.tmp (v:=.agg _) rfl) .nil) (.cons (.cl (.aggL (.cons .fi (.cons .bool .nil)))) .nil) (whole_Int_Abs.cs Hq1) (.inl rfl) (.aggL (.cons .fi .nil))) ?_
  refine D.pu (U.load (.tmp rfl) rfl rfl (U.whole rfl rfl)) ?_
  obtain ⟨q2,Hq2,h⟩:=Option.bind_eq_some_iff.1 h
  refine D.pu (U.call (ss:=[]) (.cons (.tmp (v:=.agg _) rfl) (.cons (.tmp (v:=.agg _) rfl) .nil)) (.cons (.cl (.aggL (.cons .fi .nil))) (.cons (.cl (.aggL (.cons .fi .nil))) .nil)) (quot_Gcd.cs Hq2) (.inl rfl) (.aggL (.cons .fi .nil))) ?_
  refine D.puE (v':=.op 5 (1) 0 0) (b':=⟨1, .own,(.vals [.agg [.fi .u64 []]]),_⟩) Pu.alloc rfl rfl ?_
  refine D.ef0 (C.storeE (.tmp rfl) rfl rfl (.tmp (v:=.agg _) rfl) rfl rfl (.whole (notBad_ne rfl) rfl) .one) ?_
  refine D.nil (by kernel_rfl) ?_
  refine X.seq ?_
  refine X.drawn ?_
  refine D.pu (U.load (.tmp rfl) rfl rfl (U.whole rfl rfl)) ?_
  obtain ⟨q3,Hq3,h⟩:=Option.bind_eq_some_iff.1 h
  refine D.pu (U.call (ss:=[]) (.cons (.tmp (v:=.agg _) rfl) .nil) (.cons (.cl (.aggL (.cons .fi (.cons .bool .nil)))) .nil) (whole_Int_Abs.cs Hq3) (.inl rfl) (.aggL (.cons .fi .nil))) ?_
  refine D.pu (U.load (.tmp rfl) rfl rfl (U.whole rfl rfl)) ?_
  obtain ⟨q4,Hq4,h⟩:=Option.bind_eq_some_iff.1 h
  refine D.pu (U.call (ss:=[]) (.cons (.tmp (v:=.agg _) rfl) (.cons (.tmp (v:=.agg _) rfl) .nil)) (.cons (.cl (.aggL (.cons .fi .nil))) (.cons (.cl (.aggL (.cons .fi .nil))) .nil)) (quot_Div.cs Hq4) (.inl rfl) (.tupL (.cons (.aggL (.cons .fi .nil)) (.cons (.aggL (.cons .fi .nil)) (.cons .int .nil))))) ?_
  refine D.pu (Pu.move (.tmp (v:=.tup _) rfl)) ?_
  refine D.pu (Pu.extract (.tmp rfl) rfl) ?_
  refine D.pu (Pu.extract (.tmp rfl) rfl) ?_
  refine D.pu (Pu.extract (.tmp rfl) rfl) ?_
  refine D.puE (v':=.op 6 (1) 0 0) (b':=⟨1, .own,(.vals [.agg [.fi .u64 []]]),_⟩) Pu.alloc rfl rfl ?_
  refine D.puE (v':=.op 7 (1) 0 0) (b':=⟨1, .own,(.vals [.agg [.fi .u64 []]]),_⟩) Pu.alloc rfl rfl ?_
  refine D.ef0 (C.storeE (.tmp rfl) rfl rfl (.tmp (v:=.agg _) rfl) rfl rfl (.whole (notBad_ne rfl) rfl) .one) ?_
  refine D.ef0 (C.storeE (.tmp rfl) rfl rfl (.tmp (v:=.agg _) rfl) rfl rfl (.whole (notBad_ne rfl) rfl) .one) ?_
  refine D.pu (Pu.assign (.tmp (v:=.int _ _) rfl)) ?_
  refine D.nil (by kernel_rfl) ?_
  refine X.seq ?_
  refine X.still ?_
  refine O.pu (U.load (.tmp rfl) rfl rfl (U.whole rfl rfl)) ?_
  refine O.pu (U.load (.tmp rfl) rfl rfl (U.whole rfl rfl)) ?_
  obtain ⟨q5,Hq5,h⟩:=Option.bind_eq_some_iff.1 h
  refine O.pu (U.call (ss:=[]) (.cons (.tmp (v:=.agg _) rfl) (.cons (.tmp (v:=.agg _) rfl) .nil)) (.cons (.cl (.aggL (.cons .fi .nil))) (.cons (.cl (.aggL (.cons .fi .nil))) .nil)) (quot_Div.cs Hq5) (.inl rfl) (.tupL (.cons (.aggL (.cons .fi .nil)) (.cons (.aggL (.cons .fi .nil)) (.cons .int .nil))))) ?_
  refine O.pu (Pu.move (.tmp (v:=.tup _) rfl)) ?_
  refine O.pu (Pu.extract (.tmp rfl) rfl) ?_
  refine O.pu (Pu.extract (.tmp rfl) rfl) ?_
  refine O.pu (Pu.extract (.tmp rfl) rfl) ?_
  refine O.puE (v':=.op 9 (1) 0 0) (b':=⟨1, .own,(.vals [.agg [.fi .u64 []]]),_⟩) Pu.alloc rfl rfl ?_
  refine O.puE (v':=.op 10 (1) 0 0) (b':=⟨1, .own,(.vals [.agg [.fi .u64 []]]),_⟩) Pu.alloc rfl rfl ?_
  refine O.ef0 (U.storeE (.tmp rfl) rfl rfl (.tmp (v:=.agg _) rfl) rfl rfl (.whole (notBad_ne rfl) rfl) .one) ?_
  refine O.ef0 (U.storeE (.tmp rfl) rfl rfl (.tmp (v:=.agg _) rfl) rfl rfl (.whole (notBad_ne rfl) rfl) .one) ?_
  refine O.pu (Pu.assign (.tmp (v:=.int _ _) rfl)) ?_
  refine O.nil ?_
  refine X.seq ?_
  refine X.drawn ?_
  refine D.pu (U.load (.tmp rfl) rfl rfl (U.whole rfl rfl)) ?_
  refine D.puE (v':=.os 35 (1) 0 _ true) (b':=⟨1, .own,_,_⟩) (U.litI rfl rfl (.cons .int .nil) rfl rfl) rfl rfl ?_
  obtain ⟨q6,Hq6,h⟩:=Option.bind_eq_some_iff.1 h
  refine D.ef (C.callZ (ss:=[35]) (.cons (.tmp (v:=.os _ _ _ _ _) rfl) .nil) (.cons (.osIf (by simp) rfl (Mode.live_ne rfl) rfl (by first|rfl|(simp only [List.length_set];done)|(simp only [List.length_drop,List.length_take,List.length_append,List.length_set] at *;omega))) .nil) (nat_Of.cs Hq6) (.aggL (.cons .fi .nil)) (nowin rfl)) ?_
  obtain ⟨q7,Hq7,h⟩:=Option.bind_eq_some_iff.1 h
  refine D.pu (U.call (ss:=[]) (.cons (.tmp (v:=.agg _) rfl) (.cons (.tmp (v:=.agg _) rfl) .nil)) (.cons (.cl (.aggL (.cons .fi .nil))) (.cons (.cl (.aggL (.cons .fi .nil))) .nil)) (nat_Nat_Sub.cs Hq7) (.inl rfl) (.tupL (.cons (.aggL (.cons .fi .nil)) (.cons .bool .nil)))) ?_
  refine D.pu (Pu.move (.tmp (v:=.tup _) rfl)) ?_
  refine D.pu (Pu.extract (.tmp rfl) rfl) ?_
  refine D.pu (Pu.extract (.tmp rfl) rfl) ?_
  refine D.puE (v':=.op 12 (1) 0 0) (b':=⟨1, .own,(.vals [.agg [.fi .u64 []]]),_⟩) Pu.alloc rfl rfl ?_
  refine D.ef0 (C.storeE (.tmp rfl) rfl rfl (.tmp (v:=.agg _) rfl) rfl rfl (.whole (notBad_ne rfl) rfl) .one) ?_
  refine D.pu (Pu.assign (.tmp (v:=.bool _) rfl)) ?_
  refine D.nil (by kernel_rfl) ?_
  refine X.seq ?_
  refine X.drawn ?_
  refine D.pu (U.load (.tmp rfl) rfl rfl (U.whole rfl rfl)) ?_
  refine D.pu (U.load (.tmp rfl) rfl rfl (U.whole rfl rfl)) ?_
  obtain ⟨q8,Hq8,h⟩:=Option.bind_eq_some_iff.1 h
  refine D.pu (U.call (ss:=[]) (.cons (.tmp (v:=.agg _) rfl) .nil) (.cons (.cl (.aggL (.cons .fi (.cons .bool .nil)))) .nil) (whole_Int_Sign.cs Hq8) (.inl rfl) (.int)) ?_
  refine D.pu (Pu.bin (.tmp rfl) .int .lss) ?_
  obtain ⟨q9,Hq9,h⟩:=Option.bind_eq_some_iff.1 h
  refine D.pu (U.call (ss:=[]) (.cons (.tmp (v:=.agg _) rfl) (.cons (.tmp (v:=.bool _) rfl) .nil)) (.cons (.cl (.aggL (.cons .fi .nil))) (.cons (.cl .bool) .nil)) (whole_Of.cs Hq9) (.inl rfl) (.aggL (.cons .fi (.cons .bool .nil)))) ?_
  refine D.pu (U.load (.tmp rfl) rfl rfl (U.whole rfl rfl)) ?_
  refine D.pu (Pu.build rfl (.cons (.tmp (v:=.agg _) rfl) rfl rfl rfl (.put (.put .done)) (.cons (.tmp (v:=.agg _) rfl) rfl rfl rfl (.skip (.skip (.put .done))) .nil))) ?_
  refine D.ef0 (C.storeE (.tmp rfl) rfl rfl (.tmp (v:=.agg _) rfl) rfl rfl (.whole (notBad_ne rfl) rfl) .one) ?_
  refine D.nil (by kernel_rfl) ?_
  refine X.ret ?_
  cases h
  exact E.fin [] (.cell rfl rfl (Mode.live_ne rfl) (U.whole rfl rfl) .nil) (.cons (.cl (.aggL (.cons .fi (.cons .bool (.cons .fi .nil))))) .nil)
noncomputable def c37:Code:=Tryz.f37.body.getD .skip
theorem fn37:FnOk Tryz.prog 37 Tryz.f37 c37:=⟨Tryz.func37,rfl,by kernel_rfl,by kernel_rfl,mixed⟩
theorem frac_Of.cs {k:Nat} {l0_0:List Int} {a0_1:Bool} {l1_0:List Int} {a1_1:Bool} {r:List Int×Bool×List Int×Int} (h:frac_Of.f k l0_0 a0_1 l1_0 a1_1=some r):CS Tryz.prog 37 [.agg [.fi .u64 l0_0, .bool a0_1], .agg [.fi .u64 l1_0, .bool a1_1]] .no [.agg [.fi .u64 r.1, .bool r.2.1, .fi .u64 r.2.2.1], .int .i64 r.2.2.2]:=by
  unfold frac_Of.f at h
  refine E.pure fn37 rfl ?_
  refine X.seq ?_
  refine X.still ?_
  refine O.puE (v':=.op 2 (1) 0 0) (b':=⟨1, .own,_,_⟩) (Pu.box (.tmp (v:=.agg _) rfl) rfl rfl) rfl rfl ?_
  refine O.puE (v':=.op 3 (1) 0 0) (b':=⟨1, .own,_,_⟩) (Pu.box (.tmp (v:=.agg _) rfl) rfl rfl) rfl rfl ?_
  refine O.puE (v':=.op 4 (1) 0 0) (b':=⟨1, .own,(.vals [.agg [.fi .u64 [], .bool false, .fi .u64 []]]),_⟩) Pu.alloc rfl rfl ?_
  refine O.pu (Pu.assign .int) ?_
  refine O.nil ?_
  refine X.seq ?_
  refine X.seq ?_
  refine X.still ?_
  refine O.pu (U.load (.tmp rfl) rfl rfl (U.whole rfl rfl)) ?_
  obtain ⟨q1,Hq1,h⟩:=Option.bind_eq_some_iff.1 h
  refine O.pu (U.call (ss:=[]) (.cons (.tmp (v:=.agg _) rfl) .nil) (.cons (.cl (.aggL (.cons .fi (.cons .bool .nil)))) .nil) (whole_Int_Sign.cs Hq1) (.inl rfl) (.int)) ?_
  refine O.nil ?_
  refine X.block ?_
  refine X.seq ?_
  refine X.still ?_
  refine O.pu (Pu.bin (.tmp rfl) .int .eql) ?_
  refine O.pu (Pu.assign (.tmp (v:=.bool _) rfl)) ?_
  refine O.nil ?_
  refine X.condE (.tmp rfl) (fun c=>?_) (fun c=>?_)
  · rw [if_pos c] at h
    refine X.seq ?_
    refine X.still ?_
    refine O.pu (Pu.build rfl .nil) ?_
    refine O.ef0 (U.storeE (.tmp rfl) rfl rfl (.tmp (v:=.agg _) rfl) rfl rfl (.whole (notBad_ne rfl) rfl) .one) ?_
    refine O.pu (Pu.assign .int) ?_
    refine O.nil ?_
    refine X.ret ?_
    cases h
    exact E.fin [] (.cell rfl rfl (Mode.live_ne rfl) (U.whole rfl rfl) (.tmp (v:=.int _ _) rfl .nil)) (.cons (.cl (.aggL (.cons .fi (.cons .bool (.cons .fi .nil))))) (.cons (.cl .int) .nil))
  · rw [if_neg c] at h
    refine X.seq ?_
    refine X.still ?_
    refine O.pu (Pu.bin (.tmp rfl) .int .eql) ?_
    refine O.pu (Pu.assign (.tmp (v:=.bool _) rfl)) ?_
    refine O.nil ?_
    refine X.condE (.tmp rfl) (fun c=>?_) (fun c=>?_)
    · rw [if_pos c] at h
      refine X.still ?_
      refine O.pu (U.load (.tmp rfl) rfl rfl (U.whole rfl rfl)) ?_
      obtain ⟨q2,Hq2,h⟩:=Option.bind_eq_some_iff.1 h
      refine O.pu (U.call (ss:=[]) (.cons (.tmp (v:=.agg _) rfl) .nil) (.cons (.cl (.aggL (.cons .fi (.cons .bool .nil)))) .nil) (whole_Int_Neg.cs Hq2) (.inl rfl) (.aggL (.cons .fi (.cons .bool .nil)))) ?_
      refine O.ef0 (U.storeE (.tmp rfl) rfl rfl (.tmp (v:=.agg _) rfl) rfl rfl (.whole (notBad_ne rfl) rfl) .one) ?_
      refine O.nil ?_
      refine X.seq ?_
      refine X.drawn ?_
      refine D.pu (U.load (.tmp rfl) rfl rfl (U.whole rfl rfl)) ?_
      refine D.pu (U.load (.tmp rfl) rfl rfl (U.whole rfl rfl)) ?_
      obtain ⟨q3,Hq3,h⟩:=Option.bind_eq_some_iff.1 h
      refine D.pu (U.call (ss:=[]) (.cons (.tmp (v:=.agg _) rfl) .nil) (.cons (.cl (.aggL (.cons .fi (.cons .bool .nil)))) .nil) (whole_Int_Abs.cs Hq3) (.inl rfl) (.aggL (.cons .fi .nil))) ?_
      obtain ⟨q4,Hq4,h⟩:=Option.bind_eq_some_iff.1 h
      refine D.pu (U.call (ss:=[]) (.cons (.tmp (v:=.agg _) rfl) (.cons (.tmp (v:=.agg _) rfl) .nil)) (.cons (.cl (.aggL (.cons .fi (.cons .bool .nil)))) (.cons (.cl (.aggL (.cons .fi .nil))) .nil)) (frac_made.cs Hq4) (.inl rfl) (.aggL (.cons .fi (.cons .bool (.cons .fi .nil))))) ?_
      refine D.ef0 (C.storeE (.tmp rfl) rfl rfl (.tmp (v:=.agg _) rfl) rfl rfl (.whole (notBad_ne rfl) rfl) .one) ?_
      refine D.pu (Pu.assign .int) ?_
      refine D.nil (by kernel_rfl) ?_
      refine X.ret ?_
      cases h
      exact E.fin [] (.cell rfl rfl (Mode.live_ne rfl) (U.whole rfl rfl) (.tmp (v:=.int _ _) rfl .nil)) (.cons (.cl (.aggL (.cons .fi (.cons .bool (.cons .fi .nil))))) (.cons (.cl .int) .nil))
    · rw [if_neg c] at h
      refine X.skip ?_
      refine X.seq ?_
      refine X.drawn ?_
      refine D.pu (U.load (.tmp rfl) rfl rfl (U.whole rfl rfl)) ?_
      refine D.pu (U.load (.tmp rfl) rfl rfl (U.whole rfl rfl)) ?_
      obtain ⟨q5,Hq5,h⟩:=Option.bind_eq_some_iff.1 h
      refine D.pu (U.call (ss:=[]) (.cons (.tmp (v:=.agg _) rfl) .nil) (.cons (.cl (.aggL (.cons .fi (.cons .bool .nil)))) .nil) (whole_Int_Abs.cs Hq5) (.inl rfl) (.aggL (.cons .fi .nil))) ?_
      obtain ⟨q6,Hq6,h⟩:=Option.bind_eq_some_iff.1 h
      refine D.pu (U.call (ss:=[]) (.cons (.tmp (v:=.agg _) rfl) (.cons (.tmp (v:=.agg _) rfl) .nil)) (.cons (.cl (.aggL (.cons .fi (.cons .bool .nil)))) (.cons (.cl (.aggL (.cons .fi .nil))) .nil)) (frac_made.cs Hq6) (.inl rfl) (.aggL (.cons .fi (.cons .bool (.cons .fi .nil))))) ?_
      refine D.ef0 (C.storeE (.tmp rfl) rfl rfl (.tmp (v:=.agg _) rfl) rfl rfl (.whole (notBad_ne rfl) rfl) .one) ?_
      refine D.pu (Pu.assign .int) ?_
      refine D.nil (by kernel_rfl) ?_
      refine X.ret ?_
      cases h
      exact E.fin [] (.cell rfl rfl (Mode.live_ne rfl) (U.whole rfl rfl) (.tmp (v:=.int _ _) rfl .nil)) (.cons (.cl (.aggL (.cons .fi (.cons .bool (.cons .fi .nil))))) (.cons (.cl .int) .nil))
noncomputable def c38:Code:=Tryz.f38.body.getD .skip
theorem fn38:FnOk Tryz.prog 38 Tryz.f38 c38:=⟨Tryz.func38,rfl,by kernel_rfl,by kernel_rfl,mixed⟩
theorem whole_From.cs {k:Nat} {a0:Int} {r:List Int×Bool} (h:whole_From.f k a0=some r):CS Tryz.prog 38 [.int .i64 a0] .no [.agg [.fi .u64 r.1, .bool r.2]]:=by
  unfold whole_From.f at h
  refine E.pure fn38 rfl ?_
  refine X.seq ?_
  refine X.still ?_
  refine O.puE (v':=.op 2 (1) 0 0) (b':=⟨1, .own,(.vals [.agg [.fi .u64 [], .bool false]]),_⟩) Pu.alloc rfl rfl ?_
  refine O.nil ?_
  refine X.seq ?_
  refine X.seq ?_
  refine X.still ?_
  refine O.pu (Pu.move (.tmp (v:=.int _ _) rfl)) ?_
  refine O.pu (Pu.bin (.tmp rfl) .int .lss) ?_
  refine O.nil ?_
  refine X.condP (.tmp rfl) (fun c=>?_) (fun c=>?_)
  · rw [if_pos c] at h
    refine X.seq ?_
    refine X.still ?_
    refine O.pu (Pu.move (.tmp (v:=.int _ _) rfl)) ?_
    refine O.pu (U.convI rfl (.tmp rfl)) ?_
    refine O.pu (Pu.un (.tmp rfl) U.neg) ?_
    refine O.puE (v':=.os 8 (1) 0 _ true) (b':=⟨1, .own,_,_⟩) (U.litI rfl rfl (.cons (.tmp (v:=.int _ _) rfl) .nil) rfl rfl) rfl rfl ?_
    obtain ⟨q1,Hq1,h⟩:=Option.bind_eq_some_iff.1 h
    refine O.ef (U.callZ (ss:=[8]) (.cons (.tmp (v:=.os _ _ _ _ _) rfl) .nil) (.cons (.osIf (by simp) rfl (Mode.live_ne rfl) rfl (by first|rfl|(simp only [List.length_set];done)|(simp only [List.length_drop,List.length_take,List.length_append,List.length_set] at *;omega))) .nil) (nat_Of.cs Hq1) (.aggL (.cons .fi .nil)) (nowin rfl)) ?_
    obtain ⟨q2,Hq2,h⟩:=Option.bind_eq_some_iff.1 h
    refine O.pu (U.call (ss:=[]) (.cons (.tmp (v:=.agg _) rfl) (.cons .bool .nil)) (.cons (.cl (.aggL (.cons .fi .nil))) (.cons (.cl .bool) .nil)) (whole_Of.cs Hq2) (.inl rfl) (.aggL (.cons .fi (.cons .bool .nil)))) ?_
    refine O.ef0 (U.storeE (.tmp rfl) rfl rfl (.tmp (v:=.agg _) rfl) rfl rfl (.whole (notBad_ne rfl) rfl) .one) ?_
    refine O.nil ?_
    refine X.ret ?_
    cases h
    exact E.fin [] (.cell rfl rfl (Mode.live_ne rfl) (U.whole rfl rfl) .nil) (.cons (.cl (.aggL (.cons .fi (.cons .bool .nil)))) .nil)
  · rw [if_neg c] at h
    refine X.skip ?_
    refine X.seq ?_
    refine X.still ?_
    refine O.pu (Pu.move (.tmp (v:=.int _ _) rfl)) ?_
    refine O.pu (U.convI rfl (.tmp rfl)) ?_
    refine O.puE (v':=.os 13 (1) 0 _ true) (b':=⟨1, .own,_,_⟩) (U.litI rfl rfl (.cons (.tmp (v:=.int _ _) rfl) .nil) rfl rfl) rfl rfl ?_
    obtain ⟨q3,Hq3,h⟩:=Option.bind_eq_some_iff.1 h
    refine O.ef (U.callZ (ss:=[13]) (.cons (.tmp (v:=.os _ _ _ _ _) rfl) .nil) (.cons (.osIf (by simp) rfl (Mode.live_ne rfl) rfl (by first|rfl|(simp only [List.length_set];done)|(simp only [List.length_drop,List.length_take,List.length_append,List.length_set] at *;omega))) .nil) (nat_Of.cs Hq3) (.aggL (.cons .fi .nil)) (nowin rfl)) ?_
    obtain ⟨q4,Hq4,h⟩:=Option.bind_eq_some_iff.1 h
    refine O.pu (U.call (ss:=[]) (.cons (.tmp (v:=.agg _) rfl) (.cons .bool .nil)) (.cons (.cl (.aggL (.cons .fi .nil))) (.cons (.cl .bool) .nil)) (whole_Of.cs Hq4) (.inl rfl) (.aggL (.cons .fi (.cons .bool .nil)))) ?_
    refine O.ef0 (U.storeE (.tmp rfl) rfl rfl (.tmp (v:=.agg _) rfl) rfl rfl (.whole (notBad_ne rfl) rfl) .one) ?_
    refine O.nil ?_
    refine X.ret ?_
    cases h
    exact E.fin [] (.cell rfl rfl (Mode.live_ne rfl) (U.whole rfl rfl) .nil) (.cons (.cl (.aggL (.cons .fi (.cons .bool .nil)))) .nil)
noncomputable def c19:Code:=Tryz.f19.body.getD .skip
theorem fn19:FnOk Tryz.prog 19 Tryz.f19 c19:=⟨Tryz.func19,rfl,by kernel_rfl,by kernel_rfl,mixed⟩
theorem count_part.cs {k:Nat} {a0:Int} {a1:Int} {r:List Int×Bool×List Int} (h:count_part.f k a0 a1=some r):CS Tryz.prog 19 [.int .i64 a0, .int .i64 a1] .no [.agg [.fi .u64 r.1, .bool r.2.1, .fi .u64 r.2.2]]:=by
  unfold count_part.f at h
  refine E.pure fn19 rfl ?_
  refine X.seq ?_
  refine X.still ?_
  refine O.puE (v':=.op 4 (1) 0 0) (b':=⟨1, .own,(.vals [.agg [.fi .u64 [], .bool false, .fi .u64 []]]),_⟩) Pu.alloc rfl rfl ?_
  refine O.nil ?_
  refine X.seq ?_
  refine X.still ?_
  refine O.pu (Pu.move (.tmp (v:=.int _ _) rfl)) ?_
  obtain ⟨q1,Hq1,h⟩:=Option.bind_eq_some_iff.1 h
  refine O.pu (U.call (ss:=[]) (.cons (.tmp (v:=.int _ _) rfl) .nil) (.cons (.cl .int) .nil) (whole_From.cs Hq1) (.inl rfl) (.aggL (.cons .fi (.cons .bool .nil)))) ?_
  refine O.pu (Pu.move (.tmp (v:=.int _ _) rfl)) ?_
  obtain ⟨q2,Hq2,h⟩:=Option.bind_eq_some_iff.1 h
  refine O.pu (U.call (ss:=[]) (.cons (.tmp (v:=.int _ _) rfl) .nil) (.cons (.cl .int) .nil) (whole_From.cs Hq2) (.inl rfl) (.aggL (.cons .fi (.cons .bool .nil)))) ?_
  obtain ⟨q3,Hq3,h⟩:=Option.bind_eq_some_iff.1 h
  refine O.pu (U.call (ss:=[]) (.cons (.tmp (v:=.agg _) rfl) (.cons (.tmp (v:=.agg _) rfl) .nil)) (.cons (.cl (.aggL (.cons .fi (.cons .bool .nil)))) (.cons (.cl (.aggL (.cons .fi (.cons .bool .nil)))) .nil)) (frac_Of.cs Hq3) (.inl rfl) (.tupL (.cons (.aggL (.cons .fi (.cons .bool (.cons .fi .nil)))) (.cons .int .nil)))) ?_
  refine O.pu (Pu.move (.tmp (v:=.tup _) rfl)) ?_
  refine O.pu (Pu.extract (.tmp rfl) rfl) ?_
  refine O.pu (Pu.extract (.tmp rfl) rfl) ?_
  refine O.puE (v':=.op 5 (1) 0 0) (b':=⟨1, .own,(.vals [.agg [.fi .u64 [], .bool false, .fi .u64 []]]),_⟩) Pu.alloc rfl rfl ?_
  refine O.ef0 (U.storeE (.tmp rfl) rfl rfl (.tmp (v:=.agg _) rfl) rfl rfl (.whole (notBad_ne rfl) rfl) .one) ?_
  refine O.pu (Pu.assign (.tmp (v:=.int _ _) rfl)) ?_
  refine O.nil ?_
  refine X.seq ?_
  refine X.still ?_
  refine O.pu (U.load (.tmp rfl) rfl rfl (U.whole rfl rfl)) ?_
  refine O.ef0 (U.storeE (.tmp rfl) rfl rfl (.tmp (v:=.agg _) rfl) rfl rfl (.whole (notBad_ne rfl) rfl) .one) ?_
  refine O.nil ?_
  refine X.ret ?_
  cases h
  exact E.fin [] (.cell rfl rfl (Mode.live_ne rfl) (U.whole rfl rfl) .nil) (.cons (.cl (.aggL (.cons .fi (.cons .bool (.cons .fi .nil))))) .nil)
noncomputable def c18:Code:=Tryz.f18.body.getD .skip
theorem fn18:FnOk Tryz.prog 18 Tryz.f18 c18:=⟨Tryz.func18,rfl,by kernel_rfl,by kernel_rfl,mixed⟩
theorem count_thirty.cs {k:Nat} {a0_0:Int} {a0_1:Int} {a0_2:Int} {a1_0:Int} {a1_1:Int} {a1_2:Int} {r:List Int×Bool×List Int} (h:count_thirty.f k a0_0 a0_1 a0_2 a1_0 a1_1 a1_2=some r):CS Tryz.prog 18 [.agg [.int .i64 a0_0, .int .i64 a0_1, .int .i64 a0_2], .agg [.int .i64 a1_0, .int .i64 a1_1, .int .i64 a1_2]] .no [.agg [.fi .u64 r.1, .bool r.2.1, .fi .u64 r.2.2]]:=by
  unfold count_thirty.f at h
  refine E.pure fn18 rfl ?_
  refine X.seq ?_
  refine X.still ?_
  refine O.puE (v':=.op 2 (1) 0 0) (b':=⟨1, .own,_,_⟩) (Pu.box (.tmp (v:=.agg _) rfl) rfl rfl) rfl rfl ?_
  refine O.puE (v':=.op 3 (1) 0 0) (b':=⟨1, .own,_,_⟩) (Pu.box (.tmp (v:=.agg _) rfl) rfl rfl) rfl rfl ?_
  refine O.puE (v':=.op 4 (1) 0 0) (b':=⟨1, .own,(.vals [.agg [.fi .u64 [], .bool false, .fi .u64 []]]),_⟩) Pu.alloc rfl rfl ?_
  refine O.nil ?_
  refine X.seq ?_
  refine X.seq ?_
  refine X.still ?_
  refine O.pu (U.fieldA rfl rfl rfl (.tmp rfl)) ?_
  refine O.pu (U.load (.tmp rfl) rfl rfl (U.cell rfl rfl rfl)) ?_
  refine O.pu (Pu.bin (.tmp rfl) .int .gtr) ?_
  refine O.nil ?_
  refine X.condP (.tmp rfl) (fun c=>?_) (fun c=>?_)
  · rw [if_pos c] at h
    refine X.still ?_
    refine O.pu (U.fieldA rfl rfl rfl (.tmp rfl)) ?_
    refine O.ef0 (U.storeE (.tmp rfl) rfl rfl .int rfl rfl (.part (.skip (.skip (.put .done)))) .one) ?_
    refine O.nil ?_
    refine X.seq ?_
    refine X.seq ?_
    refine X.still ?_
    refine O.pu (U.fieldA rfl rfl rfl (.tmp rfl)) ?_
    refine O.pu (U.load (.tmp rfl) rfl rfl (U.cell rfl rfl rfl)) ?_
    refine O.pu (Pu.bin (.tmp rfl) .int .gtr) ?_
    refine O.pu (Pu.move (.tmp (v:=.bool _) rfl)) ?_
    refine O.splitP (fun c=>?_) (fun c=>?_)
    · rw [if_pos c] at h
      refine G.pu (W.t rfl rfl) (U.fieldA rfl rfl rfl (.tmp rfl)) ?_
      refine G.pu (W.t rfl rfl) (U.load (.tmp rfl) rfl rfl (U.cell rfl rfl rfl)) ?_
      refine G.pu (W.t rfl rfl) (Pu.bin (.tmp rfl) .int .eql) ?_
      refine O.pu (Pu.pickT (.tmp rfl) (.tmp (v:=.bool _) rfl)) ?_
      refine O.nil ?_
      refine X.condE (.tmp rfl) (fun c=>?_) (fun c=>?_)
      · refine X.still ?_
        refine O.pu (U.fieldA rfl rfl rfl (.tmp rfl)) ?_
        refine O.ef0 (U.storeE (.tmp rfl) rfl rfl .int rfl rfl (.part (.skip (.skip (.put .done)))) .one) ?_
        refine O.nil ?_
        refine X.seq ?_
        refine X.still ?_
        refine O.pu (U.fieldA rfl rfl rfl (.tmp rfl)) ?_
        refine O.pu (U.load (.tmp rfl) rfl rfl (U.cell rfl rfl rfl)) ?_
        refine O.pu (U.fieldA rfl rfl rfl (.tmp rfl)) ?_
        refine O.pu (U.load (.tmp rfl) rfl rfl (U.cell rfl rfl rfl)) ?_
        refine O.pu (Pu.bin (.tmp rfl) (.tmp rfl) U.sub64) ?_
        refine O.pu (Pu.bin .int (.tmp rfl) U.mul64) ?_
        refine O.pu (U.fieldA rfl rfl rfl (.tmp rfl)) ?_
        refine O.pu (U.load (.tmp rfl) rfl rfl (U.cell rfl rfl rfl)) ?_
        refine O.pu (U.fieldA rfl rfl rfl (.tmp rfl)) ?_
        refine O.pu (U.load (.tmp rfl) rfl rfl (U.cell rfl rfl rfl)) ?_
        refine O.pu (Pu.bin (.tmp rfl) (.tmp rfl) U.sub64) ?_
        refine O.pu (Pu.bin .int (.tmp rfl) U.mul64) ?_
        refine O.pu (Pu.bin (.tmp rfl) (.tmp rfl) U.add64) ?_
        refine O.pu (U.fieldA rfl rfl rfl (.tmp rfl)) ?_
        refine O.pu (U.load (.tmp rfl) rfl rfl (U.cell rfl rfl rfl)) ?_
        refine O.pu (Pu.bin (.tmp rfl) (.tmp rfl) U.add64) ?_
        refine O.pu (U.fieldA rfl rfl rfl (.tmp rfl)) ?_
        refine O.pu (U.load (.tmp rfl) rfl rfl (U.cell rfl rfl rfl)) ?_
        refine O.pu (Pu.bin (.tmp rfl) (.tmp rfl) U.sub64) ?_
        obtain ⟨q1,Hq1,h⟩:=Option.bind_eq_some_iff.1 h
        refine O.pu (U.call (ss:=[]) (.cons (.tmp (v:=.int _ _) rfl) (.cons .int .nil)) (.cons (.cl .int) (.cons (.cl .int) .nil)) (count_part.cs Hq1) (.inl rfl) (.aggL (.cons .fi (.cons .bool (.cons .fi .nil))))) ?_
        refine O.ef0 (U.storeE (.tmp rfl) rfl rfl (.tmp (v:=.agg _) rfl) rfl rfl (.whole (notBad_ne rfl) rfl) .one) ?_
        refine O.nil ?_
        refine X.ret ?_
        cases h
        exact E.fin [] (.cell rfl rfl (Mode.live_ne rfl) (U.whole rfl rfl) .nil) (.cons (.cl (.aggL (.cons .fi (.cons .bool (.cons .fi .nil))))) .nil)
      · exact absurd rfl c
    · rw [if_neg c] at h
      refine G.skip (W.f rfl rfl rfl) ?_
      refine G.skip (W.f rfl rfl rfl) ?_
      refine G.skip (W.f rfl rfl rfl) ?_
      refine O.pu (Pu.pickF (.tmp rfl) .bool) ?_
      refine O.nil ?_
      refine X.condF (.tmp rfl) ?_
      refine X.skip ?_
      refine X.seq ?_
      refine X.still ?_
      refine O.pu (U.fieldA rfl rfl rfl (.tmp rfl)) ?_
      refine O.pu (U.load (.tmp rfl) rfl rfl (U.cell rfl rfl rfl)) ?_
      refine O.pu (U.fieldA rfl rfl rfl (.tmp rfl)) ?_
      refine O.pu (U.load (.tmp rfl) rfl rfl (U.cell rfl rfl rfl)) ?_
      refine O.pu (Pu.bin (.tmp rfl) (.tmp rfl) U.sub64) ?_
      refine O.pu (Pu.bin .int (.tmp rfl) U.mul64) ?_
      refine O.pu (U.fieldA rfl rfl rfl (.tmp rfl)) ?_
      refine O.pu (U.load (.tmp rfl) rfl rfl (U.cell rfl rfl rfl)) ?_
      refine O.pu (U.fieldA rfl rfl rfl (.tmp rfl)) ?_
      refine O.pu (U.load (.tmp rfl) rfl rfl (U.cell rfl rfl rfl)) ?_
      refine O.pu (Pu.bin (.tmp rfl) (.tmp rfl) U.sub64) ?_
      refine O.pu (Pu.bin .int (.tmp rfl) U.mul64) ?_
      refine O.pu (Pu.bin (.tmp rfl) (.tmp rfl) U.add64) ?_
      refine O.pu (U.fieldA rfl rfl rfl (.tmp rfl)) ?_
      refine O.pu (U.load (.tmp rfl) rfl rfl (U.cell rfl rfl rfl)) ?_
      refine O.pu (Pu.bin (.tmp rfl) (.tmp rfl) U.add64) ?_
      refine O.pu (U.fieldA rfl rfl rfl (.tmp rfl)) ?_
      refine O.pu (U.load (.tmp rfl) rfl rfl (U.cell rfl rfl rfl)) ?_
      refine O.pu (Pu.bin (.tmp rfl) (.tmp rfl) U.sub64) ?_
      obtain ⟨q2,Hq2,h⟩:=Option.bind_eq_some_iff.1 h
      refine O.pu (U.call (ss:=[]) (.cons (.tmp (v:=.int _ _) rfl) (.cons .int .nil)) (.cons (.cl .int) (.cons (.cl .int) .nil)) (count_part.cs Hq2) (.inl rfl) (.aggL (.cons .fi (.cons .bool (.cons .fi .nil))))) ?_
      refine O.ef0 (U.storeE (.tmp rfl) rfl rfl (.tmp (v:=.agg _) rfl) rfl rfl (.whole (notBad_ne rfl) rfl) .one) ?_
      refine O.nil ?_
      refine X.ret ?_
      cases h
      exact E.fin [] (.cell rfl rfl (Mode.live_ne rfl) (U.whole rfl rfl) .nil) (.cons (.cl (.aggL (.cons .fi (.cons .bool (.cons .fi .nil))))) .nil)
  · rw [if_neg c] at h
    refine X.skip ?_
    refine X.seq ?_
    refine X.seq ?_
    refine X.still ?_
    refine O.pu (U.fieldA rfl rfl rfl (.tmp rfl)) ?_
    refine O.pu (U.load (.tmp rfl) rfl rfl (U.cell rfl rfl rfl)) ?_
    refine O.pu (Pu.bin (.tmp rfl) .int .gtr) ?_
    refine O.pu (Pu.move (.tmp (v:=.bool _) rfl)) ?_
    refine O.splitP (fun c=>?_) (fun c=>?_)
    · rw [if_pos c] at h
      refine G.pu (W.t rfl rfl) (U.fieldA rfl rfl rfl (.tmp rfl)) ?_
      refine G.pu (W.t rfl rfl) (U.load (.tmp rfl) rfl rfl (U.cell rfl rfl rfl)) ?_
      refine G.pu (W.t rfl rfl) (Pu.bin (.tmp rfl) .int .eql) ?_
      refine O.pu (Pu.pickT (.tmp rfl) (.tmp (v:=.bool _) rfl)) ?_
      refine O.nil ?_
      refine X.condE (.tmp rfl) (fun c=>?_) (fun c=>?_)
      · rw [if_pos c] at h
        refine X.still ?_
        refine O.pu (U.fieldA rfl rfl rfl (.tmp rfl)) ?_
        refine O.ef0 (U.storeE (.tmp rfl) rfl rfl .int rfl rfl (.part (.skip (.skip (.put .done)))) .one) ?_
        refine O.nil ?_
        refine X.seq ?_
        refine X.still ?_
        refine O.pu (U.fieldA rfl rfl rfl (.tmp rfl)) ?_
        refine O.pu (U.load (.tmp rfl) rfl rfl (U.cell rfl rfl rfl)) ?_
        refine O.pu (U.fieldA rfl rfl rfl (.tmp rfl)) ?_
        refine O.pu (U.load (.tmp rfl) rfl rfl (U.cell rfl rfl rfl)) ?_
        refine O.pu (Pu.bin (.tmp rfl) (.tmp rfl) U.sub64) ?_
        refine O.pu (Pu.bin .int (.tmp rfl) U.mul64) ?_
        refine O.pu (U.fieldA rfl rfl rfl (.tmp rfl)) ?_
        refine O.pu (U.load (.tmp rfl) rfl rfl (U.cell rfl rfl rfl)) ?_
        refine O.pu (U.fieldA rfl rfl rfl (.tmp rfl)) ?_
        refine O.pu (U.load (.tmp rfl) rfl rfl (U.cell rfl rfl rfl)) ?_
        refine O.pu (Pu.bin (.tmp rfl) (.tmp rfl) U.sub64) ?_
        refine O.pu (Pu.bin .int (.tmp rfl) U.mul64) ?_
        refine O.pu (Pu.bin (.tmp rfl) (.tmp rfl) U.add64) ?_
        refine O.pu (U.fieldA rfl rfl rfl (.tmp rfl)) ?_
        refine O.pu (U.load (.tmp rfl) rfl rfl (U.cell rfl rfl rfl)) ?_
        refine O.pu (Pu.bin (.tmp rfl) (.tmp rfl) U.add64) ?_
        refine O.pu (U.fieldA rfl rfl rfl (.tmp rfl)) ?_
        refine O.pu (U.load (.tmp rfl) rfl rfl (U.cell rfl rfl rfl)) ?_
        refine O.pu (Pu.bin (.tmp rfl) (.tmp rfl) U.sub64) ?_
        obtain ⟨q3,Hq3,h⟩:=Option.bind_eq_some_iff.1 h
        refine O.pu (U.call (ss:=[]) (.cons (.tmp (v:=.int _ _) rfl) (.cons .int .nil)) (.cons (.cl .int) (.cons (.cl .int) .nil)) (count_part.cs Hq3) (.inl rfl) (.aggL (.cons .fi (.cons .bool (.cons .fi .nil))))) ?_
        refine O.ef0 (U.storeE (.tmp rfl) rfl rfl (.tmp (v:=.agg _) rfl) rfl rfl (.whole (notBad_ne rfl) rfl) .one) ?_
        refine O.nil ?_
        refine X.ret ?_
        cases h
        exact E.fin [] (.cell rfl rfl (Mode.live_ne rfl) (U.whole rfl rfl) .nil) (.cons (.cl (.aggL (.cons .fi (.cons .bool (.cons .fi .nil))))) .nil)
      · rw [if_neg c] at h
        refine X.skip ?_
        refine X.seq ?_
        refine X.still ?_
        refine O.pu (U.fieldA rfl rfl rfl (.tmp rfl)) ?_
        refine O.pu (U.load (.tmp rfl) rfl rfl (U.cell rfl rfl rfl)) ?_
        refine O.pu (U.fieldA rfl rfl rfl (.tmp rfl)) ?_
        refine O.pu (U.load (.tmp rfl) rfl rfl (U.cell rfl rfl rfl)) ?_
        refine O.pu (Pu.bin (.tmp rfl) (.tmp rfl) U.sub64) ?_
        refine O.pu (Pu.bin .int (.tmp rfl) U.mul64) ?_
        refine O.pu (U.fieldA rfl rfl rfl (.tmp rfl)) ?_
        refine O.pu (U.load (.tmp rfl) rfl rfl (U.cell rfl rfl rfl)) ?_
        refine O.pu (U.fieldA rfl rfl rfl (.tmp rfl)) ?_
        refine O.pu (U.load (.tmp rfl) rfl rfl (U.cell rfl rfl rfl)) ?_
        refine O.pu (Pu.bin (.tmp rfl) (.tmp rfl) U.sub64) ?_
        refine O.pu (Pu.bin .int (.tmp rfl) U.mul64) ?_
        refine O.pu (Pu.bin (.tmp rfl) (.tmp rfl) U.add64) ?_
        refine O.pu (U.fieldA rfl rfl rfl (.tmp rfl)) ?_
        refine O.pu (U.load (.tmp rfl) rfl rfl (U.cell rfl rfl rfl)) ?_
        refine O.pu (Pu.bin (.tmp rfl) (.tmp rfl) U.add64) ?_
        refine O.pu (U.fieldA rfl rfl rfl (.tmp rfl)) ?_
        refine O.pu (U.load (.tmp rfl) rfl rfl (U.cell rfl rfl rfl)) ?_
        refine O.pu (Pu.bin (.tmp rfl) (.tmp rfl) U.sub64) ?_
        obtain ⟨q4,Hq4,h⟩:=Option.bind_eq_some_iff.1 h
        refine O.pu (U.call (ss:=[]) (.cons (.tmp (v:=.int _ _) rfl) (.cons .int .nil)) (.cons (.cl .int) (.cons (.cl .int) .nil)) (count_part.cs Hq4) (.inl rfl) (.aggL (.cons .fi (.cons .bool (.cons .fi .nil))))) ?_
        refine O.ef0 (U.storeE (.tmp rfl) rfl rfl (.tmp (v:=.agg _) rfl) rfl rfl (.whole (notBad_ne rfl) rfl) .one) ?_
        refine O.nil ?_
        refine X.ret ?_
        cases h
        exact E.fin [] (.cell rfl rfl (Mode.live_ne rfl) (U.whole rfl rfl) .nil) (.cons (.cl (.aggL (.cons .fi (.cons .bool (.cons .fi .nil))))) .nil)
    · rw [if_neg c] at h
      refine G.skip (W.f rfl rfl rfl) ?_
      refine G.skip (W.f rfl rfl rfl) ?_
      refine G.skip (W.f rfl rfl rfl) ?_
      refine O.pu (Pu.pickF (.tmp rfl) .bool) ?_
      refine O.nil ?_
      refine X.condF (.tmp rfl) ?_
      refine X.skip ?_
      refine X.seq ?_
      refine X.still ?_
      refine O.pu (U.fieldA rfl rfl rfl (.tmp rfl)) ?_
      refine O.pu (U.load (.tmp rfl) rfl rfl (U.cell rfl rfl rfl)) ?_
      refine O.pu (U.fieldA rfl rfl rfl (.tmp rfl)) ?_
      refine O.pu (U.load (.tmp rfl) rfl rfl (U.cell rfl rfl rfl)) ?_
      refine O.pu (Pu.bin (.tmp rfl) (.tmp rfl) U.sub64) ?_
      refine O.pu (Pu.bin .int (.tmp rfl) U.mul64) ?_
      refine O.pu (U.fieldA rfl rfl rfl (.tmp rfl)) ?_
      refine O.pu (U.load (.tmp rfl) rfl rfl (U.cell rfl rfl rfl)) ?_
      refine O.pu (U.fieldA rfl rfl rfl (.tmp rfl)) ?_
      refine O.pu (U.load (.tmp rfl) rfl rfl (U.cell rfl rfl rfl)) ?_
      refine O.pu (Pu.bin (.tmp rfl) (.tmp rfl) U.sub64) ?_
      refine O.pu (Pu.bin .int (.tmp rfl) U.mul64) ?_
      refine O.pu (Pu.bin (.tmp rfl) (.tmp rfl) U.add64) ?_
      refine O.pu (U.fieldA rfl rfl rfl (.tmp rfl)) ?_
      refine O.pu (U.load (.tmp rfl) rfl rfl (U.cell rfl rfl rfl)) ?_
      refine O.pu (Pu.bin (.tmp rfl) (.tmp rfl) U.add64) ?_
      refine O.pu (U.fieldA rfl rfl rfl (.tmp rfl)) ?_
      refine O.pu (U.load (.tmp rfl) rfl rfl (U.cell rfl rfl rfl)) ?_
      refine O.pu (Pu.bin (.tmp rfl) (.tmp rfl) U.sub64) ?_
      obtain ⟨q5,Hq5,h⟩:=Option.bind_eq_some_iff.1 h
      refine O.pu (U.call (ss:=[]) (.cons (.tmp (v:=.int _ _) rfl) (.cons .int .nil)) (.cons (.cl .int) (.cons (.cl .int) .nil)) (count_part.cs Hq5) (.inl rfl) (.aggL (.cons .fi (.cons .bool (.cons .fi .nil))))) ?_
      refine O.ef0 (U.storeE (.tmp rfl) rfl rfl (.tmp (v:=.agg _) rfl) rfl rfl (.whole (notBad_ne rfl) rfl) .one) ?_
      refine O.nil ?_
      refine X.ret ?_
      cases h
      exact E.fin [] (.cell rfl rfl (Mode.live_ne rfl) (U.whole rfl rfl) .nil) (.cons (.cl (.aggL (.cons .fi (.cons .bool (.cons .fi .nil))))) .nil)
noncomputable def c89:Code:=Tryz.f89.body.getD .skip
theorem fn89:FnOk Tryz.prog 89 Tryz.f89 c89:=⟨Tryz.func89,rfl,by kernel_rfl,by kernel_rfl,mixed⟩
theorem date_ahead.cs {a0:Int} {r:Int} (h:date_ahead.f a0=some r):CS Tryz.prog 89 [.int .i64 a0] .no [.int .i64 r]:=by
  unfold date_ahead.f at h
  refine E.pure fn89 rfl ?_
  refine X.seq ?_
  refine X.still ?_
  refine O.pu (Pu.assign .int) ?_
  refine O.nil ?_
  refine X.seq ?_
  refine X.still ?_
  refine O.pu (Pu.move (.tmp (v:=.int _ _) rfl)) ?_
  refine O.pu (Pu.bin (.tmp rfl) .int U.sub64) ?_
  refine O.pu (Pu.assign (.tmp (v:=.int _ _) rfl)) ?_
  refine O.nil ?_
  refine X.seq ?_
  refine X.still ?_
  refine O.pu (Pu.move (.tmp (v:=.int _ _) rfl)) ?_
  refine O.pu (Pu.bin .int (.tmp rfl) U.mul64) ?_
  refine O.pu (Pu.move (.tmp (v:=.int _ _) rfl)) ?_
  refine O.pu (Pu.bin (.tmp rfl) .int (U.quo64 (by omega))) ?_
  refine O.pu (Pu.bin (.tmp rfl) (.tmp rfl) U.add64) ?_
  refine O.pu (Pu.move (.tmp (v:=.int _ _) rfl)) ?_
  refine O.pu (Pu.bin (.tmp rfl) .int (U.quo64 (by omega))) ?_
  refine O.pu (Pu.bin (.tmp rfl) (.tmp rfl) U.sub64) ?_
  refine O.pu (Pu.move (.tmp (v:=.int _ _) rfl)) ?_
  refine O.pu (Pu.bin (.tmp rfl) .int (U.quo64 (by omega))) ?_
  refine O.pu (Pu.bin (.tmp rfl) (.tmp rfl) U.add64) ?_
  refine O.pu (Pu.assign (.tmp (v:=.int _ _) rfl)) ?_
  refine O.nil ?_
  refine X.ret ?_
  cases h
  exact E.fin [] (.tmp (v:=.int _ _) rfl .nil) (.cons (.cl .int) .nil)
noncomputable def c63:Code:=Tryz.f63.body.getD .skip
theorem fn63:FnOk Tryz.prog 63 Tryz.f63 c63:=⟨Tryz.func63,rfl,by kernel_rfl,by kernel_rfl,mixed⟩
theorem date_Number.cs {k:Nat} {a0_0:Int} {a0_1:Int} {a0_2:Int} {r:Int×Int} (h:date_Number.f k a0_0 a0_1 a0_2=some r):CS Tryz.prog 63 [.agg [.int .i64 a0_0, .int .i64 a0_1, .int .i64 a0_2]] .no [.int .i64 r.1, .int .i64 r.2]:=by
  unfold date_Number.f at h
  refine E.pure fn63 rfl ?_
  refine X.seq ?_
  refine X.still ?_
  refine O.puE (v':=.op 1 (1) 0 0) (b':=⟨1, .own,_,_⟩) (Pu.box (.tmp (v:=.agg _) rfl) rfl rfl) rfl rfl ?_
  refine O.pu (Pu.assign .int) ?_
  refine O.pu (Pu.assign .int) ?_
  refine O.nil ?_
  refine X.seq ?_
  refine X.seq ?_
  refine X.still ?_
  refine O.pu (U.load (.tmp rfl) rfl rfl (U.whole rfl rfl)) ?_
  obtain ⟨q1,Hq1,h⟩:=Option.bind_eq_some_iff.1 h
  refine O.pu (U.call (ss:=[]) (.cons (.tmp (v:=.agg _) rfl) .nil) (.cons (.cl (.aggL (.cons .int (.cons .int (.cons .int .nil))))) .nil) (date_Check.cs Hq1) (.inl rfl) (.int)) ?_
  refine O.pu (Pu.assign (.tmp (v:=.int _ _) rfl)) ?_
  refine O.nil ?_
  refine X.seq ?_
  refine X.still ?_
  refine O.pu (Pu.move (.tmp (v:=.int _ _) rfl)) ?_
  refine O.pu (Pu.bin (.tmp rfl) .int .neq) ?_
  refine O.nil ?_
  refine X.condN (.tmp rfl) (fun c=>?_) (fun c=>?_)
  · rw [if_neg c] at h
    refine X.seq ?_
    refine X.still ?_
    refine O.pu (Pu.move (.tmp (v:=.int _ _) rfl)) ?_
    refine O.pu (Pu.assign .int) ?_
    refine O.pu (Pu.assign (.tmp (v:=.int _ _) rfl)) ?_
    refine O.nil ?_
    refine X.ret ?_
    cases h
    exact E.fin [] (.tmp (v:=.int _ _) rfl (.tmp (v:=.int _ _) rfl .nil)) (.cons (.cl .int) (.cons (.cl .int) .nil))
  · rw [if_pos c] at h
    refine X.skip ?_
    refine X.seq ?_
    refine X.still ?_
    refine O.pu (U.fieldA rfl rfl rfl (.tmp rfl)) ?_
    refine O.pu (U.load (.tmp rfl) rfl rfl (U.cell rfl rfl rfl)) ?_
    obtain ⟨q2,Hq2,h⟩:=Option.bind_eq_some_iff.1 h
    refine O.pu (U.call (ss:=[]) (.cons (.tmp (v:=.int _ _) rfl) .nil) (.cons (.cl .int) .nil) (date_ahead.cs Hq2) (.inl rfl) (.int)) ?_
    refine O.pu (Pu.assign (.tmp (v:=.int _ _) rfl)) ?_
    refine O.nil ?_
    refine X.seq ?_
    refine X.seq ?_
    refine X.still ?_
    refine O.pu (Pu.assign .int) ?_
    refine O.nil ?_
    refine X.block ?_
    refine X.inv (fun k s=>∃ x5 x6 x513000 x513001 x513002 u1,s.t 5 = .int .i64 x5∧s.t 6 = .int .i64 x6∧s.t 1 = .op 1 u1 0 0∧s.b 1=⟨u1, .own, .vals [.agg [.int .i64 x513000, .int .i64 x513001, .int .i64 x513002]],23⟩∧date_Number.l0 k x5 x6 x513000 x513001 x513002=some r) ?_ ?_ ⟨_,_,_,_,_,_,rfl,rfl,rfl,rfl,h⟩
    · rintro s ⟨_,_,_,_,_,_,_,_,_,_,h⟩;unfold date_Number.l0 at h;cases h
    · rintro k1 s1 ⟨x5,x6,x513000,x513001,x513002,u1,e0,e1,e2,e3,h⟩
      unfold date_Number.l0 at h
      rw [St.fixT e0,St.fixT e1,St.fixT e2,St.fixB e3]
      refine X.seq ?_
      refine X.seq ?_
      refine X.still ?_
      refine O.pu (Pu.move (.tmp (v:=.int _ _) rfl)) ?_
      refine O.pu (U.fieldA rfl rfl rfl (.tmp rfl)) ?_
      refine O.pu (U.load (.tmp rfl) rfl rfl (U.cell rfl rfl rfl)) ?_
      refine O.pu (Pu.bin (.tmp rfl) (.tmp rfl) .lss) ?_
      refine O.nil ?_
      refine X.condP (.tmp rfl) (fun c=>?_) (fun c=>?_)
      · rw [if_pos c] at h
        refine X.skip ?_
        refine X.seq ?_
        refine X.block ?_
        refine X.still ?_
        refine O.pu (Pu.move (.tmp (v:=.int _ _) rfl)) ?_
        refine O.pu (U.fieldA rfl rfl rfl (.tmp rfl)) ?_
        refine O.pu (U.load (.tmp rfl) rfl rfl (U.cell rfl rfl rfl)) ?_
        refine O.pu (Pu.move (.tmp (v:=.int _ _) rfl)) ?_
        obtain ⟨q3,Hq3,h⟩:=Option.bind_eq_some_iff.1 h
        refine O.pu (U.call (ss:=[]) (.cons (.tmp (v:=.int _ _) rfl) (.cons (.tmp (v:=.int _ _) rfl) .nil)) (.cons (.cl .int) (.cons (.cl .int) .nil)) (date_Days.cs Hq3) (.inl rfl) (.int)) ?_
        refine O.pu (Pu.bin (.tmp rfl) (.tmp rfl) U.add64) ?_
        refine O.pu (Pu.assign (.tmp (v:=.int _ _) rfl)) ?_
        refine O.nil ?_
        refine X.still ?_
        refine O.pu (Pu.move (.tmp (v:=.int _ _) rfl)) ?_
        refine O.pu (Pu.bin (.tmp rfl) .int U.add64) ?_
        refine O.pu (Pu.assign (.tmp (v:=.int _ _) rfl)) ?_
        refine O.nil ?_
        exact ⟨_,(by omega),_,_,_,_,_,_,rfl,rfl,rfl,rfl,h⟩
      · rw [if_neg c] at h
        refine X.exit (B.out ?_)
        refine X.seq ?_
        refine X.still ?_
        refine O.pu (Pu.move (.tmp (v:=.int _ _) rfl)) ?_
        refine O.pu (U.fieldA rfl rfl rfl (.tmp rfl)) ?_
        refine O.pu (U.load (.tmp rfl) rfl rfl (U.cell rfl rfl rfl)) ?_
        refine O.pu (Pu.bin (.tmp rfl) (.tmp rfl) U.add64) ?_
        refine O.pu (Pu.assign (.tmp (v:=.int _ _) rfl)) ?_
        refine O.pu (Pu.assign .int) ?_
        refine O.nil ?_
        refine X.ret ?_
        cases h
        exact E.fin [] (.tmp (v:=.int _ _) rfl (.tmp (v:=.int _ _) rfl .nil)) (.cons (.cl .int) (.cons (.cl .int) .nil))
noncomputable def c39:Code:=Tryz.f39.body.getD .skip
theorem fn39:FnOk Tryz.prog 39 Tryz.f39 c39:=⟨Tryz.func39,rfl,by kernel_rfl,by kernel_rfl,mixed⟩
theorem month_Between.cs {k:Nat} {a0_0:Int} {a0_1:Int} {a0_2:Int} {a1_0:Int} {a1_1:Int} {a1_2:Int} {r:Int×Int} (h:month_Between.f k a0_0 a0_1 a0_2 a1_0 a1_1 a1_2=some r):CS Tryz.prog 39 [.agg [.int .i64 a0_0, .int .i64 a0_1, .int .i64 a0_2], .agg [.int .i64 a1_0, .int .i64 a1_1, .int .i64 a1_2]] .no [.int .i64 r.1, .int .i64 r.2]:=by
  unfold month_Between.f at h
  refine E.pure fn39 rfl ?_
  refine X.seq ?_
  refine X.still ?_
  refine O.puE (v':=.op 2 (1) 0 0) (b':=⟨1, .own,_,_⟩) (Pu.box (.tmp (v:=.agg _) rfl) rfl rfl) rfl rfl ?_
  refine O.puE (v':=.op 3 (1) 0 0) (b':=⟨1, .own,_,_⟩) (Pu.box (.tmp (v:=.agg _) rfl) rfl rfl) rfl rfl ?_
  refine O.pu (Pu.assign .int) ?_
  refine O.pu (Pu.assign .int) ?_
  refine O.nil ?_
  refine X.seq ?_
  refine X.still ?_
  refine O.pu (U.load (.tmp rfl) rfl rfl (U.whole rfl rfl)) ?_
  obtain ⟨q1,Hq1,h⟩:=Option.bind_eq_some_iff.1 h
  refine O.pu (U.call (ss:=[]) (.cons (.tmp (v:=.agg _) rfl) .nil) (.cons (.cl (.aggL (.cons .int (.cons .int (.cons .int .nil))))) .nil) (date_Number.cs Hq1) (.inl rfl) (.tupL (.cons .int (.cons .int .nil)))) ?_
  refine O.pu (Pu.move (.tmp (v:=.tup _) rfl)) ?_
  refine O.pu (Pu.extract (.tmp rfl) rfl) ?_
  refine O.pu (Pu.extract (.tmp rfl) rfl) ?_
  refine O.pu (Pu.assign (.tmp (v:=.int _ _) rfl)) ?_
  refine O.pu (Pu.assign (.tmp (v:=.int _ _) rfl)) ?_
  refine O.nil ?_
  refine X.seq ?_
  refine X.seq ?_
  refine X.still ?_
  refine O.pu (Pu.move (.tmp (v:=.int _ _) rfl)) ?_
  refine O.pu (Pu.bin (.tmp rfl) .int .neq) ?_
  refine O.nil ?_
  refine X.condN (.tmp rfl) (fun c=>?_) (fun c=>?_)
  · rw [if_neg c] at h
    refine X.seq ?_
    refine X.still ?_
    refine O.pu (Pu.move (.tmp (v:=.int _ _) rfl)) ?_
    refine O.pu (Pu.assign .int) ?_
    refine O.pu (Pu.assign (.tmp (v:=.int _ _) rfl)) ?_
    refine O.nil ?_
    refine X.ret ?_
    cases h
    exact E.fin [] (.tmp (v:=.int _ _) rfl (.tmp (v:=.int _ _) rfl .nil)) (.cons (.cl .int) (.cons (.cl .int) .nil))
  · rw [if_pos c] at h
    refine X.skip ?_
    refine X.seq ?_
    refine X.still ?_
    refine O.pu (U.load (.tmp rfl) rfl rfl (U.whole rfl rfl)) ?_
    obtain ⟨q2,Hq2,h⟩:=Option.bind_eq_some_iff.1 h
    refine O.pu (U.call (ss:=[]) (.cons (.tmp (v:=.agg _) rfl) .nil) (.cons (.cl (.aggL (.cons .int (.cons .int (.cons .int .nil))))) .nil) (date_Number.cs Hq2) (.inl rfl) (.tupL (.cons .int (.cons .int .nil)))) ?_
    refine O.pu (Pu.move (.tmp (v:=.tup _) rfl)) ?_
    refine O.pu (Pu.extract (.tmp rfl) rfl) ?_
    refine O.pu (Pu.extract (.tmp rfl) rfl) ?_
    refine O.pu (Pu.assign (.tmp (v:=.int _ _) rfl)) ?_
    refine O.pu (Pu.assign (.tmp (v:=.int _ _) rfl)) ?_
    refine O.nil ?_
    refine X.seq ?_
    refine X.seq ?_
    refine X.still ?_
    refine O.pu (Pu.move (.tmp (v:=.int _ _) rfl)) ?_
    refine O.pu (Pu.bin (.tmp rfl) .int .neq) ?_
    refine O.nil ?_
    refine X.condN (.tmp rfl) (fun c=>?_) (fun c=>?_)
    · rw [if_neg c] at h
      refine X.seq ?_
      refine X.still ?_
      refine O.pu (Pu.move (.tmp (v:=.int _ _) rfl)) ?_
      refine O.pu (Pu.assign .int) ?_
      refine O.pu (Pu.assign (.tmp (v:=.int _ _) rfl)) ?_
      refine O.nil ?_
      refine X.ret ?_
      cases h
      exact E.fin [] (.tmp (v:=.int _ _) rfl (.tmp (v:=.int _ _) rfl .nil)) (.cons (.cl .int) (.cons (.cl .int) .nil))
    · rw [if_pos c] at h
      refine X.skip ?_
      refine X.seq ?_
      refine X.still ?_
      refine O.pu (Pu.move (.tmp (v:=.int _ _) rfl)) ?_
      refine O.pu (Pu.move (.tmp (v:=.int _ _) rfl)) ?_
      refine O.pu (Pu.bin (.tmp rfl) (.tmp rfl) U.sub64) ?_
      refine O.pu (Pu.assign (.tmp (v:=.int _ _) rfl)) ?_
      refine O.pu (Pu.assign .int) ?_
      refine O.nil ?_
      refine X.ret ?_
      cases h
      exact E.fin [] (.tmp (v:=.int _ _) rfl (.tmp (v:=.int _ _) rfl .nil)) (.cons (.cl .int) (.cons (.cl .int) .nil))
noncomputable def c20:Code:=Tryz.f20.body.getD .skip
theorem fn20:FnOk Tryz.prog 20 Tryz.f20 c20:=⟨Tryz.func20,rfl,by kernel_rfl,by kernel_rfl,mixed⟩
theorem count_days.cs {k:Nat} {a0_0:Int} {a0_1:Int} {a0_2:Int} {a1_0:Int} {a1_1:Int} {a1_2:Int} {r:Int} (h:count_days.f k a0_0 a0_1 a0_2 a1_0 a1_1 a1_2=some r):CS Tryz.prog 20 [.agg [.int .i64 a0_0, .int .i64 a0_1, .int .i64 a0_2], .agg [.int .i64 a1_0, .int .i64 a1_1, .int .i64 a1_2]] .no [.int .i64 r]:=by
  unfold count_days.f at h
  refine E.pure fn20 rfl ?_
  refine X.seq ?_
  refine X.still ?_
  refine O.puE (v':=.op 2 (1) 0 0) (b':=⟨1, .own,_,_⟩) (Pu.box (.tmp (v:=.agg _) rfl) rfl rfl) rfl rfl ?_
  refine O.puE (v':=.op 3 (1) 0 0) (b':=⟨1, .own,_,_⟩) (Pu.box (.tmp (v:=.agg _) rfl) rfl rfl) rfl rfl ?_
  refine O.pu (Pu.assign .int) ?_
  refine O.nil ?_
  refine X.seq ?_
  refine X.still ?_
  refine O.pu (U.load (.tmp rfl) rfl rfl (U.whole rfl rfl)) ?_
  refine O.pu (U.load (.tmp rfl) rfl rfl (U.whole rfl rfl)) ?_
  obtain ⟨q1,Hq1,h⟩:=Option.bind_eq_some_iff.1 h
  refine O.pu (U.call (ss:=[]) (.cons (.tmp (v:=.agg _) rfl) (.cons (.tmp (v:=.agg _) rfl) .nil)) (.cons (.cl (.aggL (.cons .int (.cons .int (.cons .int .nil))))) (.cons (.cl (.aggL (.cons .int (.cons .int (.cons .int .nil))))) .nil)) (month_Between.cs Hq1) (.inl rfl) (.tupL (.cons .int (.cons .int .nil)))) ?_
  refine O.pu (Pu.move (.tmp (v:=.tup _) rfl)) ?_
  refine O.pu (Pu.extract (.tmp rfl) rfl) ?_
  refine O.pu (Pu.extract (.tmp rfl) rfl) ?_
  refine O.pu (Pu.assign (.tmp (v:=.int _ _) rfl)) ?_
  refine O.pu (Pu.assign (.tmp (v:=.int _ _) rfl)) ?_
  refine O.nil ?_
  refine X.seq ?_
  refine X.still ?_
  refine O.pu (Pu.move (.tmp (v:=.int _ _) rfl)) ?_
  refine O.pu (Pu.assign (.tmp (v:=.int _ _) rfl)) ?_
  refine O.nil ?_
  refine X.ret ?_
  cases h
  exact E.fin [] (.tmp (v:=.int _ _) rfl .nil) (.cons (.cl .int) .nil)
noncomputable def c40:Code:=Tryz.f40.body.getD .skip
theorem fn40:FnOk Tryz.prog 40 Tryz.f40 c40:=⟨Tryz.func40,rfl,by kernel_rfl,by kernel_rfl,mixed⟩
theorem count_year.cs {a0:Int} {r:Int} (h:count_year.f a0=some r):CS Tryz.prog 40 [.int .i64 a0] .no [.int .i64 r]:=by
  unfold count_year.f at h
  refine E.pure fn40 rfl ?_
  refine X.seq ?_
  refine X.still ?_
  refine O.pu (Pu.assign .int) ?_
  refine O.nil ?_
  refine X.seq ?_
  refine X.seq ?_
  refine X.still ?_
  refine O.pu (Pu.move (.tmp (v:=.int _ _) rfl)) ?_
  obtain ⟨q1,Hq1,h⟩:=Option.bind_eq_some_iff.1 h
  refine O.pu (U.call (ss:=[]) (.cons (.tmp (v:=.int _ _) rfl) .nil) (.cons (.cl .int) .nil) (date_Leap.cs Hq1) (.inl rfl) (.bool)) ?_
  refine O.nil ?_
  refine X.cond (.tmp rfl) (fun c=>?_) (fun c=>?_)
  · rw [if_pos c] at h
    refine X.seq ?_
    refine X.still ?_
    refine O.pu (Pu.assign .int) ?_
    refine O.nil ?_
    refine X.ret ?_
    cases h
    exact E.fin [] (.tmp (v:=.int _ _) rfl .nil) (.cons (.cl .int) .nil)
  · rw [if_neg (bf c)] at h
    refine X.skip ?_
    refine X.seq ?_
    refine X.still ?_
    refine O.pu (Pu.assign .int) ?_
    refine O.nil ?_
    refine X.ret ?_
    cases h
    exact E.fin [] (.tmp (v:=.int _ _) rfl .nil) (.cons (.cl .int) .nil)
noncomputable def c48:Code:=Tryz.f48.body.getD .skip
theorem fn48:FnOk Tryz.prog 48 Tryz.f48 c48:=⟨Tryz.func48,rfl,by kernel_rfl,by kernel_rfl,mixed⟩
theorem nat_Nat_Add.cs {k:Nat} {l0_0:List Int} {l1_0:List Int} {r:List Int} (h:nat_Nat_Add.f k l0_0 l1_0=some r):CS Tryz.prog 48 [.agg [.fi .u64 l0_0], .agg [.fi .u64 l1_0]] .no [.agg [.fi .u64 r]]:=by
  unfold nat_Nat_Add.f at h
  refine E.pure fn48 rfl ?_
  refine X.seq ?_
  refine X.still ?_
  refine O.puE (v':=.op 2 (1) 0 0) (b':=⟨1, .own,_,_⟩) (Pu.box (.tmp (v:=.agg _) rfl) rfl rfl) rfl rfl ?_
  refine O.puE (v':=.op 3 (1) 0 0) (b':=⟨1, .own,_,_⟩) (Pu.box (.tmp (v:=.agg _) rfl) rfl rfl) rfl rfl ?_
  refine O.puE (v':=.op 4 (1) 0 0) (b':=⟨1, .own,(.vals [.agg [.fi .u64 []]]),_⟩) Pu.alloc rfl rfl ?_
  refine O.nil ?_
  refine X.seq ?_
  refine X.still ?_
  refine O.pu (U.fieldA rfl rfl rfl (.tmp rfl)) ?_
  refine O.pu (U.load (.tmp rfl) rfl rfl (U.cell rfl rfl rfl)) ?_
  refine O.pu (Pu.lenI rfl (.tmp rfl)) ?_
  refine O.pu (U.fieldA rfl rfl rfl (.tmp rfl)) ?_
  refine O.pu (U.load (.tmp rfl) rfl rfl (U.cell rfl rfl rfl)) ?_
  refine O.pu (Pu.lenI rfl (.tmp rfl)) ?_
  refine O.pu (U.mx (.tmp rfl) (.tmp rfl)) ?_
  refine O.pu (Pu.bin (.tmp rfl) .int U.add64) ?_
  repeat first|(rw [giff] at h;obtain ⟨_,h⟩:=h)|rw [bdff] at h
  refine O.puE (v':=.os 16 (1) 0 _ true) (b':=⟨1, .own,_,_⟩) (U.makeI rfl rfl (.tmp rfl) (.tmp rfl) (by omega) (by omega) rfl (by omega)) rfl rfl ?_
  refine O.pu (Pu.assign (.tmp (v:=.os _ _ _ _ _) rfl)) ?_
  refine O.nil ?_
  refine X.seq ?_
  refine X.still ?_
  refine O.pu (Pu.assign .int) ?_
  refine O.nil ?_
  refine X.seq ?_
  refine X.seq ?_
  refine X.still ?_
  refine O.pu (Pu.move (.tmp (v:=.os _ _ _ _ _) rfl)) ?_
  refine O.pu (Pu.lenO rfl (.tmp rfl)) ?_
  refine O.pu (Pu.move .int) ?_
  refine O.nil ?_
  refine X.block ?_
  refine X.inv (fun k s=>∃ x5 x6 x18 x19 x528000 x529000 n5 u16 u2 u3 u4,s.b 16=⟨u16, .own, .ints .u64 x5,75⟩∧s.t 5 = .os 16 u16 0 n5 true∧x5.length=n5∧s.t 6 = .int .u64 x6∧s.t 18 = .int .i64 x18∧s.t 19 = .int .i64 x19∧s.t 2 = .op 2 u2 0 0∧s.b 2=⟨u2, .own, .vals [.agg [.fi .u64 x528000]],29⟩∧s.t 3 = .op 3 u3 0 0∧s.b 3=⟨u3, .own, .vals [.agg [.fi .u64 x529000]],29⟩∧s.t 4 = .op 4 u4 0 0∧s.b 4=⟨u4, .own, .vals [.agg [.fi .u64 []]],29⟩∧nat_Nat_Add.l0 k x5 x6 x18 x19 x528000 x529000=some r) ?_ ?_ ⟨_,_,_,_,_,_,_,_,_,_,_,rfl,rfl,rfl,rfl,rfl,rfl,rfl,rfl,rfl,rfl,rfl,rfl,h⟩
  · rintro s ⟨_,_,_,_,_,_,_,_,_,_,_,_,_,_,_,_,_,_,_,_,_,_,_,h⟩;unfold nat_Nat_Add.l0 at h;cases h
  · rintro k1 s1 ⟨x5,x6,x18,x19,x528000,x529000,n5,u16,u2,u3,u4,e0,e1,rfl,e3,e4,e5,e6,e7,e8,e9,e10,e11,h⟩
    unfold nat_Nat_Add.l0 at h
    rw [St.fixB e0,St.fixT e1,St.fixT e3,St.fixT e4,St.fixT e5,St.fixT e6,St.fixB e7,St.fixT e8,St.fixB e9,St.fixT e10,St.fixB e11]
    refine X.seq ?_
    refine X.still ?_
    refine O.pu (Pu.bin (.tmp rfl) (.tmp rfl) .lss) ?_
    refine O.nil ?_
    refine X.seq ?_
    refine X.condP (.tmp rfl) (fun c=>?_) (fun c=>?_)
    · rw [if_pos c] at h
      refine X.skip ?_
      refine X.seq ?_
      refine X.block ?_
      refine X.seq ?_
      refine X.still ?_
      refine O.pu (Pu.move (.tmp (v:=.int _ _) rfl)) ?_
      refine O.pu (Pu.assign (.tmp (v:=.int _ _) rfl)) ?_
      refine O.nil ?_
      refine X.drawn ?_
      refine D.pu (Pu.move (.tmp (v:=.os _ _ _ _ _) rfl)) ?_
      refine D.pu (Pu.move (.tmp (v:=.int _ _) rfl)) ?_
      refine D.pu (U.load (.tmp rfl) rfl rfl (U.whole rfl rfl)) ?_
      refine D.pu (Pu.move (.tmp (v:=.int _ _) rfl)) ?_
      obtain ⟨q1,Hq1,h⟩:=Option.bind_eq_some_iff.1 h
      refine D.pu (U.call (ss:=[]) (.cons (.tmp (v:=.agg _) rfl) (.cons (.tmp (v:=.int _ _) rfl) .nil)) (.cons (.cl (.aggL (.cons .fi .nil))) (.cons (.cl .int) .nil)) (nat_Nat_limb.cs Hq1) (.inl rfl) (.int)) ?_
      refine D.pu (U.load (.tmp rfl) rfl rfl (U.whole rfl rfl)) ?_
      refine D.pu (Pu.move (.tmp (v:=.int _ _) rfl)) ?_
      obtain ⟨q2,Hq2,h⟩:=Option.bind_eq_some_iff.1 h
      refine D.pu (U.call (ss:=[]) (.cons (.tmp (v:=.agg _) rfl) (.cons (.tmp (v:=.int _ _) rfl) .nil)) (.cons (.cl (.aggL (.cons .fi .nil))) (.cons (.cl .int) .nil)) (nat_Nat_limb.cs Hq2) (.inl rfl) (.int)) ?_
      refine D.pu (Pu.move (.tmp (v:=.int _ _) rfl)) ?_
      repeat (rw [giff] at h;obtain ⟨_,h⟩:=h)
      refine D.pu (U.call (ss:=[]) (.cons (.tmp (v:=.int _ _) rfl) (.cons (.tmp (v:=.int _ _) rfl) (.cons (.tmp (v:=.int _ _) rfl) .nil))) (.cons (.cl .int) (.cons (.cl .int) (.cons (.cl .int) .nil))) (add64_cs (by omega)) (.inl rfl) (.tupL (.cons .int (.cons .int .nil)))) ?_
      refine D.pu (Pu.move (.tmp (v:=.tup _) rfl)) ?_
      refine D.pu (Pu.extract (.tmp rfl) rfl) ?_
      refine D.pu (Pu.extract (.tmp rfl) rfl) ?_
      refine D.pu (U.indexO0 rfl (.tmp rfl) rfl rfl (.tmp rfl) (by first|omega|(simp only [List.length_set] at *;omega)) (by first|omega|(simp only [List.length_set] at *;omega)) rfl rfl) ?_
      refine D.ef0 (C.storeE (.tmp rfl) rfl rfl (.tmp (v:=.int _ _) rfl) rfl rfl (.whole (notBad_ne rfl) rfl) .ints) ?_
      refine D.pu (Pu.assign (.tmp (v:=.int _ _) rfl)) ?_
      refine D.nil (by kernel_rfl) ?_
      refine X.still ?_
      refine O.pu (Pu.bin (.tmp rfl) .int U.add64) ?_
      refine O.pu (Pu.move (.tmp (v:=.int _ _) rfl)) ?_
      refine O.nil ?_
      exact ⟨_,(by omega),_,_,_,_,_,_,_,_,_,_,_,rfl,rfl,(by first|rfl|(simp only [List.length_set];done)|(simp only [List.length_drop,List.length_take,List.length_append,List.length_set] at *;omega)),rfl,rfl,rfl,rfl,rfl,rfl,rfl,rfl,rfl,h⟩
    · rw [if_neg c] at h
      refine X.exit (B.out ?_)
      refine X.seq ?_
      refine X.still ?_
      refine O.pu (Pu.move (.tmp (v:=.os _ _ _ _ _) rfl)) ?_
      obtain ⟨q4,Hq4,h⟩:=Option.bind_eq_some_iff.1 h
      refine O.ef (U.callZ (ss:=[16]) (.cons (.tmp (v:=.os _ _ _ _ _) rfl) .nil) (.cons (.osIf (by simp) rfl (Mode.live_ne rfl) rfl (by first|rfl|(simp only [List.length_set];done)|(simp only [List.length_drop,List.length_take,List.length_append,List.length_set] at *;omega))) .nil) (nat_trimmed.cs Hq4) (.aggL (.cons .fi .nil)) (nowin rfl)) ?_
      refine O.ef0 (U.storeE (.tmp rfl) rfl rfl (.tmp (v:=.agg _) rfl) rfl rfl (.whole (notBad_ne rfl) rfl) .one) ?_
      refine O.nil ?_
      refine X.ret ?_
      cases h
      exact E.fin [] (.cell rfl rfl (Mode.live_ne rfl) (U.whole rfl rfl) .nil) (.cons (.cl (.aggL (.cons .fi .nil))) .nil)
noncomputable def c26:Code:=Tryz.f26.body.getD .skip
theorem fn26:FnOk Tryz.prog 26 Tryz.f26 c26:=⟨Tryz.func26,rfl,by kernel_rfl,by kernel_rfl,mixed⟩
theorem frac_Frac_Den.cs {k:Nat} {l0_0:List Int} {a0_1:Bool} {l0_2:List Int} {r:List Int} (h:frac_Frac_Den.f k l0_0 a0_1 l0_2=some r):CS Tryz.prog 26 [.agg [.fi .u64 l0_0, .bool a0_1, .fi .u64 l0_2]] .no [.agg [.fi .u64 r]]:=by
  unfold frac_Frac_Den.f at h
  refine E.pure fn26 rfl ?_
  refine X.seq ?_
  refine X.still ?_
  refine O.puE (v':=.op 1 (1) 0 0) (b':=⟨1, .own,_,_⟩) (Pu.box (.tmp (v:=.agg _) rfl) rfl rfl) rfl rfl ?_
  refine O.puE (v':=.op 2 (1) 0 0) (b':=⟨1, .own,(.vals [.agg [.fi .u64 []]]),_⟩) Pu.alloc rfl rfl ?_
  refine O.nil ?_
  refine X.seq ?_
  refine X.drawn ?_
  refine D.pu (U.fieldA rfl rfl rfl (.tmp rfl)) ?_
  refine D.pu (U.load (.tmp rfl) rfl rfl (U.sub rfl (.skip (.skip (.take .done))))) ?_
  refine D.puE (v':=.os 5 (1) 0 _ true) (b':=⟨1, .own,_,_⟩) (U.litI rfl rfl (.cons .int .nil) rfl rfl) rfl rfl ?_
  obtain ⟨q1,Hq1,h⟩:=Option.bind_eq_some_iff.1 h
  refine D.ef (C.callZ (ss:=[5]) (.cons (.tmp (v:=.os _ _ _ _ _) rfl) .nil) (.cons (.osIf (by simp) rfl (Mode.live_ne rfl) rfl (by first|rfl|(simp only [List.length_set];done)|(simp only [List.length_drop,List.length_take,List.length_append,List.length_set] at *;omega))) .nil) (nat_Of.cs Hq1) (.aggL (.cons .fi .nil)) (nowin rfl)) ?_
  obtain ⟨q2,Hq2,h⟩:=Option.bind_eq_some_iff.1 h
  refine D.pu (U.call (ss:=[]) (.cons (.tmp (v:=.agg _) rfl) (.cons (.tmp (v:=.agg _) rfl) .nil)) (.cons (.cl (.aggL (.cons .fi .nil))) (.cons (.cl (.aggL (.cons .fi .nil))) .nil)) (nat_Nat_Add.cs Hq2) (.inl rfl) (.aggL (.cons .fi .nil))) ?_
  refine D.ef0 (C.storeE (.tmp rfl) rfl rfl (.tmp (v:=.agg _) rfl) rfl rfl (.whole (notBad_ne rfl) rfl) .one) ?_
  refine D.nil (by kernel_rfl) ?_
  refine X.ret ?_
  cases h
  exact E.fin [] (.cell rfl rfl (Mode.live_ne rfl) (U.whole rfl rfl) .nil) (.cons (.cl (.aggL (.cons .fi .nil))) .nil)
noncomputable def c90:Code:=Tryz.f90.body.getD .skip
theorem fn90:FnOk Tryz.prog 90 Tryz.f90 c90:=⟨Tryz.func90,rfl,by kernel_rfl,by kernel_rfl,mixed⟩
theorem nat_Nat_row.cs {k:Nat} {l0_0:List Int} {a1:Int} {l2:List Int} {r:List Int} (h:nat_Nat_row.f k l0_0 a1 l2=some r):CS Tryz.prog 90 [.agg [.fi .u64 l0_0], .int .u64 a1, .os 2 1 0 l2.length false] ⟨some (2, .ints .u64 l2, .ints .u64 r,75),none⟩ []:=by
  have hl:=nat_Nat_row_len h
  unfold nat_Nat_row.f at h
  refine E.win fn90 rfl hl (.tupL .nil) ?_
  refine X.seq ?_
  refine X.still ?_
  refine O.puE (v':=.op 3 (1) 0 0) (b':=⟨1, .own,_,_⟩) (Pu.box (.tmp (v:=.agg _) rfl) rfl rfl) rfl rfl ?_
  refine O.nil ?_
  refine X.seq ?_
  refine X.still ?_
  refine O.pu (Pu.assign .int) ?_
  refine O.nil ?_
  refine X.seq ?_
  refine X.seq ?_
  refine X.still ?_
  refine O.pu (U.fieldA rfl rfl rfl (.tmp rfl)) ?_
  refine O.pu (U.load (.tmp rfl) rfl rfl (U.cell rfl rfl rfl)) ?_
  refine O.pu (Pu.lenI rfl (.tmp rfl)) ?_
  refine O.pu (Pu.move .int) ?_
  refine O.nil ?_
  refine X.block ?_
  refine X.inv (fun k s=>∃ x1 x2 x6 x13 x14 x15 x551000 n2 u3,s.t 1 = .int .u64 x1∧s.b 2=⟨1, .win, .ints .u64 x2,75⟩∧s.t 2 = .os 2 1 0 n2 false∧x2.length=n2∧s.t 6 = .int .u64 x6∧s.t 13 = .fi .u64 x13∧s.t 14 = .int .i64 x14∧s.t 15 = .int .i64 x15∧s.t 3 = .op 3 u3 0 0∧s.b 3=⟨u3, .own, .vals [.agg [.fi .u64 x551000]],29⟩∧nat_Nat_row.l0 k x1 x2 x6 x13 x14 x15 x551000=some r) ?_ ?_ ⟨_,_,_,_,_,_,_,_,_,rfl,rfl,rfl,rfl,rfl,rfl,rfl,rfl,rfl,rfl,h⟩
  · rintro s ⟨_,_,_,_,_,_,_,_,_,_,_,_,_,_,_,_,_,_,_,h⟩;unfold nat_Nat_row.l0 at h;cases h
  · rintro k1 s1 ⟨x1,x2,x6,x13,x14,x15,x551000,n2,u3,e0,e1,e2,rfl,e4,e5,e6,e7,e8,e9,h⟩
    unfold nat_Nat_row.l0 at h
    rw [St.fixT e0,St.fixB e1,St.fixT e2,St.fixT e4,St.fixT e5,St.fixT e6,St.fixT e7,St.fixT e8,St.fixB e9]
    refine X.seq ?_
    refine X.still ?_
    refine O.pu (Pu.bin (.tmp rfl) (.tmp rfl) .lss) ?_
    refine O.nil ?_
    refine X.seq ?_
    refine X.condP (.tmp rfl) (fun c=>?_) (fun c=>?_)
    · rw [if_pos c] at h
      refine X.skip ?_
      refine X.seq ?_
      refine X.block ?_
      refine X.seq ?_
      refine X.still ?_
      refine O.pu (Pu.move (.tmp (v:=.int _ _) rfl)) ?_
      repeat (rw [giff] at h;obtain ⟨_,h⟩:=h)
      refine O.pu (U.rdI rfl rfl (.tmp rfl) (.tmp rfl) (by omega) (by omega)) ?_
      refine O.pu (Pu.loadR (.tmp rfl) (U.self rfl rfl rfl)) ?_
      refine O.pu (Pu.assign (.tmp (v:=.int _ _) rfl)) ?_
      refine O.pu (Pu.assign (.tmp (v:=.int _ _) rfl)) ?_
      refine O.nil ?_
      refine X.seq ?_
      refine X.still ?_
      refine O.pu (Pu.move (.tmp (v:=.int _ _) rfl)) ?_
      refine O.pu (Pu.move (.tmp (v:=.int _ _) rfl)) ?_
      obtain ⟨q1,Hq1,h⟩:=Option.bind_eq_some_iff.1 h
      refine O.pu (U.call (ss:=[]) (.cons (.tmp (v:=.int _ _) rfl) (.cons (.tmp (v:=.int _ _) rfl) .nil)) (.cons (.cl .int) (.cons (.cl .int) .nil)) (bits_Mul64.cs Hq1) (.inl rfl) (.tupL (.cons .int (.cons .int .nil)))) ?_
      refine O.pu (Pu.move (.tmp (v:=.tup _) rfl)) ?_
      refine O.pu (Pu.extract (.tmp rfl) rfl) ?_
      refine O.pu (Pu.extract (.tmp rfl) rfl) ?_
      refine O.pu (Pu.assign (.tmp (v:=.int _ _) rfl)) ?_
      refine O.pu (Pu.assign (.tmp (v:=.int _ _) rfl)) ?_
      refine O.nil ?_
      refine X.seq ?_
      refine X.still ?_
      refine O.pu (Pu.assign .int) ?_
      refine O.nil ?_
      refine X.seq ?_
      refine X.still ?_
      refine O.pu (Pu.move (.tmp (v:=.int _ _) rfl)) ?_
      refine O.pu (Pu.move (.tmp (v:=.int _ _) rfl)) ?_
      repeat (rw [giff] at h;obtain ⟨_,h⟩:=h)
      refine O.pu (U.call (ss:=[]) (.cons (.tmp (v:=.int _ _) rfl) (.cons (.tmp (v:=.int _ _) rfl) (.cons .int .nil))) (.cons (.cl .int) (.cons (.cl .int) (.cons (.cl .int) .nil))) (add64_cs (by omega)) (.inl rfl) (.tupL (.cons .int (.cons .int .nil)))) ?_
      refine O.pu (Pu.move (.tmp (v:=.tup _) rfl)) ?_
      refine O.pu (Pu.extract (.tmp rfl) rfl) ?_
      refine O.pu (Pu.extract (.tmp rfl) rfl) ?_
      refine O.pu (Pu.assign (.tmp (v:=.int _ _) rfl)) ?_
      refine O.pu (Pu.assign (.tmp (v:=.int _ _) rfl)) ?_
      refine O.nil ?_
      refine X.seq ?_
      refine X.still ?_
      refine O.pu (Pu.move (.tmp (v:=.int _ _) rfl)) ?_
      refine O.pu (Pu.move (.tmp (v:=.int _ _) rfl)) ?_
      refine O.pu (Pu.bin (.tmp rfl) (.tmp rfl) .add) ?_
      refine O.pu (Pu.assign (.tmp (v:=.int _ _) rfl)) ?_
      refine O.nil ?_
      refine X.seq ?_
      refine X.still ?_
      refine O.pu (Pu.move (.tmp (v:=.os _ _ _ _ _) rfl)) ?_
      refine O.pu (Pu.move (.tmp (v:=.int _ _) rfl)) ?_
      refine O.pu (Pu.move (.tmp (v:=.os _ _ _ _ _) rfl)) ?_
      refine O.pu (Pu.move (.tmp (v:=.int _ _) rfl)) ?_
      refine O.pu (U.indexO0 rfl (.tmp rfl) rfl rfl (.tmp rfl) (by first|omega|(simp only [List.length_set] at *;omega)) (by first|omega|(simp only [List.length_set] at *;omega)) rfl rfl) ?_
      refine O.pu (U.rdO (.tmp rfl) rfl rfl rfl rfl rfl) ?_
      refine O.pu (Pu.move (.tmp (v:=.int _ _) rfl)) ?_
      refine O.pu (U.call (ss:=[]) (.cons (.tmp (v:=.int _ _) rfl) (.cons (.tmp (v:=.int _ _) rfl) (.cons .int .nil))) (.cons (.cl .int) (.cons (.cl .int) (.cons (.cl .int) .nil))) (add64_cs (by omega)) (.inl rfl) (.tupL (.cons .int (.cons .int .nil)))) ?_
      refine O.pu (Pu.move (.tmp (v:=.tup _) rfl)) ?_
      refine O.pu (Pu.extract (.tmp rfl) rfl) ?_
      refine O.pu (Pu.extract (.tmp rfl) rfl) ?_
      refine O.pu (U.indexO0 rfl (.tmp rfl) rfl rfl (.tmp rfl) (by first|omega|(simp only [List.length_set] at *;omega)) (by first|omega|(simp only [List.length_set] at *;omega)) rfl rfl) ?_
      refine O.ef0 (U.storeE (.tmp rfl) rfl rfl (.tmp (v:=.int _ _) rfl) rfl rfl (.whole (notBad_ne rfl) rfl) .ints) ?_
      refine O.pu (Pu.assign (.tmp (v:=.int _ _) rfl)) ?_
      refine O.nil ?_
      refine X.still ?_
      refine O.pu (Pu.move (.tmp (v:=.int _ _) rfl)) ?_
      refine O.pu (Pu.move (.tmp (v:=.int _ _) rfl)) ?_
      refine O.pu (Pu.bin (.tmp rfl) (.tmp rfl) .add) ?_
      refine O.pu (Pu.assign (.tmp (v:=.int _ _) rfl)) ?_
      refine O.nil ?_
      refine X.still ?_
      refine O.pu (Pu.bin (.tmp rfl) .int U.add64) ?_
      refine O.pu (Pu.move (.tmp (v:=.int _ _) rfl)) ?_
      refine O.nil ?_
      exact ⟨_,(by omega),_,_,_,_,_,_,_,_,_,rfl,rfl,rfl,(by first|rfl|(simp only [List.length_set];done)|(simp only [List.length_drop,List.length_take,List.length_append,List.length_set] at *;omega)),rfl,rfl,rfl,rfl,rfl,rfl,h⟩
    · rw [if_neg c] at h
      refine X.exit (B.out ?_)
      refine X.still ?_
      refine O.pu (Pu.move (.tmp (v:=.os _ _ _ _ _) rfl)) ?_
      refine O.pu (U.fieldA rfl rfl rfl (.tmp rfl)) ?_
      refine O.pu (U.load (.tmp rfl) rfl rfl (U.cell rfl rfl rfl)) ?_
      refine O.pu (Pu.lenI rfl (.tmp rfl)) ?_
      repeat (rw [giff] at h;obtain ⟨_,h⟩:=h)
      refine O.pu (U.indexO0 rfl (.tmp rfl) rfl rfl (.tmp rfl) (by first|omega|(simp only [List.length_set] at *;omega)) (by first|omega|(simp only [List.length_set] at *;omega)) rfl rfl) ?_
      refine O.pu (U.rdO (.tmp rfl) rfl rfl rfl rfl rfl) ?_
      refine O.pu (Pu.move (.tmp (v:=.int _ _) rfl)) ?_
      refine O.pu (Pu.bin (.tmp rfl) (.tmp rfl) .add) ?_
      refine O.pu (U.indexO0 rfl (.tmp rfl) rfl rfl (.tmp rfl) (by first|omega|(simp only [List.length_set] at *;omega)) (by first|omega|(simp only [List.length_set] at *;omega)) rfl rfl) ?_
      refine O.ef0 (U.storeE (.tmp rfl) rfl rfl (.tmp (v:=.int _ _) rfl) rfl rfl (.whole (notBad_ne rfl) rfl) .ints) ?_
      refine O.nil ?_
      cases h
      exact E.finW .nil rfl
noncomputable def c67:Code:=Tryz.f67.body.getD .skip
theorem fn67:FnOk Tryz.prog 67 Tryz.f67 c67:=⟨Tryz.func67,rfl,by kernel_rfl,by kernel_rfl,mixed⟩
theorem nat_Nat_Mul.cs {k:Nat} {l0_0:List Int} {l1_0:List Int} {r:List Int} (h:nat_Nat_Mul.f k l0_0 l1_0=some r):CS Tryz.prog 67 [.agg [.fi .u64 l0_0], .agg [.fi .u64 l1_0]] .no [.agg [.fi .u64 r]]:=by
  unfold nat_Nat_Mul.f at h
  refine E.pure fn67 rfl ?_
  refine X.seq ?_
  refine X.still ?_
  refine O.puE (v':=.op 2 (1) 0 0) (b':=⟨1, .own,_,_⟩) (Pu.box (.tmp (v:=.agg _) rfl) rfl rfl) rfl rfl ?_
  refine O.puE (v':=.op 3 (1) 0 0) (b':=⟨1, .own,_,_⟩) (Pu.box (.tmp (v:=.agg _) rfl) rfl rfl) rfl rfl ?_
  refine O.puE (v':=.op 4 (1) 0 0) (b':=⟨1, .own,(.vals [.agg [.fi .u64 []]]),_⟩) Pu.alloc rfl rfl ?_
  refine O.nil ?_
  refine X.seq ?_
  refine X.still ?_
  refine O.pu (U.fieldA rfl rfl rfl (.tmp rfl)) ?_
  refine O.pu (U.load (.tmp rfl) rfl rfl (U.cell rfl rfl rfl)) ?_
  refine O.pu (Pu.lenI rfl (.tmp rfl)) ?_
  refine O.pu (U.fieldA rfl rfl rfl (.tmp rfl)) ?_
  refine O.pu (U.load (.tmp rfl) rfl rfl (U.cell rfl rfl rfl)) ?_
  refine O.pu (Pu.lenI rfl (.tmp rfl)) ?_
  refine O.pu (Pu.bin (.tmp rfl) (.tmp rfl) U.add64) ?_
  refine O.pu (Pu.bin (.tmp rfl) .int U.add64) ?_
  repeat (rw [giff] at h;obtain ⟨_,h⟩:=h)
  refine O.puE (v':=.os 16 (1) 0 _ true) (b':=⟨1, .own,_,_⟩) (U.makeI rfl rfl (.tmp rfl) (.tmp rfl) (by omega) (by omega) rfl (by omega)) rfl rfl ?_
  refine O.pu (Pu.assign (.tmp (v:=.os _ _ _ _ _) rfl)) ?_
  refine O.nil ?_
  refine X.seq ?_
  refine X.seq ?_
  refine X.still ?_
  refine O.pu (U.fieldA rfl rfl rfl (.tmp rfl)) ?_
  refine O.pu (U.load (.tmp rfl) rfl rfl (U.cell rfl rfl rfl)) ?_
  refine O.pu (Pu.lenI rfl (.tmp rfl)) ?_
  refine O.pu (Pu.move .int) ?_
  refine O.nil ?_
  refine X.block ?_
  refine X.inv (fun k s=>∃ x5 x18 x19 x20 x559000 n5 u16 u2 u3 u4 z3_0,s.b 16=⟨u16, .own, .ints .u64 x5,75⟩∧s.t 5 = .os 16 u16 0 n5 true∧x5.length=n5∧s.t 18 = .fi .u64 x18∧s.t 19 = .int .i64 x19∧s.t 20 = .int .i64 x20∧s.t 2 = .op 2 u2 0 0∧s.b 2=⟨u2, .own, .vals [.agg [.fi .u64 x559000]],29⟩∧s.t 3 = .op 3 u3 0 0∧s.b 3=⟨u3, .own, .vals [.agg [.fi .u64 z3_0]],29⟩∧s.t 4 = .op 4 u4 0 0∧s.b 4=⟨u4, .own, .vals [.agg [.fi .u64 []]],29⟩∧nat_Nat_Mul.l0 k x5 x18 x19 x20 x559000=some r) ?_ ?_ ⟨_,_,_,_,_,_,_,_,_,_,_,rfl,rfl,rfl,rfl,rfl,rfl,rfl,rfl,rfl,rfl,rfl,rfl,h⟩
  · rintro s ⟨_,_,_,_,_,_,_,_,_,_,_,_,_,_,_,_,_,_,_,_,_,_,_,h⟩;unfold nat_Nat_Mul.l0 at h;cases h
  · rintro k1 s1 ⟨x5,x18,x19,x20,x559000,n5,u16,u2,u3,u4,z3_0,e0,e1,rfl,e3,e4,e5,e6,e7,e8,e9,e10,e11,h⟩
    unfold nat_Nat_Mul.l0 at h
    rw [St.fixB e0,St.fixT e1,St.fixT e3,St.fixT e4,St.fixT e5,St.fixT e6,St.fixB e7,St.fixT e8,St.fixB e9,St.fixT e10,St.fixB e11]
    refine X.seq ?_
    refine X.still ?_
    refine O.pu (Pu.bin (.tmp rfl) (.tmp rfl) .lss) ?_
    refine O.nil ?_
    refine X.seq ?_
    refine X.condP (.tmp rfl) (fun c=>?_) (fun c=>?_)
    · rw [if_pos c] at h
      refine X.skip ?_
      refine X.seq ?_
      refine X.block ?_
      refine X.seq ?_
      refine X.still ?_
      refine O.pu (Pu.move (.tmp (v:=.int _ _) rfl)) ?_
      repeat (rw [giff] at h;obtain ⟨_,h⟩:=h)
      refine O.pu (U.rdI rfl rfl (.tmp rfl) (.tmp rfl) (by omega) (by omega)) ?_
      refine O.pu (Pu.loadR (.tmp rfl) (U.self rfl rfl rfl)) ?_
      refine O.pu (Pu.assign (.tmp (v:=.int _ _) rfl)) ?_
      refine O.pu (Pu.assign (.tmp (v:=.int _ _) rfl)) ?_
      refine O.nil ?_
      refine X.drawn ?_
      refine D.pu (U.load (.tmp rfl) rfl rfl (U.whole rfl rfl)) ?_
      refine D.pu (Pu.move (.tmp (v:=.int _ _) rfl)) ?_
      refine D.pu (Pu.move (.tmp (v:=.os _ _ _ _ _) rfl)) ?_
      refine D.pu (Pu.move (.tmp (v:=.int _ _) rfl)) ?_
      obtain ⟨q1,Hq1,h⟩:=Option.bind_eq_some_iff.1 h
      obtain ⟨⟨_,_,_⟩,q2,Hq2,rfl⟩:=win_e Hq1
      have hlq2:=nat_Nat_row_len Hq2
      refine D.pu (U.sliceO0 rfl (.tmp rfl) rfl rfl ⟨rfl,rfl⟩ (.yes (.tmp rfl) (by omega)) .no .no (by omega) (by omega)) ?_
      refine D.any (U.callW (res:=[]) (ss:=[]) (.cons (.tmp (v:=.agg _) rfl) (.cons (.tmp (v:=.int _ _) rfl) (.cons (.tmp (v:=.os _ _ _ _ _) rfl) .nil))) (.cons (.cl (.aggL (.cons .fi .nil))) (.cons (.cl .int) (.hole ⟨rfl,fun i hi=>absurd hi (Nat.not_lt_zero i)⟩))) rfl rfl rfl rfl rfl (by simp only [List.length_drop,List.length_take,List.length_append,List.length_set] at *;omega) (by simp only [List.length_drop,List.length_take,List.length_append,List.length_set] at *;omega) (by simp only [List.length_drop,List.length_take,List.length_append,List.length_set] at *;omega) (by simp only [List.length_drop,List.length_take,List.length_append,List.length_set] at *;omega) (.tupL .nil) (nat_Nat_row.cs Hq2)) ?_
      refine D.nil (by kernel_rfl) ?_
      refine X.still ?_
      refine O.pu (Pu.bin (.tmp rfl) .int U.add64) ?_
      refine O.pu (Pu.move (.tmp (v:=.int _ _) rfl)) ?_
      refine O.nil ?_
      exact ⟨_,(by omega),_,_,_,_,_,_,_,_,_,_,_,rfl,rfl,(by first|rfl|(simp only [List.length_set];done)|(simp only [List.length_drop,List.length_take,List.length_append,List.length_set] at *;omega)),rfl,rfl,rfl,rfl,rfl,rfl,rfl,rfl,rfl,h⟩
    · rw [if_neg c] at h
      refine X.exit (B.out ?_)
      refine X.seq ?_
      refine X.still ?_
      refine O.pu (Pu.move (.tmp (v:=.os _ _ _ _ _) rfl)) ?_
      obtain ⟨q3,Hq3,h⟩:=Option.bind_eq_some_iff.1 h
      refine O.ef (U.callZ (ss:=[16]) (.cons (.tmp (v:=.os _ _ _ _ _) rfl) .nil) (.cons (.osIf (by simp) rfl (Mode.live_ne rfl) rfl (by first|rfl|(simp only [List.length_set];done)|(simp only [List.length_drop,List.length_take,List.length_append,List.length_set] at *;omega))) .nil) (nat_trimmed.cs Hq3) (.aggL (.cons .fi .nil)) (nowin rfl)) ?_
      refine O.ef0 (U.storeE (.tmp rfl) rfl rfl (.tmp (v:=.agg _) rfl) rfl rfl (.whole (notBad_ne rfl) rfl) .one) ?_
      refine O.nil ?_
      refine X.ret ?_
      cases h
      exact E.fin [] (.cell rfl rfl (Mode.live_ne rfl) (U.whole rfl rfl) .nil) (.cons (.cl (.aggL (.cons .fi .nil))) .nil)
noncomputable def c64:Code:=Tryz.f64.body.getD .skip
theorem fn64:FnOk Tryz.prog 64 Tryz.f64 c64:=⟨Tryz.func64,rfl,by kernel_rfl,by kernel_rfl,mixed⟩
theorem whole_Int_Mul.cs {k:Nat} {l0_0:List Int} {a0_1:Bool} {l1_0:List Int} {a1_1:Bool} {r:List Int×Bool} (h:whole_Int_Mul.f k l0_0 a0_1 l1_0 a1_1=some r):CS Tryz.prog 64 [.agg [.fi .u64 l0_0, .bool a0_1], .agg [.fi .u64 l1_0, .bool a1_1]] .no [.agg [.fi .u64 r.1, .bool r.2]]:=by
  unfold whole_Int_Mul.f at h
  refine E.pure fn64 rfl ?_
  refine X.seq ?_
  refine X.still ?_
  refine O.puE (v':=.op 2 (1) 0 0) (b':=⟨1, .own,_,_⟩) (Pu.box (.tmp (v:=.agg _) rfl) rfl rfl) rfl rfl ?_
  refine O.puE (v':=.op 3 (1) 0 0) (b':=⟨1, .own,_,_⟩) (Pu.box (.tmp (v:=.agg _) rfl) rfl rfl) rfl rfl ?_
  refine O.puE (v':=.op 4 (1) 0 0) (b':=⟨1, .own,(.vals [.agg [.fi .u64 [], .bool false]]),_⟩) Pu.alloc rfl rfl ?_
  refine O.nil ?_
  refine X.seq ?_
  refine X.drawn ?_
  refine D.pu (U.fieldA rfl rfl rfl (.tmp rfl)) ?_
  refine D.pu (U.load (.tmp rfl) rfl rfl (U.sub rfl (.take .done))) ?_
  refine D.pu (U.fieldA rfl rfl rfl (.tmp rfl)) ?_
  refine D.pu (U.load (.tmp rfl) rfl rfl (U.sub rfl (.take .done))) ?_
  obtain ⟨q1,Hq1,h⟩:=Option.bind_eq_some_iff.1 h
  refine D.pu (U.call (ss:=[]) (.cons (.tmp (v:=.agg _) rfl) (.cons (.tmp (v:=.agg _) rfl) .nil)) (.cons (.cl (.aggL (.cons .fi .nil))) (.cons (.cl (.aggL (.cons .fi .nil))) .nil)) (nat_Nat_Mul.cs Hq1) (.inl rfl) (.aggL (.cons .fi .nil))) ?_
  refine D.pu (U.fieldA rfl rfl rfl (.tmp rfl)) ?_
  refine D.pu (U.load (.tmp rfl) rfl rfl (U.cell rfl rfl rfl)) ?_
  refine D.pu (U.fieldA rfl rfl rfl (.tmp rfl)) ?_
  refine D.pu (U.load (.tmp rfl) rfl rfl (U.cell rfl rfl rfl)) ?_
  refine D.pu (Pu.bin (.tmp rfl) (.tmp rfl) (U.bneq rfl)) ?_
  obtain ⟨q2,Hq2,h⟩:=Option.bind_eq_some_iff.1 h
  refine D.pu (U.call (ss:=[]) (.cons (.tmp (v:=.agg _) rfl) (.cons (.tmp (v:=.bool _) rfl) .nil)) (.cons (.cl (.aggL (.cons .fi .nil))) (.cons (.cl .bool) .nil)) (whole_Of.cs Hq2) (.inl rfl) (.aggL (.cons .fi (.cons .bool .nil)))) ?_
  refine D.ef0 (C.storeE (.tmp rfl) rfl rfl (.tmp (v:=.agg _) rfl) rfl rfl (.whole (notBad_ne rfl) rfl) .one) ?_
  refine D.nil (by kernel_rfl) ?_
  refine X.ret ?_
  cases h
  exact E.fin [] (.cell rfl rfl (Mode.live_ne rfl) (U.whole rfl rfl) .nil) (.cons (.cl (.aggL (.cons .fi (.cons .bool .nil)))) .nil)
noncomputable def c65:Code:=Tryz.f65.body.getD .skip
theorem fn65:FnOk Tryz.prog 65 Tryz.f65 c65:=⟨Tryz.func65,rfl,by kernel_rfl,by kernel_rfl,mixed⟩
theorem frac_Frac_den.cs {k:Nat} {l0_0:List Int} {a0_1:Bool} {l0_2:List Int} {r:List Int×Bool} (h:frac_Frac_den.f k l0_0 a0_1 l0_2=some r):CS Tryz.prog 65 [.agg [.fi .u64 l0_0, .bool a0_1, .fi .u64 l0_2]] .no [.agg [.fi .u64 r.1, .bool r.2]]:=by
  unfold frac_Frac_den.f at h
  refine E.pure fn65 rfl ?_
  refine X.seq ?_
  refine X.still ?_
  refine O.puE (v':=.op 1 (1) 0 0) (b':=⟨1, .own,_,_⟩) (Pu.box (.tmp (v:=.agg _) rfl) rfl rfl) rfl rfl ?_
  refine O.puE (v':=.op 2 (1) 0 0) (b':=⟨1, .own,(.vals [.agg [.fi .u64 [], .bool false]]),_⟩) Pu.alloc rfl rfl ?_
  refine O.nil ?_
  refine X.seq ?_
  refine X.still ?_
  refine O.pu (U.load (.tmp rfl) rfl rfl (U.whole rfl rfl)) ?_
  obtain ⟨q1,Hq1,h⟩:=Option.bind_eq_some_iff.1 h
  refine O.pu (U.call (ss:=[]) (.cons (.tmp (v:=.agg _) rfl) .nil) (.cons (.cl (.aggL (.cons .fi (.cons .bool (.cons .fi .nil))))) .nil) (frac_Frac_Den.cs Hq1) (.inl rfl) (.aggL (.cons .fi .nil))) ?_
  obtain ⟨q2,Hq2,h⟩:=Option.bind_eq_some_iff.1 h
  refine O.pu (U.call (ss:=[]) (.cons (.tmp (v:=.agg _) rfl) (.cons .bool .nil)) (.cons (.cl (.aggL (.cons .fi .nil))) (.cons (.cl .bool) .nil)) (whole_Of.cs Hq2) (.inl rfl) (.aggL (.cons .fi (.cons .bool .nil)))) ?_
  refine O.ef0 (U.storeE (.tmp rfl) rfl rfl (.tmp (v:=.agg _) rfl) rfl rfl (.whole (notBad_ne rfl) rfl) .one) ?_
  refine O.nil ?_
  refine X.ret ?_
  cases h
  exact E.fin [] (.cell rfl rfl (Mode.live_ne rfl) (U.whole rfl rfl) .nil) (.cons (.cl (.aggL (.cons .fi (.cons .bool .nil)))) .nil)
noncomputable def c66:Code:=Tryz.f66.body.getD .skip
theorem fn66:FnOk Tryz.prog 66 Tryz.f66 c66:=⟨Tryz.func66,rfl,by kernel_rfl,by kernel_rfl,mixed⟩
theorem whole_Int_Add.cs {k:Nat} {l0_0:List Int} {a0_1:Bool} {l1_0:List Int} {a1_1:Bool} {r:List Int×Bool} (h:whole_Int_Add.f k l0_0 a0_1 l1_0 a1_1=some r):CS Tryz.prog 66 [.agg [.fi .u64 l0_0, .bool a0_1], .agg [.fi .u64 l1_0, .bool a1_1]] .no [.agg [.fi .u64 r.1, .bool r.2]]:=by
  unfold whole_Int_Add.f at h
  refine E.pure fn66 rfl ?_
  refine X.seq ?_
  refine X.still ?_
  refine O.puE (v':=.op 2 (1) 0 0) (b':=⟨1, .own,_,_⟩) (Pu.box (.tmp (v:=.agg _) rfl) rfl rfl) rfl rfl ?_
  refine O.puE (v':=.op 3 (1) 0 0) (b':=⟨1, .own,_,_⟩) (Pu.box (.tmp (v:=.agg _) rfl) rfl rfl) rfl rfl ?_
  refine O.puE (v':=.op 4 (1) 0 0) (b':=⟨1, .own,(.vals [.agg [.fi .u64 [], .bool false]]),_⟩) Pu.alloc rfl rfl ?_
  refine O.nil ?_
  refine X.seq ?_
  refine X.seq ?_
  refine X.still ?_
  refine O.pu (U.fieldA rfl rfl rfl (.tmp rfl)) ?_
  refine O.pu (U.load (.tmp rfl) rfl rfl (U.cell rfl rfl rfl)) ?_
  refine O.pu (U.fieldA rfl rfl rfl (.tmp rfl)) ?_
  refine O.pu (U.load (.tmp rfl) rfl rfl (U.cell rfl rfl rfl)) ?_
  refine O.pu (Pu.bin (.tmp rfl) (.tmp rfl) (.beql rfl)) ?_
  refine O.nil ?_
  refine X.cond (.tmp rfl) (fun c=>?_) (fun c=>?_)
  · rw [if_pos c] at h
    refine X.seq ?_
    refine X.drawn ?_
    refine D.pu (U.fieldA rfl rfl rfl (.tmp rfl)) ?_
    refine D.pu (U.load (.tmp rfl) rfl rfl (U.sub rfl (.take .done))) ?_
    refine D.pu (U.fieldA rfl rfl rfl (.tmp rfl)) ?_
    refine D.pu (U.load (.tmp rfl) rfl rfl (U.sub rfl (.take .done))) ?_
    obtain ⟨q1,Hq1,h⟩:=Option.bind_eq_some_iff.1 h
    refine D.pu (U.call (ss:=[]) (.cons (.tmp (v:=.agg _) rfl) (.cons (.tmp (v:=.agg _) rfl) .nil)) (.cons (.cl (.aggL (.cons .fi .nil))) (.cons (.cl (.aggL (.cons .fi .nil))) .nil)) (nat_Nat_Add.cs Hq1) (.inl rfl) (.aggL (.cons .fi .nil))) ?_
    refine D.pu (U.fieldA rfl rfl rfl (.tmp rfl)) ?_
    refine D.pu (U.load (.tmp rfl) rfl rfl (U.cell rfl rfl rfl)) ?_
    obtain ⟨q2,Hq2,h⟩:=Option.bind_eq_some_iff.1 h
    refine D.pu (U.call (ss:=[]) (.cons (.tmp (v:=.agg _) rfl) (.cons (.tmp (v:=.bool _) rfl) .nil)) (.cons (.cl (.aggL (.cons .fi .nil))) (.cons (.cl .bool) .nil)) (whole_Of.cs Hq2) (.inl rfl) (.aggL (.cons .fi (.cons .bool .nil)))) ?_
    refine D.ef0 (C.storeE (.tmp rfl) rfl rfl (.tmp (v:=.agg _) rfl) rfl rfl (.whole (notBad_ne rfl) rfl) .one) ?_
    refine D.nil (by kernel_rfl) ?_
    refine X.ret ?_
    cases h
    exact E.fin [] (.cell rfl rfl (Mode.live_ne rfl) (U.whole rfl rfl) .nil) (.cons (.cl (.aggL (.cons .fi (.cons .bool .nil)))) .nil)
  · rw [if_neg (bf c)] at h
    refine X.skip ?_
    refine X.seq ?_
    refine X.seq ?_
    refine X.still ?_
    refine O.pu (U.fieldA rfl rfl rfl (.tmp rfl)) ?_
    refine O.pu (U.load (.tmp rfl) rfl rfl (U.sub rfl (.take .done))) ?_
    refine O.pu (U.fieldA rfl rfl rfl (.tmp rfl)) ?_
    refine O.pu (U.load (.tmp rfl) rfl rfl (U.sub rfl (.take .done))) ?_
    obtain ⟨q3,Hq3,h⟩:=Option.bind_eq_some_iff.1 h
    refine O.pu (U.call (ss:=[]) (.cons (.tmp (v:=.agg _) rfl) (.cons (.tmp (v:=.agg _) rfl) .nil)) (.cons (.cl (.aggL (.cons .fi .nil))) (.cons (.cl (.aggL (.cons .fi .nil))) .nil)) (nat_Nat_Sub.cs Hq3) (.inl rfl) (.tupL (.cons (.aggL (.cons .fi .nil)) (.cons .bool .nil)))) ?_
    refine O.pu (Pu.move (.tmp (v:=.tup _) rfl)) ?_
    refine O.pu (Pu.extract (.tmp rfl) rfl) ?_
    refine O.pu (Pu.extract (.tmp rfl) rfl) ?_
    refine O.puE (v':=.op 5 (1) 0 0) (b':=⟨1, .own,(.vals [.agg [.fi .u64 []]]),_⟩) Pu.alloc rfl rfl ?_
    refine O.ef0 (U.storeE (.tmp rfl) rfl rfl (.tmp (v:=.agg _) rfl) rfl rfl (.whole (notBad_ne rfl) rfl) .one) ?_
    refine O.pu (Pu.assign (.tmp (v:=.bool _) rfl)) ?_
    refine O.nil ?_
    refine X.seq ?_
    refine X.still ?_
    refine O.pu (Pu.move (.tmp (v:=.bool _) rfl)) ?_
    refine O.nil ?_
    refine X.cond (.tmp rfl) (fun c=>?_) (fun c=>?_)
    · rw [if_pos c] at h
      refine X.seq ?_
      refine X.still ?_
      refine O.pu (U.load (.tmp rfl) rfl rfl (U.whole rfl rfl)) ?_
      refine O.pu (U.fieldA rfl rfl rfl (.tmp rfl)) ?_
      refine O.pu (U.load (.tmp rfl) rfl rfl (U.cell rfl rfl rfl)) ?_
      obtain ⟨q4,Hq4,h⟩:=Option.bind_eq_some_iff.1 h
      refine O.pu (U.call (ss:=[]) (.cons (.tmp (v:=.agg _) rfl) (.cons (.tmp (v:=.bool _) rfl) .nil)) (.cons (.cl (.aggL (.cons .fi .nil))) (.cons (.cl .bool) .nil)) (whole_Of.cs Hq4) (.inl rfl) (.aggL (.cons .fi (.cons .bool .nil)))) ?_
      refine O.ef0 (U.storeE (.tmp rfl) rfl rfl (.tmp (v:=.agg _) rfl) rfl rfl (.whole (notBad_ne rfl) rfl) .one) ?_
      refine O.nil ?_
      refine X.ret ?_
      cases h
      exact E.fin [] (.cell rfl rfl (Mode.live_ne rfl) (U.whole rfl rfl) .nil) (.cons (.cl (.aggL (.cons .fi (.cons .bool .nil)))) .nil)
    · rw [if_neg (bf c)] at h
      refine X.skip ?_
      refine X.seq ?_
      refine X.still ?_
      refine O.pu (U.fieldA rfl rfl rfl (.tmp rfl)) ?_
      refine O.pu (U.load (.tmp rfl) rfl rfl (U.sub rfl (.take .done))) ?_
      refine O.pu (U.fieldA rfl rfl rfl (.tmp rfl)) ?_
      refine O.pu (U.load (.tmp rfl) rfl rfl (U.sub rfl (.take .done))) ?_
      obtain ⟨q5,Hq5,h⟩:=Option.bind_eq_some_iff.1 h
      refine O.pu (U.call (ss:=[]) (.cons (.tmp (v:=.agg _) rfl) (.cons (.tmp (v:=.agg _) rfl) .nil)) (.cons (.cl (.aggL (.cons .fi .nil))) (.cons (.cl (.aggL (.cons .fi .nil))) .nil)) (nat_Nat_Sub.cs Hq5) (.inl rfl) (.tupL (.cons (.aggL (.cons .fi .nil)) (.cons .bool .nil)))) ?_
      refine O.pu (Pu.move (.tmp (v:=.tup _) rfl)) ?_
      refine O.pu (Pu.extract (.tmp rfl) rfl) ?_
      refine O.pu (Pu.extract (.tmp rfl) rfl) ?_
      refine O.puE (v':=.op 7 (1) 0 0) (b':=⟨1, .own,(.vals [.agg [.fi .u64 []]]),_⟩) Pu.alloc rfl rfl ?_
      refine O.ef0 (U.storeE (.tmp rfl) rfl rfl (.tmp (v:=.agg _) rfl) rfl rfl (.whole (notBad_ne rfl) rfl) .one) ?_
      refine O.pu (Pu.assign (.tmp (v:=.bool _) rfl)) ?_
      refine O.nil ?_
      refine X.seq ?_
      refine X.still ?_
      refine O.pu (U.load (.tmp rfl) rfl rfl (U.whole rfl rfl)) ?_
      refine O.pu (U.fieldA rfl rfl rfl (.tmp rfl)) ?_
      refine O.pu (U.load (.tmp rfl) rfl rfl (U.cell rfl rfl rfl)) ?_
      obtain ⟨q6,Hq6,h⟩:=Option.bind_eq_some_iff.1 h
      refine O.pu (U.call (ss:=[]) (.cons (.tmp (v:=.agg _) rfl) (.cons (.tmp (v:=.bool _) rfl) .nil)) (.cons (.cl (.aggL (.cons .fi .nil))) (.cons (.cl .bool) .nil)) (whole_Of.cs Hq6) (.inl rfl) (.aggL (.cons .fi (.cons .bool .nil)))) ?_
      refine O.ef0 (U.storeE (.tmp rfl) rfl rfl (.tmp (v:=.agg _) rfl) rfl rfl (.whole (notBad_ne rfl) rfl) .one) ?_
      refine O.nil ?_
      refine X.ret ?_
      cases h
      exact E.fin [] (.cell rfl rfl (Mode.live_ne rfl) (U.whole rfl rfl) .nil) (.cons (.cl (.aggL (.cons .fi (.cons .bool .nil)))) .nil)
noncomputable def c41:Code:=Tryz.f41.body.getD .skip
theorem fn41:FnOk Tryz.prog 41 Tryz.f41 c41:=⟨Tryz.func41,rfl,by kernel_rfl,by kernel_rfl,mixed⟩
theorem frac_Frac_Add.cs {k:Nat} {l0_0:List Int} {a0_1:Bool} {l0_2:List Int} {l1_0:List Int} {a1_1:Bool} {l1_2:List Int} {r:List Int×Bool×List Int} (h:frac_Frac_Add.f k l0_0 a0_1 l0_2 l1_0 a1_1 l1_2=some r):CS Tryz.prog 41 [.agg [.fi .u64 l0_0, .bool a0_1, .fi .u64 l0_2], .agg [.fi .u64 l1_0, .bool a1_1, .fi .u64 l1_2]] .no [.agg [.fi .u64 r.1, .bool r.2.1, .fi .u64 r.2.2]]:=by
  unfold frac_Frac_Add.f at h
  refine E.pure fn41 rfl ?_
  refine X.seq ?_
  refine X.still ?_
  refine O.puE (v':=.op 2 (1) 0 0) (b':=⟨1, .own,_,_⟩) (Pu.box (.tmp (v:=.agg _) rfl) rfl rfl) rfl rfl ?_
  refine O.puE (v':=.op 3 (1) 0 0) (b':=⟨1, .own,_,_⟩) (Pu.box (.tmp (v:=.agg _) rfl) rfl rfl) rfl rfl ?_
  refine O.puE (v':=.op 4 (1) 0 0) (b':=⟨1, .own,(.vals [.agg [.fi .u64 [], .bool false, .fi .u64 []]]),_⟩) Pu.alloc rfl rfl ?_
  refine O.nil ?_
  refine X.seq ?_
  refine X.drawn ?_
  refine D.pu (U.fieldA rfl rfl rfl (.tmp rfl)) ?_
  refine D.pu (U.load (.tmp rfl) rfl rfl (U.sub rfl (.take (.take .done)))) ?_
  refine D.pu (U.load (.tmp rfl) rfl rfl (U.whole rfl rfl)) ?_
  obtain ⟨q1,Hq1,h⟩:=Option.bind_eq_some_iff.1 h
  refine D.pu (U.call (ss:=[]) (.cons (.tmp (v:=.agg _) rfl) .nil) (.cons (.cl (.aggL (.cons .fi (.cons .bool (.cons .fi .nil))))) .nil) (frac_Frac_den.cs Hq1) (.inl rfl) (.aggL (.cons .fi (.cons .bool .nil)))) ?_
  obtain ⟨q2,Hq2,h⟩:=Option.bind_eq_some_iff.1 h
  refine D.pu (U.call (ss:=[]) (.cons (.tmp (v:=.agg _) rfl) (.cons (.tmp (v:=.agg _) rfl) .nil)) (.cons (.cl (.aggL (.cons .fi (.cons .bool .nil)))) (.cons (.cl (.aggL (.cons .fi (.cons .bool .nil)))) .nil)) (whole_Int_Mul.cs Hq2) (.inl rfl) (.aggL (.cons .fi (.cons .bool .nil)))) ?_
  refine D.pu (U.fieldA rfl rfl rfl (.tmp rfl)) ?_
  refine D.pu (U.load (.tmp rfl) rfl rfl (U.sub rfl (.take (.take .done)))) ?_
  refine D.pu (U.load (.tmp rfl) rfl rfl (U.whole rfl rfl)) ?_
  obtain ⟨q3,Hq3,h⟩:=Option.bind_eq_some_iff.1 h
  refine D.pu (U.call (ss:=[]) (.cons (.tmp (v:=.agg _) rfl) .nil) (.cons (.cl (.aggL (.cons .fi (.cons .bool (.cons .fi .nil))))) .nil) (frac_Frac_den.cs Hq3) (.inl rfl) (.aggL (.cons .fi (.cons .bool .nil)))) ?_
  obtain ⟨q4,Hq4,h⟩:=Option.bind_eq_some_iff.1 h
  refine D.pu (U.call (ss:=[]) (.cons (.tmp (v:=.agg _) rfl) (.cons (.tmp (v:=.agg _) rfl) .nil)) (.cons (.cl (.aggL (.cons .fi (.cons .bool .nil)))) (.cons (.cl (.aggL (.cons .fi (.cons .bool .nil)))) .nil)) (whole_Int_Mul.cs Hq4) (.inl rfl) (.aggL (.cons .fi (.cons .bool .nil)))) ?_
  obtain ⟨q5,Hq5,h⟩:=Option.bind_eq_some_iff.1 h
  refine D.pu (U.call (ss:=[]) (.cons (.tmp (v:=.agg _) rfl) (.cons (.tmp (v:=.agg _) rfl) .nil)) (.cons (.cl (.aggL (.cons .fi (.cons .bool .nil)))) (.cons (.cl (.aggL (.cons .fi (.cons .bool .nil)))) .nil)) (whole_Int_Add.cs Hq5) (.inl rfl) (.aggL (.cons .fi (.cons .bool .nil)))) ?_
  refine D.pu (U.load (.tmp rfl) rfl rfl (U.whole rfl rfl)) ?_
  obtain ⟨q6,Hq6,h⟩:=Option.bind_eq_some_iff.1 h
  refine D.pu (U.call (ss:=[]) (.cons (.tmp (v:=.agg _) rfl) .nil) (.cons (.cl (.aggL (.cons .fi (.cons .bool (.cons .fi .nil))))) .nil) (frac_Frac_Den.cs Hq6) (.inl rfl) (.aggL (.cons .fi .nil))) ?_
  refine D.pu (U.load (.tmp rfl) rfl rfl (U.whole rfl rfl)) ?_
  obtain ⟨q7,Hq7,h⟩:=Option.bind_eq_some_iff.1 h
  refine D.pu (U.call (ss:=[]) (.cons (.tmp (v:=.agg _) rfl) .nil) (.cons (.cl (.aggL (.cons .fi (.cons .bool (.cons .fi .nil))))) .nil) (frac_Frac_Den.cs Hq7) (.inl rfl) (.aggL (.cons .fi .nil))) ?_
  obtain ⟨q8,Hq8,h⟩:=Option.bind_eq_some_iff.1 h
  refine D.pu (U.call (ss:=[]) (.cons (.tmp (v:=.agg _) rfl) (.cons (.tmp (v:=.agg _) rfl) .nil)) (.cons (.cl (.aggL (.cons .fi .nil))) (.cons (.cl (.aggL (.cons .fi .nil))) .nil)) (nat_Nat_Mul.cs Hq8) (.inl rfl) (.aggL (.cons .fi .nil))) ?_
  obtain ⟨q9,Hq9,h⟩:=Option.bind_eq_some_iff.1 h
  refine D.pu (U.call (ss:=[]) (.cons (.tmp (v:=.agg _) rfl) (.cons (.tmp (v:=.agg _) rfl) .nil)) (.cons (.cl (.aggL (.cons .fi (.cons .bool .nil)))) (.cons (.cl (.aggL (.cons .fi .nil))) .nil)) (frac_made.cs Hq9) (.inl rfl) (.aggL (.cons .fi (.cons .bool (.cons .fi .nil))))) ?_
  refine D.ef0 (C.storeE (.tmp rfl) rfl rfl (.tmp (v:=.agg _) rfl) rfl rfl (.whole (notBad_ne rfl) rfl) .one) ?_
  refine D.nil (by kernel_rfl) ?_
  refine X.ret ?_
  cases h
  exact E.fin [] (.cell rfl rfl (Mode.live_ne rfl) (U.whole rfl rfl) .nil) (.cons (.cl (.aggL (.cons .fi (.cons .bool (.cons .fi .nil))))) .nil)
noncomputable def c21:Code:=Tryz.f21.body.getD .skip
theorem fn21:FnOk Tryz.prog 21 Tryz.f21 c21:=⟨Tryz.func21,rfl,by kernel_rfl,by kernel_rfl,mixed⟩
theorem count_actual.cs {k:Nat} {a0_0:Int} {a0_1:Int} {a0_2:Int} {a1_0:Int} {a1_1:Int} {a1_2:Int} {r:List Int×Bool×List Int} (h:count_actual.f k a0_0 a0_1 a0_2 a1_0 a1_1 a1_2=some r):CS Tryz.prog 21 [.agg [.int .i64 a0_0, .int .i64 a0_1, .int .i64 a0_2], .agg [.int .i64 a1_0, .int .i64 a1_1, .int .i64 a1_2]] .no [.agg [.fi .u64 r.1, .bool r.2.1, .fi .u64 r.2.2]]:=by
  unfold count_actual.f at h
  refine E.pure fn21 rfl ?_
  refine X.seq ?_
  refine X.still ?_
  refine O.puE (v':=.op 2 (1) 0 0) (b':=⟨1, .own,_,_⟩) (Pu.box (.tmp (v:=.agg _) rfl) rfl rfl) rfl rfl ?_
  refine O.puE (v':=.op 3 (1) 0 0) (b':=⟨1, .own,_,_⟩) (Pu.box (.tmp (v:=.agg _) rfl) rfl rfl) rfl rfl ?_
  refine O.puE (v':=.op 4 (1) 0 0) (b':=⟨1, .own,(.vals [.agg [.fi .u64 [], .bool false, .fi .u64 []]]),_⟩) Pu.alloc rfl rfl ?_
  refine O.nil ?_
  refine X.seq ?_
  refine X.seq ?_
  refine X.still ?_
  refine O.pu (U.fieldA rfl rfl rfl (.tmp rfl)) ?_
  refine O.pu (U.load (.tmp rfl) rfl rfl (U.cell rfl rfl rfl)) ?_
  refine O.pu (U.fieldA rfl rfl rfl (.tmp rfl)) ?_
  refine O.pu (U.load (.tmp rfl) rfl rfl (U.cell rfl rfl rfl)) ?_
  refine O.pu (Pu.bin (.tmp rfl) (.tmp rfl) .eql) ?_
  refine O.nil ?_
  refine X.condE (.tmp rfl) (fun c=>?_) (fun c=>?_)
  · rw [if_pos c] at h
    refine X.seq ?_
    refine X.drawn ?_
    refine D.pu (U.load (.tmp rfl) rfl rfl (U.whole rfl rfl)) ?_
    refine D.pu (U.load (.tmp rfl) rfl rfl (U.whole rfl rfl)) ?_
    obtain ⟨q1,Hq1,h⟩:=Option.bind_eq_some_iff.1 h
    refine D.pu (U.call (ss:=[]) (.cons (.tmp (v:=.agg _) rfl) (.cons (.tmp (v:=.agg _) rfl) .nil)) (.cons (.cl (.aggL (.cons .int (.cons .int (.cons .int .nil))))) (.cons (.cl (.aggL (.cons .int (.cons .int (.cons .int .nil))))) .nil)) (count_days.cs Hq1) (.inl rfl) (.int)) ?_
    refine D.pu (U.fieldA rfl rfl rfl (.tmp rfl)) ?_
    refine D.pu (U.load (.tmp rfl) rfl rfl (U.cell rfl rfl rfl)) ?_
    obtain ⟨q2,Hq2,h⟩:=Option.bind_eq_some_iff.1 h
    refine D.pu (U.call (ss:=[]) (.cons (.tmp (v:=.int _ _) rfl) .nil) (.cons (.cl .int) .nil) (count_year.cs Hq2) (.inl rfl) (.int)) ?_
    obtain ⟨q3,Hq3,h⟩:=Option.bind_eq_some_iff.1 h
    refine D.pu (U.call (ss:=[]) (.cons (.tmp (v:=.int _ _) rfl) (.cons (.tmp (v:=.int _ _) rfl) .nil)) (.cons (.cl .int) (.cons (.cl .int) .nil)) (count_part.cs Hq3) (.inl rfl) (.aggL (.cons .fi (.cons .bool (.cons .fi .nil))))) ?_
    refine D.ef0 (C.storeE (.tmp rfl) rfl rfl (.tmp (v:=.agg _) rfl) rfl rfl (.whole (notBad_ne rfl) rfl) .one) ?_
    refine D.nil (by kernel_rfl) ?_
    refine X.ret ?_
    cases h
    exact E.fin [] (.cell rfl rfl (Mode.live_ne rfl) (U.whole rfl rfl) .nil) (.cons (.cl (.aggL (.cons .fi (.cons .bool (.cons .fi .nil))))) .nil)
  · rw [if_neg c] at h
    refine X.skip ?_
    refine X.seq ?_
    refine X.still ?_
    refine O.pu (U.load (.tmp rfl) rfl rfl (U.whole rfl rfl)) ?_
    refine O.pu (U.fieldA rfl rfl rfl (.tmp rfl)) ?_
    refine O.pu (U.load (.tmp rfl) rfl rfl (U.cell rfl rfl rfl)) ?_
    refine O.pu (Pu.build rfl (.cons (.tmp (v:=.int _ _) rfl) rfl rfl rfl (.put .done) (.cons .int rfl rfl rfl (.skip (.put .done)) (.cons .int rfl rfl rfl (.skip (.skip (.put .done))) .nil)))) ?_
    obtain ⟨q4,Hq4,h⟩:=Option.bind_eq_some_iff.1 h
    refine O.pu (U.call (ss:=[]) (.cons (.tmp (v:=.agg _) rfl) (.cons (.tmp (v:=.agg _) rfl) .nil)) (.cons (.cl (.aggL (.cons .int (.cons .int (.cons .int .nil))))) (.cons (.cl (.aggL (.cons .int (.cons .int (.cons .int .nil))))) .nil)) (count_days.cs Hq4) (.inl rfl) (.int)) ?_
    refine O.pu (Pu.bin (.tmp rfl) .int U.add64) ?_
    refine O.pu (Pu.assign (.tmp (v:=.int _ _) rfl)) ?_
    refine O.nil ?_
    refine X.seq ?_
    refine X.still ?_
    refine O.pu (U.fieldA rfl rfl rfl (.tmp rfl)) ?_
    refine O.pu (U.load (.tmp rfl) rfl rfl (U.cell rfl rfl rfl)) ?_
    refine O.pu (Pu.build rfl (.cons (.tmp (v:=.int _ _) rfl) rfl rfl rfl (.put .done) (.cons .int rfl rfl rfl (.skip (.put .done)) (.cons .int rfl rfl rfl (.skip (.skip (.put .done))) .nil)))) ?_
    refine O.pu (U.load (.tmp rfl) rfl rfl (U.whole rfl rfl)) ?_
    obtain ⟨q5,Hq5,h⟩:=Option.bind_eq_some_iff.1 h
    refine O.pu (U.call (ss:=[]) (.cons (.tmp (v:=.agg _) rfl) (.cons (.tmp (v:=.agg _) rfl) .nil)) (.cons (.cl (.aggL (.cons .int (.cons .int (.cons .int .nil))))) (.cons (.cl (.aggL (.cons .int (.cons .int (.cons .int .nil))))) .nil)) (count_days.cs Hq5) (.inl rfl) (.int)) ?_
    refine O.pu (Pu.assign (.tmp (v:=.int _ _) rfl)) ?_
    refine O.nil ?_
    refine X.seq ?_
    refine X.drawn ?_
    refine D.pu (Pu.move (.tmp (v:=.int _ _) rfl)) ?_
    refine D.pu (U.fieldA rfl rfl rfl (.tmp rfl)) ?_
    refine D.pu (U.load (.tmp rfl) rfl rfl (U.cell rfl rfl rfl)) ?_
    obtain ⟨q6,Hq6,h⟩:=Option.bind_eq_some_iff.1 h
    refine D.pu (U.call (ss:=[]) (.cons (.tmp (v:=.int _ _) rfl) .nil) (.cons (.cl .int) .nil) (count_year.cs Hq6) (.inl rfl) (.int)) ?_
    obtain ⟨q7,Hq7,h⟩:=Option.bind_eq_some_iff.1 h
    refine D.pu (U.call (ss:=[]) (.cons (.tmp (v:=.int _ _) rfl) (.cons (.tmp (v:=.int _ _) rfl) .nil)) (.cons (.cl .int) (.cons (.cl .int) .nil)) (count_part.cs Hq7) (.inl rfl) (.aggL (.cons .fi (.cons .bool (.cons .fi .nil))))) ?_
    refine D.pu (U.fieldA rfl rfl rfl (.tmp rfl)) ?_
    refine D.pu (U.load (.tmp rfl) rfl rfl (U.cell rfl rfl rfl)) ?_
    refine D.pu (U.fieldA rfl rfl rfl (.tmp rfl)) ?_
    refine D.pu (U.load (.tmp rfl) rfl rfl (U.cell rfl rfl rfl)) ?_
    refine D.pu (Pu.bin (.tmp rfl) (.tmp rfl) U.sub64) ?_
    refine D.pu (Pu.bin (.tmp rfl) .int U.sub64) ?_
    obtain ⟨q8,Hq8,h⟩:=Option.bind_eq_some_iff.1 h
    refine D.pu (U.call (ss:=[]) (.cons (.tmp (v:=.int _ _) rfl) (.cons .int .nil)) (.cons (.cl .int) (.cons (.cl .int) .nil)) (count_part.cs Hq8) (.inl rfl) (.aggL (.cons .fi (.cons .bool (.cons .fi .nil))))) ?_
    obtain ⟨q9,Hq9,h⟩:=Option.bind_eq_some_iff.1 h
    refine D.pu (U.call (ss:=[]) (.cons (.tmp (v:=.agg _) rfl) (.cons (.tmp (v:=.agg _) rfl) .nil)) (.cons (.cl (.aggL (.cons .fi (.cons .bool (.cons .fi .nil))))) (.cons (.cl (.aggL (.cons .fi (.cons .bool (.cons .fi .nil))))) .nil)) (frac_Frac_Add.cs Hq9) (.inl rfl) (.aggL (.cons .fi (.cons .bool (.cons .fi .nil))))) ?_
    refine D.pu (Pu.move (.tmp (v:=.int _ _) rfl)) ?_
    refine D.pu (U.fieldA rfl rfl rfl (.tmp rfl)) ?_
    refine D.pu (U.load (.tmp rfl) rfl rfl (U.cell rfl rfl rfl)) ?_
    obtain ⟨q10,Hq10,h⟩:=Option.bind_eq_some_iff.1 h
    refine D.pu (U.call (ss:=[]) (.cons (.tmp (v:=.int _ _) rfl) .nil) (.cons (.cl .int) .nil) (count_year.cs Hq10) (.inl rfl) (.int)) ?_
    obtain ⟨q11,Hq11,h⟩:=Option.bind_eq_some_iff.1 h
    refine D.pu (U.call (ss:=[]) (.cons (.tmp (v:=.int _ _) rfl) (.cons (.tmp (v:=.int _ _) rfl) .nil)) (.cons (.cl .int) (.cons (.cl .int) .nil)) (count_part.cs Hq11) (.inl rfl) (.aggL (.cons .fi (.cons .bool (.cons .fi .nil))))) ?_
    obtain ⟨q12,Hq12,h⟩:=Option.bind_eq_some_iff.1 h
    refine D.pu (U.call (ss:=[]) (.cons (.tmp (v:=.agg _) rfl) (.cons (.tmp (v:=.agg _) rfl) .nil)) (.cons (.cl (.aggL (.cons .fi (.cons .bool (.cons .fi .nil))))) (.cons (.cl (.aggL (.cons .fi (.cons .bool (.cons .fi .nil))))) .nil)) (frac_Frac_Add.cs Hq12) (.inl rfl) (.aggL (.cons .fi (.cons .bool (.cons .fi .nil))))) ?_
    refine D.ef0 (C.storeE (.tmp rfl) rfl rfl (.tmp (v:=.agg _) rfl) rfl rfl (.whole (notBad_ne rfl) rfl) .one) ?_
    refine D.nil (by kernel_rfl) ?_
    refine X.ret ?_
    cases h
    exact E.fin [] (.cell rfl rfl (Mode.live_ne rfl) (U.whole rfl rfl) .nil) (.cons (.cl (.aggL (.cons .fi (.cons .bool (.cons .fi .nil))))) .nil)
theorem count_Year.j0_e {k y0 y1 y2 y3 y4 y5 y6 y7 r}:(count_Year.j0 k y0 y1 y2 y3 y4 y5 y6 y7=some r) = ∃ j,k=j + 1∧count_Year.j0 (j + 1) y0 y1 y2 y3 y4 y5 y6 y7=some r:=propext ⟨fun h=>by cases k with|zero=>(unfold count_Year.j0 at h;cases h)|succ k=>exact ⟨k,rfl,h⟩,fun ⟨j,hj,h⟩=>by subst hj;exact h⟩
noncomputable def c5:Code:=Tryz.f5.body.getD .skip
theorem fn5:FnOk Tryz.prog 5 Tryz.f5 c5:=⟨Tryz.func5,rfl,by kernel_rfl,by kernel_rfl,mixed⟩
theorem count_Year.cs {k:Nat} {a0:Int} {a1_0:Int} {a1_1:Int} {a1_2:Int} {a2_0:Int} {a2_1:Int} {a2_2:Int} {r:List Int×Bool×List Int×Int} (h:count_Year.f k a0 a1_0 a1_1 a1_2 a2_0 a2_1 a2_2=some r):CS Tryz.prog 5 [.int .i64 a0, .agg [.int .i64 a1_0, .int .i64 a1_1, .int .i64 a1_2], .agg [.int .i64 a2_0, .int .i64 a2_1, .int .i64 a2_2]] .no [.agg [.fi .u64 r.1, .bool r.2.1, .fi .u64 r.2.2.1], .int .i64 r.2.2.2]:=by
  unfold count_Year.f at h
  refine E.pure fn5 rfl ?_
  refine X.seq ?_
  refine X.still ?_
  refine O.puE (v':=.op 4 (1) 0 0) (b':=⟨1, .own,_,_⟩) (Pu.box (.tmp (v:=.agg _) rfl) rfl rfl) rfl rfl ?_
  refine O.puE (v':=.op 5 (1) 0 0) (b':=⟨1, .own,_,_⟩) (Pu.box (.tmp (v:=.agg _) rfl) rfl rfl) rfl rfl ?_
  refine O.puE (v':=.op 6 (1) 0 0) (b':=⟨1, .own,(.vals [.agg [.fi .u64 [], .bool false, .fi .u64 []]]),_⟩) Pu.alloc rfl rfl ?_
  refine O.pu (Pu.assign .int) ?_
  refine O.nil ?_
  refine X.seq ?_
  refine X.block ?_
  refine X.seq ?_
  refine X.still ?_
  refine O.pu (Pu.move (.tmp (v:=.int _ _) rfl)) ?_
  obtain ⟨q1,Hq1,h⟩:=Option.bind_eq_some_iff.1 h
  refine O.pu (U.call (ss:=[]) (.cons (.tmp (v:=.int _ _) rfl) .nil) (.cons (.cl .int) .nil) (count_Basis_good.cs Hq1) (.inl rfl) (.bool)) ?_
  refine O.pu (Pu.un (.tmp rfl) .not) ?_
  refine O.pu (Pu.assign (.tmp (v:=.bool _) rfl)) ?_
  refine O.nil ?_
  refine X.condNot (.tmp rfl) (fun c=>?_) (fun c=>?_)
  · rw [if_neg (bf c)] at h
    refine X.seq ?_
    refine X.still ?_
    refine O.pu (Pu.build rfl .nil) ?_
    refine O.ef0 (U.storeE (.tmp rfl) rfl rfl (.tmp (v:=.agg _) rfl) rfl rfl (.whole (notBad_ne rfl) rfl) .one) ?_
    refine O.pu (Pu.assign .int) ?_
    refine O.nil ?_
    refine X.ret ?_
    cases h
    exact E.fin [] (.cell rfl rfl (Mode.live_ne rfl) (U.whole rfl rfl) (.tmp (v:=.int _ _) rfl .nil)) (.cons (.cl (.aggL (.cons .fi (.cons .bool (.cons .fi .nil))))) (.cons (.cl .int) .nil))
  · rw [if_pos c] at h
    refine X.seq ?_
    refine X.still ?_
    refine O.pu (U.load (.tmp rfl) rfl rfl (U.whole rfl rfl)) ?_
    obtain ⟨q2,Hq2,h⟩:=Option.bind_eq_some_iff.1 h
    refine O.pu (U.call (ss:=[]) (.cons (.tmp (v:=.agg _) rfl) .nil) (.cons (.cl (.aggL (.cons .int (.cons .int (.cons .int .nil))))) .nil) (date_Check.cs Hq2) (.inl rfl) (.int)) ?_
    refine O.pu (Pu.bin (.tmp rfl) .int .neq) ?_
    refine O.pu (Pu.move (.tmp (v:=.bool _) rfl)) ?_
    refine O.splitN (fun c=>?_) (fun c=>?_)
    · rw [if_neg c] at h
      refine G.skip (W.f rfl rfl rfl) ?_
      refine G.skip (W.f rfl rfl rfl) ?_
      refine G.skip (W.f rfl rfl rfl) ?_
      refine O.pu (Pu.pickT (.tmp rfl) .bool) ?_
      refine O.pu (Pu.assign (.tmp (v:=.bool _) rfl)) ?_
      refine O.nil ?_
      repeat (rw [count_Year.j0_e] at h;obtain ⟨k,_,h⟩:=h;unfold count_Year.j0 at h;try dsimp only at h)
      rw [if_pos rfl] at h
      refine X.condT (.tmp rfl) ?_
      refine X.seq ?_
      refine X.still ?_
      refine O.pu (Pu.build rfl .nil) ?_
      refine O.ef0 (U.storeE (.tmp rfl) rfl rfl (.tmp (v:=.agg _) rfl) rfl rfl (.whole (notBad_ne rfl) rfl) .one) ?_
      refine O.pu (Pu.assign .int) ?_
      refine O.nil ?_
      refine X.ret ?_
      cases h
      exact E.fin [] (.cell rfl rfl (Mode.live_ne rfl) (U.whole rfl rfl) (.tmp (v:=.int _ _) rfl .nil)) (.cons (.cl (.aggL (.cons .fi (.cons .bool (.cons .fi .nil))))) (.cons (.cl .int) .nil))
    · rw [if_pos c] at h
      refine G.pu (W.t rfl rfl) (U.load (.tmp rfl) rfl rfl (U.whole rfl rfl)) ?_
      obtain ⟨q3,Hq3,h⟩:=Option.bind_eq_some_iff.1 h
      refine G.pu (W.t rfl rfl) (U.call (ss:=[]) (.cons (.tmp (v:=.agg _) rfl) .nil) (.cons (.cl (.aggL (.cons .int (.cons .int (.cons .int .nil))))) .nil) (date_Check.cs Hq3) (.inl rfl) (.int)) ?_
      refine G.pu (W.t rfl rfl) (Pu.bin (.tmp rfl) .int .neq) ?_
      refine O.pu (Pu.pickF (.tmp rfl) (.tmp (v:=.bool _) rfl)) ?_
      refine O.pu (Pu.assign (.tmp (v:=.bool _) rfl)) ?_
      refine O.nil ?_
      repeat (rw [count_Year.j0_e] at h;obtain ⟨k,_,h⟩:=h;unfold count_Year.j0 at h;try dsimp only at h)
      refine X.condN (.tmp rfl) (fun c=>?_) (fun c=>?_)
      · rw [if_pos (ne1 c)] at h
        refine X.seq ?_
        refine X.still ?_
        refine O.pu (Pu.build rfl .nil) ?_
        refine O.ef0 (U.storeE (.tmp rfl) rfl rfl (.tmp (v:=.agg _) rfl) rfl rfl (.whole (notBad_ne rfl) rfl) .one) ?_
        refine O.pu (Pu.assign .int) ?_
        refine O.nil ?_
        refine X.ret ?_
        cases h
        exact E.fin [] (.cell rfl rfl (Mode.live_ne rfl) (U.whole rfl rfl) (.tmp (v:=.int _ _) rfl .nil)) (.cons (.cl (.aggL (.cons .fi (.cons .bool (.cons .fi .nil))))) (.cons (.cl .int) .nil))
      · rw [if_neg (ne0 c)] at h
        refine X.seq ?_
        refine X.still ?_
        refine O.pu (U.load (.tmp rfl) rfl rfl (U.whole rfl rfl)) ?_
        refine O.pu (U.load (.tmp rfl) rfl rfl (U.whole rfl rfl)) ?_
        obtain ⟨q4,Hq4,h⟩:=Option.bind_eq_some_iff.1 h
        refine O.pu (U.call (ss:=[]) (.cons (.tmp (v:=.agg _) rfl) (.cons (.tmp (v:=.agg _) rfl) .nil)) (.cons (.cl (.aggL (.cons .int (.cons .int (.cons .int .nil))))) (.cons (.cl (.aggL (.cons .int (.cons .int (.cons .int .nil))))) .nil)) (date_Cmp.cs Hq4) (.inl rfl) (.int)) ?_
        refine O.pu (Pu.bin (.tmp rfl) .int .gtr) ?_
        refine O.pu (Pu.assign (.tmp (v:=.bool _) rfl)) ?_
        refine O.nil ?_
        refine X.condP (.tmp rfl) (fun c=>?_) (fun c=>?_)
        · rw [if_pos c] at h
          refine X.seq ?_
          refine X.still ?_
          refine O.pu (Pu.build rfl .nil) ?_
          refine O.ef0 (U.storeE (.tmp rfl) rfl rfl (.tmp (v:=.agg _) rfl) rfl rfl (.whole (notBad_ne rfl) rfl) .one) ?_
          refine O.pu (Pu.assign .int) ?_
          refine O.nil ?_
          refine X.ret ?_
          cases h
          exact E.fin [] (.cell rfl rfl (Mode.live_ne rfl) (U.whole rfl rfl) (.tmp (v:=.int _ _) rfl .nil)) (.cons (.cl (.aggL (.cons .fi (.cons .bool (.cons .fi .nil))))) (.cons (.cl .int) .nil))
        · rw [if_neg c] at h
          refine X.skip ?_
          refine X.seq ?_
          refine X.seq ?_
          refine X.still ?_
          refine O.pu (Pu.move (.tmp (v:=.int _ _) rfl)) ?_
          refine O.nil ?_
          refine X.block ?_
          refine X.seq ?_
          refine X.still ?_
          refine O.pu (Pu.bin (.tmp rfl) .int .eql) ?_
          refine O.pu (Pu.assign (.tmp (v:=.bool _) rfl)) ?_
          refine O.nil ?_
          refine X.condE (.tmp rfl) (fun c=>?_) (fun c=>?_)
          · rw [if_pos c] at h
            refine X.seq ?_
            refine X.still ?_
            refine O.pu (U.load (.tmp rfl) rfl rfl (U.whole rfl rfl)) ?_
            refine O.pu (U.load (.tmp rfl) rfl rfl (U.whole rfl rfl)) ?_
            obtain ⟨q5,Hq5,h⟩:=Option.bind_eq_some_iff.1 h
            refine O.pu (U.call (ss:=[]) (.cons (.tmp (v:=.agg _) rfl) (.cons (.tmp (v:=.agg _) rfl) .nil)) (.cons (.cl (.aggL (.cons .int (.cons .int (.cons .int .nil))))) (.cons (.cl (.aggL (.cons .int (.cons .int (.cons .int .nil))))) .nil)) (count_thirty.cs Hq5) (.inl rfl) (.aggL (.cons .fi (.cons .bool (.cons .fi .nil))))) ?_
            refine O.ef0 (U.storeE (.tmp rfl) rfl rfl (.tmp (v:=.agg _) rfl) rfl rfl (.whole (notBad_ne rfl) rfl) .one) ?_
            refine O.pu (Pu.assign .int) ?_
            refine O.nil ?_
            refine X.ret ?_
            cases h
            exact E.fin [] (.cell rfl rfl (Mode.live_ne rfl) (U.whole rfl rfl) (.tmp (v:=.int _ _) rfl .nil)) (.cons (.cl (.aggL (.cons .fi (.cons .bool (.cons .fi .nil))))) (.cons (.cl .int) .nil))
          · rw [if_neg c] at h
            refine X.seq ?_
            refine X.still ?_
            refine O.pu (Pu.bin (.tmp rfl) .int .eql) ?_
            refine O.pu (Pu.assign (.tmp (v:=.bool _) rfl)) ?_
            refine O.nil ?_
            refine X.condE (.tmp rfl) (fun c=>?_) (fun c=>?_)
            · rw [if_pos c] at h
              refine X.seq ?_
              refine X.still ?_
              refine O.pu (U.load (.tmp rfl) rfl rfl (U.whole rfl rfl)) ?_
              refine O.pu (U.load (.tmp rfl) rfl rfl (U.whole rfl rfl)) ?_
              obtain ⟨q6,Hq6,h⟩:=Option.bind_eq_some_iff.1 h
              refine O.pu (U.call (ss:=[]) (.cons (.tmp (v:=.agg _) rfl) (.cons (.tmp (v:=.agg _) rfl) .nil)) (.cons (.cl (.aggL (.cons .int (.cons .int (.cons .int .nil))))) (.cons (.cl (.aggL (.cons .int (.cons .int (.cons .int .nil))))) .nil)) (count_days.cs Hq6) (.inl rfl) (.int)) ?_
              obtain ⟨q7,Hq7,h⟩:=Option.bind_eq_some_iff.1 h
              refine O.pu (U.call (ss:=[]) (.cons (.tmp (v:=.int _ _) rfl) (.cons .int .nil)) (.cons (.cl .int) (.cons (.cl .int) .nil)) (count_part.cs Hq7) (.inl rfl) (.aggL (.cons .fi (.cons .bool (.cons .fi .nil))))) ?_
              refine O.ef0 (U.storeE (.tmp rfl) rfl rfl (.tmp (v:=.agg _) rfl) rfl rfl (.whole (notBad_ne rfl) rfl) .one) ?_
              refine O.pu (Pu.assign .int) ?_
              refine O.nil ?_
              refine X.ret ?_
              cases h
              exact E.fin [] (.cell rfl rfl (Mode.live_ne rfl) (U.whole rfl rfl) (.tmp (v:=.int _ _) rfl .nil)) (.cons (.cl (.aggL (.cons .fi (.cons .bool (.cons .fi .nil))))) (.cons (.cl .int) .nil))
            · rw [if_neg c] at h
              refine X.skip ?_
              refine X.seq ?_
              refine X.still ?_
              refine O.pu (U.load (.tmp rfl) rfl rfl (U.whole rfl rfl)) ?_
              refine O.pu (U.load (.tmp rfl) rfl rfl (U.whole rfl rfl)) ?_
              obtain ⟨q8,Hq8,h⟩:=Option.bind_eq_some_iff.1 h
              refine O.pu (U.call (ss:=[]) (.cons (.tmp (v:=.agg _) rfl) (.cons (.tmp (v:=.agg _) rfl) .nil)) (.cons (.cl (.aggL (.cons .int (.cons .int (.cons .int .nil))))) (.cons (.cl (.aggL (.cons .int (.cons .int (.cons .int .nil))))) .nil)) (count_actual.cs Hq8) (.inl rfl) (.aggL (.cons .fi (.cons .bool (.cons .fi .nil))))) ?_
              refine O.ef0 (U.storeE (.tmp rfl) rfl rfl (.tmp (v:=.agg _) rfl) rfl rfl (.whole (notBad_ne rfl) rfl) .one) ?_
              refine O.pu (Pu.assign .int) ?_
              refine O.nil ?_
              refine X.ret ?_
              cases h
              exact E.fin [] (.cell rfl rfl (Mode.live_ne rfl) (U.whole rfl rfl) (.tmp (v:=.int _ _) rfl .nil)) (.cons (.cl (.aggL (.cons .fi (.cons .bool (.cons .fi .nil))))) (.cons (.cl .int) .nil))
noncomputable def c6:Code:=Tryz.f6.body.getD .skip
theorem fn6:FnOk Tryz.prog 6 Tryz.f6 c6:=⟨Tryz.func6,rfl,by kernel_rfl,by kernel_rfl,mixed⟩
theorem chattelref09_Right.cs {k:Nat} {a0_0:Int} {a0_1:Int} {a0_2:Int} {r:Bool} (h:chattelref09_Right.f k a0_0 a0_1 a0_2=some r):CS Tryz.prog 6 [.agg [.int .i64 a0_0, .int .i64 a0_1, .int .i64 a0_2]] .no [.bool r]:=by
  unfold chattelref09_Right.f at h
  refine E.pure fn6 rfl ?_
  refine X.seq ?_
  refine X.still ?_
  refine O.puE (v':=.op 1 (1) 0 0) (b':=⟨1, .own,_,_⟩) (Pu.box (.tmp (v:=.agg _) rfl) rfl rfl) rfl rfl ?_
  refine O.pu (Pu.assign .bool) ?_
  refine O.nil ?_
  refine X.seq ?_
  refine X.still ?_
  refine O.pu (U.fieldA rfl rfl rfl (.tmp rfl)) ?_
  refine O.pu (U.load (.tmp rfl) rfl rfl (U.cell rfl rfl rfl)) ?_
  refine O.pu (U.fieldA rfl rfl rfl (.tmp rfl)) ?_
  refine O.pu (U.load (.tmp rfl) rfl rfl (U.cell rfl rfl rfl)) ?_
  obtain ⟨q1,Hq1,h⟩:=Option.bind_eq_some_iff.1 h
  refine O.pu (U.call (ss:=[]) (.cons (.tmp (v:=.int _ _) rfl) (.cons (.tmp (v:=.int _ _) rfl) .nil)) (.cons (.cl .int) (.cons (.cl .int) .nil)) (chattelref09_Days.cs Hq1) (.inl rfl) (.int)) ?_
  refine O.pu (Pu.assign (.tmp (v:=.int _ _) rfl)) ?_
  refine O.nil ?_
  refine X.seq ?_
  refine X.still ?_
  refine O.pu (U.fieldA rfl rfl rfl (.tmp rfl)) ?_
  refine O.pu (U.load (.tmp rfl) rfl rfl (U.cell rfl rfl rfl)) ?_
  refine O.pu (Pu.bin (.tmp rfl) .int .geq) ?_
  refine O.pu (Pu.move (.tmp (v:=.bool _) rfl)) ?_
  refine O.splitP (fun c=>?_) (fun c=>?_)
  · rw [if_pos c] at h
    refine G.pu (W.t rfl rfl) (U.fieldA rfl rfl rfl (.tmp rfl)) ?_
    refine G.pu (W.t rfl rfl) (U.load (.tmp rfl) rfl rfl (U.cell rfl rfl rfl)) ?_
    refine G.pu (W.t rfl rfl) (Pu.move (.tmp (v:=.int _ _) rfl)) ?_
    refine G.pu (W.t rfl rfl) (Pu.bin (.tmp rfl) (.tmp rfl) .leq) ?_
    refine O.pu (Pu.pickT (.tmp rfl) (.tmp (v:=.bool _) rfl)) ?_
    refine O.pu (Pu.assign (.tmp (v:=.bool _) rfl)) ?_
    refine O.nil ?_
    refine X.ret ?_
    cases h
    exact E.fin [] (.tmp (v:=.bool _) rfl .nil) (.cons (.cl .bool) .nil)
  · rw [if_neg c] at h
    refine G.skip (W.f rfl rfl rfl) ?_
    refine G.skip (W.f rfl rfl rfl) ?_
    refine G.skip (W.f rfl rfl rfl) ?_
    refine G.skip (W.f rfl rfl rfl) ?_
    refine O.pu (Pu.pickF (.tmp rfl) .bool) ?_
    refine O.pu (Pu.assign (.tmp (v:=.bool _) rfl)) ?_
    refine O.nil ?_
    refine X.ret ?_
    cases h
    exact E.fin [] (.tmp (v:=.bool _) rfl .nil) (.cons (.cl .bool) .nil)
noncomputable def c8:Code:=Tryz.f8.body.getD .skip
theorem fn8:FnOk Tryz.prog 8 Tryz.f8 c8:=⟨Tryz.func8,rfl,by kernel_rfl,by kernel_rfl,mixed⟩
theorem frac_Frac_Sign.cs {l0_0:List Int} {a0_1:Bool} {l0_2:List Int} {r:Int} (h:frac_Frac_Sign.f l0_0 a0_1 l0_2=some r):CS Tryz.prog 8 [.agg [.fi .u64 l0_0, .bool a0_1, .fi .u64 l0_2]] .no [.int .i64 r]:=by
  unfold frac_Frac_Sign.f at h
  refine E.pure fn8 rfl ?_
  refine X.seq ?_
  refine X.still ?_
  refine O.puE (v':=.op 1 (1) 0 0) (b':=⟨1, .own,_,_⟩) (Pu.box (.tmp (v:=.agg _) rfl) rfl rfl) rfl rfl ?_
  refine O.pu (Pu.assign .int) ?_
  refine O.nil ?_
  refine X.seq ?_
  refine X.still ?_
  refine O.pu (U.fieldA rfl rfl rfl (.tmp rfl)) ?_
  refine O.pu (U.load (.tmp rfl) rfl rfl (U.sub rfl (.take (.take .done)))) ?_
  obtain ⟨q1,Hq1,h⟩:=Option.bind_eq_some_iff.1 h
  refine O.pu (U.call (ss:=[]) (.cons (.tmp (v:=.agg _) rfl) .nil) (.cons (.cl (.aggL (.cons .fi (.cons .bool .nil)))) .nil) (whole_Int_Sign.cs Hq1) (.inl rfl) (.int)) ?_
  refine O.pu (Pu.assign (.tmp (v:=.int _ _) rfl)) ?_
  refine O.nil ?_
  refine X.ret ?_
  cases h
  exact E.fin [] (.tmp (v:=.int _ _) rfl .nil) (.cons (.cl .int) .nil)
end Go.Proofs.YtlfdghofoobkmaaGreat
end

section
namespace Go.AVL
open Go.RowKit
set_option linter.unusedVariables false
section
variable {P : Program} {c : Ctx P} {I : Nat → Prop} {m : Nat → Reg} {w w' : World} {st : St} {a : Act} {ops : Array Oper} {K : Act → World → Prop} {Q : Exit → Act → World → Prop}
def keeps (ds:List Nat) (a a':Act):Prop:=a'.defers=a.defers∧a'.tmps.size=a.tmps.size∧∀ x,x ∉ ds→a'.tmps.getD x undef=a.tmps.getD x undef
theorem keeps.refl {ds:List Nat} (a:Act):keeps ds a a:=⟨rfl,rfl,fun _ _=>rfl⟩
theorem keeps.trans {ds:List Nat} {a b d:Act} (h:keeps ds a b) (h':keeps ds b d):keeps ds a d:=⟨h'.1.trans h.1,h'.2.1.trans h.2.1,fun x hx=>(h'.2.2 x hx).trans (h.2.2 x hx)⟩
theorem keeps.put {ds:List Nat} {a:Act} {d:Nat} {V:Value} (hd:d ∈ ds):keeps ds a (a.put (some d) V):=by
  refine ⟨rfl,by rw [Act.put_tmps,Array.size_setIfInBounds],fun x hx=>?_⟩
  have hne:d≠x:=fun e=>hx (e ▸ hd)
  rw [Act.put_tmps]
  simp only [Array.getD_eq_getD_getElem?]
  rw [Array.getElem?_setIfInBounds_ne hne]
theorem put_at {a:Act} {d:Nat} {V:Value} (hd:d < a.tmps.size):(a.put (some d) V).tmps.getD d undef=V:=by rw [Act.put_tmps,getD_set hd,if_pos rfl]
theorem T.step {i:Nat} {rest:List Nat} {o:Oper} (hi:ops[i]?=some o) (hg:o.guard=none) (h:o.wp P a w (wpOps P ops Q rest) Q):wpOps P ops Q (i :: rest) a w:=by
  unfold wpOps
  simp only [hi]
  rw [if_pos (by simp [Region.wanted,hg])]
  exact .inl h
theorem T.pu {i:Nat} {rest:List Nat} {o:Oper} {d:Nat} {v:AV} {R:List Nat} {ds:List Nat} (hx:SRx c I m st a w) (hi:ops[i]?=some o) (hg:o.guard=none) (hd:o.dst=some d) (hn:d < c.n) (hds:d ∈ ds) (hp:Pu P st d o.op v none R)
    (hk : ∀ a' w' I' m',keeps ds a a'→SRx c I' m' (st.put d v) a' w'→wpOps P ops Q rest a' w'):wpOps P ops Q (i :: rest) a w:=by
  refine T.step hi hg (Pu.sound hx hp _ _ fun V w' I' m' h1 h2=>?_)
  rw [hd]
  exact hk _ w' I' m' (.put hds) (h1.put h2 (some d) (fun x hx=>by cases hx;exact hn))
theorem T.call {i:Nat} {rest:List Nat} {o:Oper} {f:FuncId} {fn:Func} {code:Code} {args:Array Operand} {ats:Array TypeId} {V:Array Value} {G:Ending→World→Prop} (hi:ops[i]?=some o) (hg:o.guard=none) (ho:o.op = .call ⟨.value (.func f),args,ats⟩) (hf:FnOk P f fn code)
    (hv:args.map a.eval=V) (hc:Calls P f V w G) (hk : ∀ e w',G e w'→∃ v,e = .returned v∧wpOps P ops Q rest (a.put o.dst v) w'):wpOps P ops Q (i :: rest) a w:=by
  refine T.step hi hg (wp_call (f:=f) (V:=V) ?_ (callW_of_calls hf (hc.mono fun e w' he=>?_)))
  · rw [exec_call (f:=f) (cv:=#[]) ho rfl,hv,Array.append_empty]
  · obtain ⟨v,rfl,h⟩:=hk e w' he
    exact h
theorem T.enter {n:Nat} (hs:a.tmps.size=n) (hd:a.defers = []) (hst : ∀ x,VR (fun k=>k < w.heap.size) w noB m (st.t x) (a.tmps.getD x undef)) (hb:st.b=noB) :
    SRx (⟨n,w,fun k=>k < w.heap.size,none⟩:Ctx P) (fun k=>k < w.heap.size) m st a w:=by
  refine ⟨?_,hd,hs,by rw [hb];exact hst⟩
  rw [hb]
  have h:=WR.fresh (P:=P) (fun k=>k < w.heap.size) w m fun k hk=>hk
  exact ⟨h.os,h.tape,h.output,h.size,h.frame,h.frameW,h.imm,h.blk,h.inj⟩
theorem T.below {n:Nat} {w0:World} {A:Nat→Prop} (hx:SRx (⟨n,w0,A,none⟩:Ctx P) I m st a w):Below w0.heap.size w0 w :=
  ⟨hx.wr.os,hx.wr.tape,hx.wr.output,hx.wr.size,fun k hk=>hx.wr.frame k hk (by simp)⟩
end
end Go.AVL
end

section
namespace Go.Proofs.YtlfdghofoobkmaaGreat
open Go.AVL Go.RowKit Go.Proofs.YtlfdghofoobkmaaGreat.F Go.Proofs.YtlfdghofoobkmaaGreatX Go.Proofs.YtlfdghofoobkmaaGreatW.PrintWords Go.Proofs.YtlfdghofoobkmaaGreatW.PrintLast Go.Proofs.YtlfdghofoobkmaaGreatW.PrintMore
set_option linter.unusedVariables false
set_option maxRecDepth 100000
noncomputable def c25:Code:=Tryz.f25.body.getD .skip
theorem fn25:FnOk Tryz.prog 25 Tryz.f25 c25:=⟨Tryz.func25,rfl,by kernel_rfl,by kernel_rfl,mixed⟩
noncomputable def tl32:Code:=match c25 with | .seq _ (.seq _ (.seq _ (.seq _ t)))=>t|_=>.skip
theorem info81:(Tryz.prog.info? 81).map (fun i=>(i.zero,i.size,i.bytes))=some (some (.agg #[.pointer none, .slice none 0 0]),2,32):=by kernel_rfl
theorem bgrow {B b:Nat} {bs:List Value} {w w':World} (h:Lib.IsBuilder 81 5 B b bs w) (hb:Below w.heap.size w w'):Lib.IsBuilder 81 5 B b bs w':=by
  have one : ∀ p,Lib.BuilderAt 81 5 B b p bs w→Lib.BuilderAt 81 5 B b p bs w':=by
    rintro p ⟨h1,v,h2,⟨h3,h4⟩,h5⟩
    refine ⟨h1,v,(hb.block b (lt_of_some h2)).trans h2,⟨h3,h4.imp (fun h=>h) ?_⟩,h5⟩
    rintro ⟨g,cap,cur,e1,e2,e3,e4⟩
    exact ⟨g,cap,cur,e1,e2,(hb.block g (lt_of_some e3)).trans e3,e4⟩
  exact h.imp (one _) (one _)
theorem bjoin {w w1 w2:World} (h:Below w.heap.size w w1) (h':Below w1.heap.size w1 w2):Below w.heap.size w w2 :=
  h.trans ⟨h'.os,h'.tape,h'.output,h'.size,fun k hk=>h'.block k (Nat.lt_of_lt_of_le hk h.size)⟩
noncomputable def c46:Code:=Tryz.f46.body.getD .skip
theorem fn46:FnOk Tryz.prog 46 Tryz.f46 c46:=⟨Tryz.func46,rfl,by kernel_rfl,by kernel_rfl,mixed⟩
noncomputable def c47:Code:=Tryz.f47.body.getD .skip
theorem fn47:FnOk Tryz.prog 47 Tryz.f47 c47:=⟨Tryz.func47,rfl,by kernel_rfl,by kernel_rfl,mixed⟩
theorem and_r {x y:Bool} (h:(x && y)=true):y=true:=(Bool.and_eq_true_iff.1 h).2
theorem and_l {x y:Bool} (h:(x && y)=true):x=true:=(Bool.and_eq_true_iff.1 h).1
def grp (l:List ByteArray):Nat→AV:=upd (fun _=>.bad) 3 (.fv (l.map .str))
def grp2 (l:List ByteArray) (i:Int):Nat→AV:=upd (grp l) 12 (.int .i64 i)
theorem grp_vr {l:List ByteArray} {w0 w:World} {m:Nat→Reg} {V3:Value} {f:Nat→Value} (hv:VR (fun k=>k < w0.heap.size) w0 noB m (.fv (l.map .str)) V3) (hb:Below w0.heap.size w0 w) (h3:f 3=V3) (x:Nat) :
    VR (fun k=>k < w.heap.size) w noB m (grp l x) (f x):=by
  unfold grp
  by_cases hx:x=3
  · subst hx
    rw [upd_same,h3]
    exact hv.grow (fun k hk=>Nat.lt_of_lt_of_le hk hb.size) fun k hk=>hb.block k hk
  · rw [upd_ne _ _ hx];exact .bad _
theorem grp2_vr {l:List ByteArray} {i:Int} {w0 w:World} {m:Nat→Reg} {V3:Value} {f:Nat→Value} (hv:VR (fun k=>k < w0.heap.size) w0 noB m (.fv (l.map .str)) V3) (hb:Below w0.heap.size w0 w) (h3:f 3=V3) (h12:f 12 = .int .i64 i) (x:Nat) :
    VR (fun k=>k < w.heap.size) w noB m (grp2 l i x) (f x):=by
  unfold grp2
  by_cases hx:x=12
  · subst hx
    rw [upd_same,h12]
    exact .int _ _
  · rw [upd_ne _ _ hx];exact grp_vr hv hb h3 x
def ds32:List Nat:=[12,44,45,46,47,48,49,50,51,52,53,54,55]
theorem tail32 {st:St} {Q:Out→St→Prop} {l:List ByteArray} {r:ByteArray} {u n e:Nat} (h3:st.t 3 = .os 3 u 0 n true) (hb:st.b 3=⟨u, .own, .vals (l.map .str),e⟩) (hn:l.length=n)
    (h:digits_joined.f l=some r) (hQ : ∀ s,s.t 2 = .str r→Q .ret s):ByHand Tryz.prog tl32 st Q:=by
  intro c Qc hd hq a w ⟨I,m,hx⟩
  obtain ⟨hl1,hl2,rfl⟩:=digits_joined.told h
  have hsz:57≤c.n:=by
    have h1:(Nat.blt 56 c.n && _)=true:=and_l (and_r (and_r hd))
    exact Nat.le_of_ble_eq_true (and_l h1)
  have hv3:VR (fun k=>k < w.heap.size) w noB m (.fv (l.map .str)) (a.tmps.getD 3 undef):=by
    have h1:=hx.tmp 3
    rw [h3] at h1
    have h2:=os_vals (B':=noB) (m':=m) hx.wr h1 (by rw [hb]) (by rw [hb];simp) (by rw [hb]) (fun i hi=>by
      rw [List.length_map] at hi
      rw [List.getD_eq_getElem?_getD,List.getElem?_map,List.getElem?_eq_getElem hi]
      exact .str) (J:=fun k=>k < w.heap.size) (fun k hk=>(hx.wr.imm k hk).1) (fun hz=>by
        rcases hx.wr.blk 3 (by rw [hb];simp) with h0|⟨cur,h3,_⟩
        · exact absurd h0 hz
        · exact lt_of_some h3)
    rwa [List.drop_zero,List.take_of_length_le (by rw [List.length_map];omega)] at h2
  generalize hV3:a.tmps.getD 3 undef=V3 at hv3
  have hs0:a.tmps.size=c.n:=hx.sz
  refine wp_seq ?_
  refine wp_region ?_
  refine T.step rfl rfl ?_
  unfold Oper.wp
  have he : ∀ o:Oper,o.op = .alloc 81→(execOp a.eval o).run Tryz.prog w = .ok (.value (.pointer (some ⟨w.heap.size,0,none⟩))) (w.alloc (.cells #[.pointer none, .slice none 0 0] 81)):=by
    intro o ho
    obtain ⟨i0,hi,h1,h2,_⟩:=info_parts info81
    simp [execOp,ho,Instr.alloc,zeroValue,typeInfo,hi,h1,run_newVar,Value.cells]
  rw [he _ rfl]
  have hg:(a.put (some 11) (.pointer (some ⟨w.heap.size,0,none⟩))).tmps.getD 11 undef = .pointer (some ⟨w.heap.size,0,none⟩):=put_at (by omega)
  have hk:=keeps.put (ds:=[11]) (a:=a) (V:=.pointer (some ⟨w.heap.size,0,none⟩)) (List.mem_singleton.2 rfl)
  have hBu:=bfresh w
  have hBe:=below_alloc (Below.refl w.heap.size w) (.cells #[.pointer none, .slice none 0 0] 81)
  show Code.wp Tryz.prog _ _ (a.put (some 11) (.pointer (some ⟨w.heap.size,0,none⟩))) (w.alloc (.cells #[.pointer none, .slice none 0 0] 81))
  generalize a.put (some 11) (.pointer (some ⟨w.heap.size,0,none⟩))=a1 at hg hk ⊢
  generalize (w.alloc (.cells #[.pointer none, .slice none 0 0] 81))=w1 at hBu hBe ⊢
  refine wp_seq (wp_seq (wp_region ?_))
  have hx1:=T.enter (P:=Tryz.prog) (st:=⟨grp l,noB⟩) (hk.2.1.trans hs0) (hk.1.trans hx.def0) (grp_vr hv3 hBe ((hk.2.2 3 (by simp)).trans hV3)) rfl
  have hlt : ∀ d,d≤56→d < c.n:=fun d hd=>by omega
  have hkk : ∀ {a':Act} (x:Nat),keeps ds32 a1 a'→x ∉ ds32→a'.tmps.getD x undef=a1.tmps.getD x undef:=fun x h hx=>h.2.2 x hx
  refine T.pu (ds:=ds32) hx1 rfl rfl rfl (hlt _ (by decide)) (by simp [ds32]) (.move (.tmp (v:=.fv _) rfl)) fun a2 w2 I2 m2 k2 hx2=>?_
  refine T.pu (ds:=ds32) hx2 rfl rfl rfl (hlt _ (by decide)) (by simp [ds32]) (.lenV rfl (.tmp rfl)) fun a3 w3 I3 m3 k3 hx3=>?_
  refine T.pu (ds:=ds32) hx3 rfl rfl rfl (hlt _ (by decide)) (by simp [ds32]) (.bin (.tmp rfl) .int U.sub64) fun a4 w4 I4 m4 k4 hx4=>?_
  refine T.pu (ds:=ds32) hx4 rfl rfl rfl (hlt _ (by decide)) (by simp [ds32]) (.assign (.tmp (v:=.int _ _) rfl)) fun a5 w5 I5 m5 k5 hx5=>?_
  have hk5:=((k2.trans k3).trans k4).trans k5
  have h12:a5.tmps.getD 12 undef = .int .i64 ((l.length:Int) - 1):=by
    have h1:=(show VR I5 w5 noB m5 (.int .i64 (wrap64 (((l.map AV.str).length:Int) - 1))) (a5.tmps.getD 12 undef) from hx5.tmp 12).int_inv
    rw [h1,List.length_map]
    congr 1
    unfold wrap64
    omega
  have hb5:=T.below hx5
  have hB5:=bgrow hBu hb5
  have hbb5:=bjoin hBe hb5
  clear hx1 hx2 hx3 hx4 hx5 k2 k3 k4 k5
  show Code.wp Tryz.prog _ _ a5 w5
  refine wp_block (wp_loop (fun a' w'=>keeps ds32 a1 a'∧Below w.heap.size w w'∧∃ k:Nat,k≤l.length∧a'.tmps.getD 12 undef = .int .i64 ((k:Int) - 1)∧Lib.IsBuilder 81 5 w.heap.size w.heap.size (Lib.byteCells (digits_joined.go l k)) w')
    (fun a' _=>match a'.tmps.getD 12 undef with | .int _ i=>(i + 1).toNat|_=>0) ?_ ?_)
  · exact ⟨hk5,hbb5,l.length,Nat.le_refl _,h12,by rw [digits_joined.end_];exact hB5⟩
  · clear h12 hB5 hb5 hbb5 hk5
    rintro a6 w6 ⟨k6,hb6,k,hkl,h12,hB6⟩
    have hx6:=T.enter (P:=Tryz.prog) (st:=⟨grp2 l ((k:Int) - 1),noB⟩) (w:=w6) (m:=m) ((k6.2.1.trans hk.2.1).trans hs0) ((k6.1.trans hk.1).trans hx.def0) (grp2_vr hv3 hb6 (((hkk 3 k6 (by simp [ds32])).trans (hk.2.2 3 (by simp))).trans hV3) h12) rfl
    rw [h12]
    refine wp_seq (wp_seq (wp_region ?_))
    refine T.pu (ds:=ds32) hx6 rfl rfl rfl (hlt _ (by decide)) (by simp [ds32]) (.move (.tmp (v:=.int _ _) rfl)) fun a7 w7 I7 m7 k7 hx7=>?_
    refine T.pu (ds:=ds32) hx7 rfl rfl rfl (hlt _ (by decide)) (by simp [ds32]) (.bin (.tmp rfl) .int .geq) fun a8 w8 I8 m8 k8 hx8=>?_
    show Code.wp Tryz.prog _ _ a8 w8
    have k68:=(k6.trans k7).trans k8
    have hB8:=bgrow hB6 (T.below hx8)
    refine wp_cond_split (hx8.tmp 48).bool_inv (fun hc=>?_) fun hc=>?_
    · have hc:=of_decide_eq_true hc
      obtain ⟨k,rfl⟩ : ∃ j,k=j + 1:=⟨k - 1,by omega⟩
      have hn:(((k + 1:Nat):Int) - 1).toNat=k:=by omega
      have hes:(l.map AV.str).getD (((k + 1:Nat):Int) - 1).toNat .bad = .str (rdOf ByteArray.empty l (k:Int)):=by
        rw [hn]
        unfold rdOf
        rw [Int.toNat_natCast,List.getD_eq_getElem?_getD,List.getElem?_map,List.getD_eq_getElem?_getD,List.getElem?_eq_getElem (show k < l.length by omega)]
        rfl
      refine wp_skip ?_
      show Code.wp Tryz.prog _ _ a8 w8
      refine wp_seq (wp_block (wp_region ?_))
      refine T.pu (ds:=ds32) hx8 rfl rfl rfl (hlt _ (by decide)) (by simp [ds32]) (.move (.tmp (v:=.fv _) rfl)) fun a9 w9 I9 m9 k9 hx9=>?_
      refine T.pu (ds:=ds32) hx9 rfl rfl rfl (hlt _ (by decide)) (by simp [ds32]) (.move (.tmp (v:=.int _ _) rfl)) fun a10 w10 I10 m10 k10 hx10=>?_
      refine T.pu (ds:=ds32) hx10 rfl rfl rfl (hlt _ (by decide)) (by simp [ds32]) (.indexV rfl (by rw [hes];exact ⟨rfl,rfl⟩) (.tmp rfl) (.tmp rfl) hc (by rw [List.length_map];omega)) fun a11 w11 I11 m11 k11 hx11=>?_
      refine T.pu (ds:=ds32) hx11 rfl rfl rfl (hlt _ (by decide)) (by simp [ds32]) (.loadR (r:=.str (rdOf ByteArray.empty l (k:Int))) (.tmp rfl) (by rw [hes];exact U.self rfl rfl rfl)) fun a12 w12 I12 m12 k12 hx12=>?_
      have k912:=((k9.trans k10).trans k11).trans k12
      have hb12:=T.below hx12
      have hB12:=bgrow hB6 hb12
      have h54:=(show VR I12 w12 noB m12 (.str (rdOf ByteArray.empty l (k:Int))) (a12.tmps.getD 54 undef) from hx12.tmp 54).str_inv
      have h11:a12.tmps.getD 11 undef = .pointer (some ⟨w.heap.size,0,none⟩):=(hkk 11 (k68.trans k912) (by simp [ds32])).trans hg
      have hb612:=bjoin hb6 hb12
      refine T.call rfl rfl rfl fn46 (V:=#[.pointer (some ⟨w.heap.size,0,none⟩), .string (rdOf ByteArray.empty l (k:Int))]) (by have e1:a12.eval (.tmp 11)=_:=h11;have e2:a12.eval (.tmp 54)=_:=h54;simp only [List.map_toArray,List.map_cons,List.map_nil,e1,e2]) (bwrite _ _ _ _ _ hB12 (digits_joined.fits (by omega) hl2) hb612.size) ?_
      rintro e w13 ⟨rfl,hB13,hb13⟩
      refine ⟨_,rfl,?_⟩
      rw [← digits_joined.step l k (by omega)] at hB13
      have k13:keeps ds32 a1 (a12.put (some 55) (.tuple #[.int .i64 (rdOf ByteArray.empty l (k:Int)).size, .nilIface])):=(k68.trans k912).trans (.put (by simp [ds32]))
      have h12':(a12.put (some 55) (.tuple #[.int .i64 (rdOf ByteArray.empty l (k:Int)).size, .nilIface])).tmps.getD 12 undef = .int .i64 (((k + 1:Nat):Int) - 1):=by
        rw [(keeps.put (ds:=[55]) (a:=a12) (List.mem_singleton.2 rfl)).2.2 12 (by simp)]
        exact (show VR I12 w12 noB m12 (.int .i64 (((k + 1:Nat):Int) - 1)) (a12.tmps.getD 12 undef) from hx12.tmp 12).int_inv
      show Code.wp Tryz.prog _ _ (a12.put (some 55) (.tuple #[.int .i64 (rdOf ByteArray.empty l (k:Int)).size, .nilIface])) w13
      generalize a12.put (some 55) (.tuple #[.int .i64 (rdOf ByteArray.empty l (k:Int)).size, .nilIface])=a13 at k13 h12'
      have hb1:Below w.heap.size w w13:=hb612.trans hb13
      clear hx12 hx11 hx10 hx9 hx8 hx7 hx6
      have hx13:=T.enter (P:=Tryz.prog) (st:=⟨grp2 l (((k + 1:Nat):Int) - 1),noB⟩) (w:=w13) (m:=m) ((k13.2.1.trans hk.2.1).trans hs0) ((k13.1.trans hk.1).trans hx.def0) (grp2_vr hv3 hb1 (((hkk 3 k13 (by simp [ds32])).trans (hk.2.2 3 (by simp))).trans hV3) h12') rfl
      refine wp_region ?_
      refine T.pu (ds:=ds32) hx13 rfl rfl rfl (hlt _ (by decide)) (by simp [ds32]) (.move (.tmp (v:=.int _ _) rfl)) fun a14 w14 I14 m14 k14 hx14=>?_
      refine T.pu (ds:=ds32) hx14 rfl rfl rfl (hlt _ (by decide)) (by simp [ds32]) (.bin (.tmp rfl) .int U.sub64) fun a15 w15 I15 m15 k15 hx15=>?_
      refine T.pu (ds:=ds32) hx15 rfl rfl rfl (hlt _ (by decide)) (by simp [ds32]) (.assign (.tmp (v:=.int _ _) rfl)) fun a16 w16 I16 m16 k16 hx16=>?_
      have h12'':a16.tmps.getD 12 undef = .int .i64 ((k:Int) - 1):=by
        have h1:=(show VR I16 w16 noB m16 (.int .i64 (wrap64 (((k + 1:Nat):Int) - 1 - 1))) (a16.tmps.getD 12 undef) from hx16.tmp 12).int_inv
        rw [h1]
        congr 1
        unfold wrap64
        omega
      refine ⟨⟨((k13.trans k14).trans k15).trans k16,bjoin hb1 (T.below hx16),k,by omega,h12'',bgrow hB13 (T.below hx16)⟩,?_⟩
      rw [h12'']
      show ((k:Int) - 1 + 1).toNat < (((k + 1:Nat):Int) - 1 + 1).toNat
      omega
    · have hc:=of_decide_eq_false hc
      obtain rfl:k=0:=by omega
      refine wp_exit ?_
      show Code.wp Tryz.prog _ _ a8 w8
      have hb8:=bjoin hb6 (T.below hx8)
      have h11:a8.tmps.getD 11 undef = .pointer (some ⟨w.heap.size,0,none⟩):=(hkk 11 k68 (by simp [ds32])).trans hg
      refine wp_seq (wp_region ?_)
      refine T.call rfl rfl rfl fn47 (V:=#[.pointer (some ⟨w.heap.size,0,none⟩)]) (by have e1:a8.eval (.tmp 11)=_:=h11;simp only [List.map_toArray,List.map_cons,List.map_nil,e1]) (bstring _ _ _ _ hB8 hb8.size) ?_
      rintro e w9 ⟨rfl,hb9⟩
      refine ⟨_,rfl,?_⟩
      have hb:=hb8.trans hb9
      have hx9:=hx.grow (a:=a) hb
      have hz:((a8.put (some 56) (.string ⟨(digits_joined.go l 0).toArray⟩))).tmps.size=c.n:=by rw [Act.put_tmps,Array.size_setIfInBounds];exact (k68.2.1.trans hk.2.1).trans hs0
      have hd8:(a8.put (some 56) (.string ⟨(digits_joined.go l 0).toArray⟩)).defers = []:=(k68.1.trans hk.1).trans hx.def0
      have hv:(a8.put (some 56) (.string ⟨(digits_joined.go l 0).toArray⟩)).tmps.getD 56 undef = .string ⟨(digits_joined.go l 0).toArray⟩:=put_at (by have:=(k68.2.1.trans hk.2.1).trans hs0;omega)
      have hx10:SRx c I m ⟨upd (fun _=>.bad) 56 (.str ⟨(digits_joined.go l 0).toArray⟩),st.b⟩ (a8.put (some 56) (.string ⟨(digits_joined.go l 0).toArray⟩)) w9:=by
        refine ⟨hx9.wr,hd8,hz,fun x=>?_⟩
        show VR I w9 st.b m (upd (fun _=>.bad) 56 (.str _) x) _
        by_cases hx:x=56
        · subst hx;rw [upd_same,hv];exact .str _
        · rw [upd_ne _ _ hx];exact .bad _
      refine T.pu (ds:=[2]) hx10 rfl rfl rfl (hlt _ (by decide)) (by simp) (.assign (.tmp (v:=.str _) rfl)) fun a11 w11 I11 m11 k11 hx11=>?_
      show Code.wp Tryz.prog _ _ a11 w11
      exact wp_ret (hq .ret _ a11 w11 (hQ _ rfl) ⟨I11,m11,hx11⟩)
end Go.Proofs.YtlfdghofoobkmaaGreat
end

section
namespace Go.Proofs.YtlfdghofoobkmaaGreat.F
open Go.RowKit Go.Proofs.YtlfdghofoobkmaaGreatW.PrintWords Go.Proofs.YtlfdghofoobkmaaGreatW.PrintLast Go.Proofs.YtlfdghofoobkmaaGreatW.PrintMore Go.Proofs.YtlfdghofoobkmaaGreatX
attribute [local go_sem] max2_int cell_some xrun_add64 xrun_sub64
attribute [local go_sem] max2_int min2_int max_two min_two max_three min_three max_four min_four
set_option linter.unusedVariables false
set_option linter.unusedSimpArgs false
theorem digits_small.cells_at (acc:List Int) (h:acc.length < 20):(digits_small.cells acc)[19 - acc.length]?=some (Value.int .u8 0):=by
  unfold digits_small.cells
  rw [List.getElem?_toArray,List.getElem?_append_left (by simp;omega),List.getElem?_replicate,if_pos (by omega)]
theorem digits_small.cells_put (acc:List Int) (h:acc.length < 20) (x:Int):(digits_small.cells acc).setIfInBounds (19 - acc.length) (Value.int .u8 x)=digits_small.cells (x :: acc):=by
  unfold digits_small.cells
  rw [List.setIfInBounds_toArray]
  congr 1
  have e1:20 - acc.length=(19 - acc.length) + 1:=by omega
  have e2:20 - (x :: acc).length=19 - acc.length:=by simp
  rw [e2,e1,List.replicate_succ',List.append_assoc,List.set_append_right _ _ (by simp)]
  simp
theorem digits_small.step {n:Int} (h0:0≤n) (h1:n < 18446744073709551616):IntKind.u64.wrap (n.tdiv 10)=n / 10:=by
  rw [Int.tdiv_eq_ediv_of_nonneg h0]
  simp only [IntKind.wrap,IntKind.bits,IntKind.signed]
  simp
  omega
theorem digits_small.digit {n:Int} (h0:0≤n):IntKind.u64.wrap (48 + n.tmod 10) % 256=48 + n % 10:=by
  rw [Int.tmod_eq_emod_of_nonneg h0]
  simp only [IntKind.wrap,IntKind.bits,IntKind.signed]
  simp
  omega
theorem info5:(Tryz.prog.info? 5).map (fun i=>(i.zero,i.size,i.bytes))=some (some (.int .u8 0),1,1):=by kernel_rfl
theorem m0 {p:Prop} (h:p):Aside0 p:=⟨h⟩
set_option maxHeartbeats 1000000 in
set_option maxRecDepth 100000 in
theorem digits_small.calls (a0 a1:Int) (r:ByteArray) (w:World) (h:digits_small.f a0 a1=some r) :
    Calls Tryz.prog 45 #[.int .u64 a0, .int .i64 a1] w fun e w'=>e = .returned (.string r)∧Below w.heap.size w w':=by
  unfold digits_small.f at h
  by_cases hc:0≤a0∧a0 < 18446744073709551616
  rotate_left
  · rw [if_neg hc] at h
    cases h
  rw [if_pos hc] at h
  obtain ⟨R,hR,hr⟩:=Option.map_eq_some_iff.mp h
  clear h
  have HB:=m0 (Below.refl w.heap.size w)
  have HR:=m0 hR
  have HC:=m0 hc
  have HS:=m0 hr
  clear hR hc hr
  go_enter Tryz.func45,Tryz.ntmps45
  go_wp2
  go_loopg [0,6] 21 (fun kq v0 v6 w'=>∃ (n i:Int) (acc:List Int),v0 = .int .u64 n∧v6 = .int .i64 i∧Aside0 (i=20 - acc.length∧acc.length≤20∧0≤n∧n < 18446744073709551616)∧Aside0 (digits_small.l0 kq n a1 acc=some R)∧Aside0 (kq≤21)∧Aside0 (w'.heap[w.heap.size]?=some (.cells (digits_small.cells acc) 107 (0,0)))∧Aside0 (Below w.heap.size w w'))
  case atStart=>exact ⟨a0,20,[],rfl,rfl,⟨rfl,by simp,HC.out.1,HC.out.2⟩,HR,⟨Nat.le_refl _⟩,⟨blk_new w (.cells (digits_small.cells []) 107 (0,0))⟩,⟨below_alloc HB.out _⟩⟩
  case round =>
    clear HR HC
    obtain ⟨n,i,acc,rfl,rfl,HI,HA,HK1,BK,HB⟩:=hrel
    cases gk with
    | zero=>exact absurd HA.out (by simp [digits_small.l0])
    | succ k1 =>
      have H:=HA.out
      clear HA
      simp only [digits_small.l0] at H
      by_cases c:0 < n∨(acc.length:Int) < a1
      · rw [if_pos c] at H
        by_cases c3:acc.length < 20
        rotate_left
        · rw [if_neg c3] at H
          cases H
        rw [if_pos c3] at H
        have hw:wrap64 (i - 1)=((19 - acc.length:Nat):Int):=by have:=HI.out;unfold wrap64;omega
        have hw2:wrap64 (20 - i)=(acc.length:Int):=by have:=HI.out;unfold wrap64;omega
        have hb:0≤wrap64 (i - 1)∧wrap64 (i - 1) < 20:=by rw [hw];omega
        have hn:(wrap64 (i - 1)).toNat=19 - acc.length:=by rw [hw];simp
        have hcell:wr.cell? ⟨w.heap.size,(wrap64 (i - 1)).toNat,none⟩=some (.int .u8 0):=by rw [hn,blk_cell BK.out];exact digits_small.cells_at acc c3
        have hfro:wr.frozen? ⟨w.heap.size,(wrap64 (i - 1)).toNat,none⟩=false:=blk_frozen BK.out _
        have hput:(wr.setCell ⟨w.heap.size,(wrap64 (i - 1)).toNat,none⟩ (.int .u8 (IntKind.u64.wrap (48 + n.tmod 10) % 256))).heap[w.heap.size]?=some (.cells (digits_small.cells ((48 + n % 10) :: acc)) 107 (0,0)):=by
          rw [hn,digits_small.digit HI.out.2.2.1]
          exact blk_put BK.out _ _ (digits_small.cells_put acc c3 _)
        have hout:Below w.heap.size w (wr.setCell ⟨w.heap.size,(wrap64 (i - 1)).toNat,none⟩ (.int .u8 (IntKind.u64.wrap (48 + n.tmod 10) % 256))):=below_set HB.out (Nat.le_refl _)
        have HP:=m0 hput
        have HO:=m0 hout
        have HH:=m0 H
        have HN:=m0 hn
        clear hput hout H hn
        have hq:=digits_small.step HI.out.2.2.1 HI.out.2.2.2
        have HT:=m0 c
        have rel : ∀ W:World,W=wr.setCell ⟨w.heap.size,(wrap64 (i - 1)).toNat,none⟩ (.int .u8 (IntKind.u64.wrap (48 + n.tmod 10) % 256))→∃ (n' i':Int) (acc':List Int),Value.int .u64 (n / 10) = .int .u64 n'∧Value.int .i64 (wrap64 (i - 1)) = .int .i64 i'∧Aside0 (i'=20 - acc'.length∧acc'.length≤20∧0≤n'∧n' < 18446744073709551616)∧Aside0 (digits_small.l0 k1 n' a1 acc'=some R)∧Aside0 (k1≤21)∧Aside0 (W.heap[w.heap.size]?=some (.cells (digits_small.cells acc') 107 (0,0)))∧Aside0 (Below w.heap.size w W):=by
          rintro W rfl
          have h1:=HI.out
          exact ⟨n / 10,wrap64 (i - 1),(48 + n % 10) :: acc,rfl,rfl,⟨by rw [hw,List.length_cons];omega,by rw [List.length_cons];omega,by omega,by omega⟩,HH,⟨by have:=HK1.out;omega⟩,HP,HO⟩
        have HREL:=m0 rel
        clear rel hw c
        by_cases c1:0 < n
        · have c1b:decide (0 < n)=true:=decide_eq_true c1
          clear c1 hw2
          go_wp2
          go_roundg k1
          case measure=>have:=HK1.out;omega
          case rel=>exact HREL.out _ rfl
        · have c1b:decide (0 < n)=false:=decide_eq_false c1
          have c2b:decide (wrap64 (20 - i) < a1)=true:=decide_eq_true (by rw [hw2];exact HT.out.resolve_left c1)
          clear c1 hw2
          go_wp2
          go_roundg k1
          case measure=>have:=HK1.out;omega
          case rel=>exact HREL.out _ rfl
      · rw [if_neg c] at H
        obtain rfl:=Option.some.inj H
        have c1b:decide (0 < n)=false:=decide_eq_false (fun h=>c (Or.inl h))
        have hw2:wrap64 (20 - i)=(acc.length:Int):=by have:=HI.out;unfold wrap64;omega
        have c2b:decide (wrap64 (20 - i) < a1)=false:=decide_eq_false (fun h=>c (Or.inr (by rw [← hw2];exact h)))
        have hi0:i.toNat=20 - acc.length:=by have:=HI.out;omega
        have hi1:0≤i∧i≤20:=by have:=HI.out;omega
        have hlen:acc.length≤20:=HI.out.2.1
        have hal:Tryz.prog.arrayLen 107=20:=by kernel_rfl
        have hel:Tryz.prog.elem 107=5:=by kernel_rfl
        have hut:Tryz.prog.underlying 107=some (.array (Tryz.prog.arrayLen 107) (Tryz.prog.elem 107)):=by kernel_rfl
        obtain ⟨ad,hsl,had⟩ : ∃ ad:Addr,(∀ W:World,(Instr.sliceAt 107 (.pointer (some ⟨w.heap.size,0,none⟩)) (some (.int .i64 i)) none none).run Tryz.prog W = .ok (.slice (some ad) acc.length acc.length) W)∧(0 < acc.length→ad=⟨w.heap.size,20 - acc.length,none⟩):=by
          refine ⟨if 20=i.toNat then ⟨w.heap.size,0,none⟩ else (⟨w.heap.size,0,none⟩:Addr).add (i.toNat * 1),fun W=>?_,fun h=>?_⟩
          · rw [Go.run_sliceAt_array_l W 107 _ hut .i64 i hi1.1 (by rw [hal];exact hi1.2),hal,hel]
            obtain ⟨i0,hi,_,hsz,_⟩:=info_parts info5
            simp [sizeOf,typeInfo,hi,hsz,Result.andThen,Go.slicedAt]
            omega
          · rw [if_neg (by omega),hi0]
            simp [add_plain]
        have hrd:ReadsInt wr .u8 (some ad) acc.length acc:=by
          refine ⟨rfl,by omega,fun h=>⟨ad,rfl,fun j hj=>?_⟩⟩
          rw [had h,show (⟨w.heap.size,20 - acc.length,none⟩:Addr).add j=⟨w.heap.size,20 - acc.length + j,none⟩ by unfold Addr.add;split <;> simp_all,blk_cell BK.out]
          unfold digits_small.cells
          rw [List.getElem?_toArray,List.getElem?_append_right (by simp)]
          simp [hj]
        have hconv:=string_of_reads (P:=Tryz.prog) (src:=79) (dst:=9) (e:=5) (c:=acc.length) Tryz.underlying79 Tryz.underlying5 Tryz.underlying9 hrd
        obtain rfl:=HS.out
        clear HS
        clear hw2 c H hi0 hi1 hlen hal hel hut hrd had
        go_wp2
        go_ret
        exact ⟨rfl,HB.out⟩
end Go.Proofs.YtlfdghofoobkmaaGreat.F
namespace Go.Proofs.YtlfdghofoobkmaaGreat
open Go.AVL Go.RowKit Go.Proofs.YtlfdghofoobkmaaGreat.F
theorem int2_args {A:Nat→Prop} {w:World} {B:Nat→Blk} {m:Nat→Reg} {V:Array Value} {k k':IntKind} {a b:Int} (hs:V.size=2) (hv : ∀ i,i < 2→VR A w B m ([AV.int k a,AV.int k' b].getD i .bad) (V.getD i undef)):V = #[.int k a, .int k' b]:=by
  have h0:=(hv 0 (by omega)).int_inv
  have h1:=(hv 1 (by omega)).int_inv
  apply Array.ext
  · exact hs
  · intro i hi1 hi2
    rw [hs] at hi1
    rcases i with _|_|i
    · simpa [Array.getD,hs] using h0
    · simpa [Array.getD,hs] using h1
    · omega
noncomputable def c45:Code:=Tryz.f45.body.getD .skip
set_option maxRecDepth 100000
theorem fn45:FnOk Tryz.prog 45 Tryz.f45 c45:=⟨Tryz.func45,rfl,by kernel_rfl,by kernel_rfl,mixed⟩
theorem digits_small.cs {a0:Int} {a1:Int} {r:ByteArray} (h:digits_small.f a0 a1=some r):CS Tryz.prog 45 [.int .u64 a0, .int .i64 a1] .no [.str r]:=by
  intro A wg w m V hwg hw hs hv
  rw [int2_args hs hv]
  refine callW_of_calls fn45 ((digits_small.calls a0 a1 r w h).mono ?_)
  rintro e w' ⟨rfl,hb⟩
  exact ⟨A,m,hw.grow hb,(fun p r1 r2 e h=>by cases h), .str r⟩
end Go.Proofs.YtlfdghofoobkmaaGreat
end

section
namespace Go.Proofs.YtlfdghofoobkmaaGreat
open Go.AVL Go.RowKit Go.Proofs.YtlfdghofoobkmaaGreat.F Go.Proofs.YtlfdghofoobkmaaGreatX Go.Proofs.YtlfdghofoobkmaaGreatW.PrintWords Go.Proofs.YtlfdghofoobkmaaGreatW.PrintLast Go.Proofs.YtlfdghofoobkmaaGreatW.PrintMore
set_option linter.unusedVariables false
set_option linter.unusedSimpArgs false
set_option maxRecDepth 100000
set_option maxHeartbeats 4000000
theorem digits_Print.cs {k:Nat} {l0_0:List Int} {r:ByteArray} (h:digits_Print.f k l0_0=some r):CS Tryz.prog 25 [.agg [.fi .u64 l0_0]] .no [.str r]:=by
  unfold digits_Print.f at h
  refine E.pure fn25 rfl ?_
  refine X.seq ?_
  refine X.still ?_
  refine O.puE (v':=.op 1 (1) 0 0) (b':=⟨1, .own,_,_⟩) (Pu.box (.tmp (v:=.agg _) rfl) rfl rfl) rfl rfl ?_
  refine O.pu (Pu.assign .str) ?_
  refine O.nil ?_
  refine X.seq ?_
  refine X.seq ?_
  refine X.still ?_
  refine O.pu (U.load (.tmp rfl) rfl rfl (U.whole rfl rfl)) ?_
  obtain ⟨q1,Hq1,h⟩:=Option.bind_eq_some_iff.1 h
  refine O.pu (U.call (ss:=[]) (.cons (.tmp (v:=.agg _) rfl) .nil) (.cons (.cl (.aggL (.cons .fi .nil))) .nil) (nat_Nat_Zero.cs Hq1) (.inl rfl) (.bool)) ?_
  refine O.nil ?_
  refine X.cond (.tmp rfl) (fun c=>?_) (fun c=>?_)
  · rw [if_pos c] at h
    refine X.seq ?_
    refine X.still ?_
    refine O.pu (Pu.assign .str) ?_
    refine O.nil ?_
    refine X.ret ?_
    cases h
    exact E.fin [] (.tmp (v:=.str _) rfl .nil) (.cons (.cl .str) .nil)
  · rw [if_neg (bf c)] at h
    refine X.skip ?_
    refine X.seq ?_
    refine X.still ?_
    refine O.ef (U.nilOE (u:=1) (row:=.vals (List.map AV.str [])) (e:=9) rfl rfl) ?_
    refine O.nil ?_
    refine X.seq ?_
    refine X.block ?_
    refine X.inv (fun k s=>∃ x3 x740000 n3 u1 u3,s.b 3=⟨u3, .own, .vals (List.map AV.str x3),9⟩∧s.t 3 = .os 3 u3 0 n3 true∧x3.length=n3∧s.t 1 = .op 1 u1 0 0∧s.b 1=⟨u1, .own, .vals [.agg [.fi .u64 x740000]],29⟩∧digits_Print.l0 k x3 x740000=some r) ?_ ?_ ⟨_,_,_,_,_,rfl,rfl,rfl,rfl,rfl,h⟩
    · rintro s ⟨_,_,_,_,_,_,_,_,_,_,h⟩;unfold digits_Print.l0 at h;cases h
    · rintro k1 s1 ⟨x3,x740000,n3,u1,u3,e0,e1,rfl,e3,e4,h⟩
      unfold digits_Print.l0 at h
      rw [St.fixB e0,St.fixT e1,St.fixT e3,St.fixB e4]
      refine X.seq ?_
      refine X.seq ?_
      refine X.still ?_
      refine O.pu (U.load (.tmp rfl) rfl rfl (U.whole rfl rfl)) ?_
      obtain ⟨q2,Hq2,h⟩:=Option.bind_eq_some_iff.1 h
      refine O.pu (U.call (ss:=[]) (.cons (.tmp (v:=.agg _) rfl) .nil) (.cons (.cl (.aggL (.cons .fi .nil))) .nil) (nat_Nat_Zero.cs Hq2) (.inl rfl) (.bool)) ?_
      refine O.pu (Pu.un (.tmp rfl) .not) ?_
      refine O.nil ?_
      refine X.condNot (.tmp rfl) (fun c=>?_) (fun c=>?_)
      · rw [if_neg (bf c)] at h
        refine X.skip ?_
        refine X.block ?_
        refine X.seq ?_
        refine X.drawn ?_
        refine D.pu (U.load (.tmp rfl) rfl rfl (U.whole rfl rfl)) ?_
        refine D.puE (v':=.os 20 ((s1.b 20).ver + 1) 0 _ true) (b':=⟨(s1.b 20).ver + 1, .own,_,_⟩) (U.litI rfl rfl (.cons .int .nil) rfl rfl) rfl rfl ?_
        obtain ⟨q3,Hq3,h⟩:=Option.bind_eq_some_iff.1 h
        refine D.ef (C.callZ (ss:=[20]) (.cons (.tmp (v:=.os _ _ _ _ _) rfl) .nil) (.cons (.osIf (by simp) rfl (Mode.live_ne rfl) rfl (by first|rfl|(simp only [List.length_set];done)|(simp only [List.length_drop,List.length_take,List.length_append,List.length_set] at *;omega))) .nil) (nat_Of.cs Hq3) (.aggL (.cons .fi .nil)) (nowin rfl)) ?_
        obtain ⟨q4,Hq4,h⟩:=Option.bind_eq_some_iff.1 h
        refine D.pu (U.call (ss:=[]) (.cons (.tmp (v:=.agg _) rfl) (.cons (.tmp (v:=.agg _) rfl) .nil)) (.cons (.cl (.aggL (.cons .fi .nil))) (.cons (.cl (.aggL (.cons .fi .nil))) .nil)) (quot_Div.cs Hq4) (.inl rfl) (.tupL (.cons (.aggL (.cons .fi .nil)) (.cons (.aggL (.cons .fi .nil)) (.cons .int .nil))))) ?_
        refine D.pu (Pu.move (.tmp (v:=.tup _) rfl)) ?_
        refine D.pu (Pu.extract (.tmp rfl) rfl) ?_
        refine D.pu (Pu.extract (.tmp rfl) rfl) ?_
        refine D.pu (Pu.extract (.tmp rfl) rfl) ?_
        refine D.puE (v':=.op 4 ((s1.b 4).ver + 1) 0 0) (b':=⟨(s1.b 4).ver + 1, .own,(.vals [.agg [.fi .u64 []]]),_⟩) Pu.alloc rfl rfl ?_
        refine D.puE (v':=.op 5 ((s1.b 5).ver + 1) 0 0) (b':=⟨(s1.b 5).ver + 1, .own,(.vals [.agg [.fi .u64 []]]),_⟩) Pu.alloc rfl rfl ?_
        refine D.ef0 (C.storeE (.tmp rfl) rfl rfl (.tmp (v:=.agg _) rfl) rfl rfl (.whole (notBad_ne rfl) rfl) .one) ?_
        refine D.ef0 (C.storeE (.tmp rfl) rfl rfl (.tmp (v:=.agg _) rfl) rfl rfl (.whole (notBad_ne rfl) rfl) .one) ?_
        refine D.pu (Pu.assign (.tmp (v:=.int _ _) rfl)) ?_
        refine D.nil (by kernel_rfl) ?_
        refine X.seq ?_
        refine X.still ?_
        refine O.pu (Pu.assign .int) ?_
        refine O.nil ?_
        refine X.seq ?_
        refine X.seq ?_
        refine X.still ?_
        refine O.pu (U.load (.tmp rfl) rfl rfl (U.whole rfl rfl)) ?_
        obtain ⟨q5,Hq5,h⟩:=Option.bind_eq_some_iff.1 h
        refine O.puE (v':=.os 27 ((s1.b 27).ver + 1) 0 _ true) (b':=⟨(s1.b 27).ver + 1, .own,_,_⟩) (U.callF (ss:=[]) (.cons (.tmp (v:=.agg _) rfl) .nil) (.cons (.cl (.aggL (.cons .fi .nil))) .nil) (nat_Nat_Limbs.cs Hq5)) rfl rfl ?_
        refine O.pu (Pu.lenO rfl (.tmp rfl)) ?_
        refine O.pu (Pu.move .int) ?_
        refine O.nil ?_
        refine X.block ?_
        refine X.inv (fun k s=>k≤k1∧∃ x3 x7 x27 x28 x29 x757000 n27 n3 u1 u27 u3 u4 u5 z1_0 z5_0,s.b 3=⟨u3, .own, .vals (List.map AV.str x3),9⟩∧s.t 3 = .os 3 u3 0 n3 true∧x3.length=n3∧s.t 7 = .int .u64 x7∧s.b 27=⟨u27, .own, .ints .u64 x27,75⟩∧s.t 27 = .os 27 u27 0 n27 true∧x27.length=n27∧s.t 28 = .int .i64 x28∧s.t 29 = .int .i64 x29∧s.t 1 = .op 1 u1 0 0∧s.b 1=⟨u1, .own, .vals [.agg [.fi .u64 z1_0]],29⟩∧s.t 4 = .op 4 u4 0 0∧s.b 4=⟨u4, .own, .vals [.agg [.fi .u64 x757000]],29⟩∧s.t 5 = .op 5 u5 0 0∧s.b 5=⟨u5, .own, .vals [.agg [.fi .u64 z5_0]],29⟩∧digits_Print.l1 k x3 x7 x27 x28 x29 x757000=some r) ?_ ?_ ⟨(by omega),_,_,_,_,_,_,_,_,_,_,_,_,_,_,_,rfl,rfl,(by first|rfl|(simp only [List.length_set];done)|(simp only [List.length_drop,List.length_take,List.length_append,List.length_set] at *;omega)),rfl,rfl,rfl,(by first|rfl|(simp only [List.length_set];done)|(simp only [List.length_drop,List.length_take,List.length_append,List.length_set] at *;omega)),rfl,rfl,rfl,rfl,rfl,rfl,rfl,rfl,h⟩
        · rintro s ⟨_,_,_,_,_,_,_,_,_,_,_,_,_,_,_,_,_,_,_,_,_,_,_,_,_,_,_,_,_,_,_,h⟩;unfold digits_Print.l1 at h;cases h
        · rintro k2 s2 ⟨kl2,x3,x7,x27,x28,x29,x757000,n27,n3,u1,u27,u3,u4,u5,z1_0,z5_0,e0,e1,rfl,e3,e4,e5,rfl,e7,e8,e9,e10,e11,e12,e13,e14,h⟩
          unfold digits_Print.l1 at h
          rw [St.fixB e0,St.fixT e1,St.fixT e3,St.fixB e4,St.fixT e5,St.fixT e7,St.fixT e8,St.fixT e9,St.fixB e10,St.fixT e11,St.fixB e12,St.fixT e13,St.fixB e14]
          refine X.seq ?_
          refine X.still ?_
          refine O.pu (Pu.bin (.tmp rfl) (.tmp rfl) .lss) ?_
          refine O.nil ?_
          refine X.seq ?_
          refine X.condP (.tmp rfl) (fun c=>?_) (fun c=>?_)
          · rw [if_pos c] at h
            refine X.skip ?_
            refine X.seq ?_
            refine X.block ?_
            refine X.seq ?_
            refine X.still ?_
            repeat (rw [giff] at h;obtain ⟨_,h⟩:=h)
            refine O.pu (U.indexO0 rfl (.tmp rfl) rfl rfl (.tmp rfl) (by first|omega|(simp only [List.length_set] at *;omega)) (by first|omega|(simp only [List.length_set] at *;omega)) rfl rfl) ?_
            refine O.pu (U.rdO (.tmp rfl) rfl rfl rfl rfl rfl) ?_
            refine O.pu (Pu.assign (.tmp (v:=.int _ _) rfl)) ?_
            refine O.nil ?_
            refine X.still ?_
            refine O.pu (Pu.move (.tmp (v:=.int _ _) rfl)) ?_
            refine O.pu (Pu.assign (.tmp (v:=.int _ _) rfl)) ?_
            refine O.nil ?_
            refine X.still ?_
            refine O.pu (Pu.bin (.tmp rfl) .int U.add64) ?_
            refine O.pu (Pu.move (.tmp (v:=.int _ _) rfl)) ?_
            refine O.nil ?_
            exact ⟨_,(by omega),(by omega),_,_,_,_,_,_,_,_,_,_,_,_,_,_,_,rfl,rfl,(by first|rfl|(simp only [List.length_set];done)|(simp only [List.length_drop,List.length_take,List.length_append,List.length_set] at *;omega)),rfl,rfl,rfl,(by first|rfl|(simp only [List.length_set];done)|(simp only [List.length_drop,List.length_take,List.length_append,List.length_set] at *;omega)),rfl,rfl,rfl,rfl,rfl,rfl,rfl,rfl,h⟩
          · rw [if_neg c] at h
            refine X.exit (B.out ?_)
            refine X.seq ?_
            refine X.still ?_
            refine O.pu (Pu.assign .int) ?_
            refine O.nil ?_
            refine X.seq ?_
            refine X.seq ?_
            refine X.still ?_
            refine O.pu (U.load (.tmp rfl) rfl rfl (U.whole rfl rfl)) ?_
            obtain ⟨q6,Hq6,h⟩:=Option.bind_eq_some_iff.1 h
            refine O.pu (U.call (ss:=[]) (.cons (.tmp (v:=.agg _) rfl) .nil) (.cons (.cl (.aggL (.cons .fi .nil))) .nil) (nat_Nat_Zero.cs Hq6) (.inl rfl) (.bool)) ?_
            refine O.nil ?_
            refine X.cond (.tmp rfl) (fun c=>?_) (fun c=>?_)
            · rw [if_pos c] at h
              refine X.still ?_
              refine O.pu (Pu.assign .int) ?_
              refine O.nil ?_
              refine X.seq ?_
              refine X.still ?_
              refine O.pu (Pu.move (.tmp (v:=.os _ _ _ _ _) rfl)) ?_
              refine O.pu (Pu.move (.tmp (v:=.int _ _) rfl)) ?_
              refine O.pu (Pu.move (.tmp (v:=.int _ _) rfl)) ?_
              obtain ⟨q7,Hq7,h⟩:=Option.bind_eq_some_iff.1 h
              refine O.pu (U.call (ss:=[]) (.cons (.tmp (v:=.int _ _) rfl) (.cons (.tmp (v:=.int _ _) rfl) .nil)) (.cons (.cl .int) (.cons (.cl .int) .nil)) (digits_small.cs Hq7) (.inl rfl) (.str)) ?_
              refine O.puE (v':=.os 41 ((s2.b 41).ver + 1) 0 _ true) (b':=⟨(s2.b 41).ver + 1, .own,_,_⟩) (U.litS (en:=AV.str) (l:=[_]) rfl (.cons (.tmp (v:=.str _) rfl) rfl .nil) rfl rfl rfl (fun _=>rfl)) rfl rfl ?_
              repeat (rw [giff] at h;obtain ⟨_,h⟩:=h)
              refine O.ef (U.appendSE (en:=AV.str) (u':=(s2.b 42).ver + 1) rfl (.tmp rfl) rfl (by first|rfl|(simp only [List.length_append,List.length_cons,List.length_nil] at *;omega)) (.tmp rfl) (.osVf (List.mem_singleton.2 rfl) rfl (Mode.live_ne rfl) rfl (ClL.map fun _=>.str) (by simp)) rfl (fun _=>⟨rfl,rfl⟩) (by simp only [maxLen,List.length_cons,List.length_nil];omega) (by simp only [List.length_cons,List.length_nil];omega) rfl) ?_
              refine O.ef (U.takeE (u':=u3 + 1) (.tmp rfl) rfl (ne_of_beq rfl) rfl) ?_
              refine O.nil ?_
              refine X.still ?_
              refine O.pu (U.load (.tmp rfl) rfl rfl (U.whole rfl rfl)) ?_
              refine O.ef0 (U.storeE (.tmp rfl) rfl rfl (.tmp (v:=.agg _) rfl) rfl rfl (.whole (notBad_ne rfl) rfl) .one) ?_
              refine O.nil ?_
              exact ⟨_,(by omega),_,_,_,_,_,rfl,rfl,(by first|rfl|(simp only [List.length_set];done)|(simp only [List.length_drop,List.length_take,List.length_append,List.length_set] at *;omega)),rfl,rfl,h⟩
            · rw [if_neg (bf c)] at h
              refine X.skip ?_
              refine X.seq ?_
              refine X.still ?_
              refine O.pu (Pu.move (.tmp (v:=.os _ _ _ _ _) rfl)) ?_
              refine O.pu (Pu.move (.tmp (v:=.int _ _) rfl)) ?_
              refine O.pu (Pu.move (.tmp (v:=.int _ _) rfl)) ?_
              obtain ⟨q8,Hq8,h⟩:=Option.bind_eq_some_iff.1 h
              refine O.pu (U.call (ss:=[]) (.cons (.tmp (v:=.int _ _) rfl) (.cons (.tmp (v:=.int _ _) rfl) .nil)) (.cons (.cl .int) (.cons (.cl .int) .nil)) (digits_small.cs Hq8) (.inl rfl) (.str)) ?_
              refine O.puE (v':=.os 41 ((s2.b 41).ver + 1) 0 _ true) (b':=⟨(s2.b 41).ver + 1, .own,_,_⟩) (U.litS (en:=AV.str) (l:=[_]) rfl (.cons (.tmp (v:=.str _) rfl) rfl .nil) rfl rfl rfl (fun _=>rfl)) rfl rfl ?_
              repeat (rw [giff] at h;obtain ⟨_,h⟩:=h)
              refine O.ef (U.appendSE (en:=AV.str) (u':=(s2.b 42).ver + 1) rfl (.tmp rfl) rfl (by first|rfl|(simp only [List.length_append,List.length_cons,List.length_nil] at *;omega)) (.tmp rfl) (.osVf (List.mem_singleton.2 rfl) rfl (Mode.live_ne rfl) rfl (ClL.map fun _=>.str) (by simp)) rfl (fun _=>⟨rfl,rfl⟩) (by simp only [maxLen,List.length_cons,List.length_nil];omega) (by simp only [List.length_cons,List.length_nil];omega) rfl) ?_
              refine O.ef (U.takeE (u':=u3 + 1) (.tmp rfl) rfl (ne_of_beq rfl) rfl) ?_
              refine O.nil ?_
              refine X.still ?_
              refine O.pu (U.load (.tmp rfl) rfl rfl (U.whole rfl rfl)) ?_
              refine O.ef0 (U.storeE (.tmp rfl) rfl rfl (.tmp (v:=.agg _) rfl) rfl rfl (.whole (notBad_ne rfl) rfl) .one) ?_
              refine O.nil ?_
              exact ⟨_,(by omega),_,_,_,_,_,rfl,rfl,(by first|rfl|(simp only [List.length_set];done)|(simp only [List.length_drop,List.length_take,List.length_append,List.length_set] at *;omega)),rfl,rfl,h⟩
      · rw [if_pos c] at h
        refine X.exit (B.out ?_)
        obtain ⟨qt,Hqt,h⟩:=Option.bind_eq_some_iff.1 h
        cases h
        exact X.sem (tail32 rfl rfl rfl Hqt fun s hs=>E.fin [] (.tmp (v:=.str _) hs .nil) (.cons (.cl .str) .nil))
noncomputable def c24:Code:=Tryz.f24.body.getD .skip
theorem fn24:FnOk Tryz.prog 24 Tryz.f24 c24:=⟨Tryz.func24,rfl,by kernel_rfl,by kernel_rfl,mixed⟩
theorem whole_Int_Print.cs {k:Nat} {l0_0:List Int} {a0_1:Bool} {r:ByteArray} (h:whole_Int_Print.f k l0_0 a0_1=some r):CS Tryz.prog 24 [.agg [.fi .u64 l0_0, .bool a0_1]] .no [.str r]:=by
  unfold whole_Int_Print.f at h
  refine E.pure fn24 rfl ?_
  refine X.seq ?_
  refine X.still ?_
  refine O.puE (v':=.op 1 (1) 0 0) (b':=⟨1, .own,_,_⟩) (Pu.box (.tmp (v:=.agg _) rfl) rfl rfl) rfl rfl ?_
  refine O.pu (Pu.assign .str) ?_
  refine O.nil ?_
  refine X.seq ?_
  refine X.seq ?_
  refine X.still ?_
  refine O.pu (U.fieldA rfl rfl rfl (.tmp rfl)) ?_
  refine O.pu (U.load (.tmp rfl) rfl rfl (U.cell rfl rfl rfl)) ?_
  refine O.nil ?_
  refine X.cond (.tmp rfl) (fun c=>?_) (fun c=>?_)
  · rw [if_pos c] at h
    refine X.seq ?_
    refine X.still ?_
    refine O.pu (U.fieldA rfl rfl rfl (.tmp rfl)) ?_
    refine O.pu (U.load (.tmp rfl) rfl rfl (U.sub rfl (.take .done))) ?_
    obtain ⟨q1,Hq1,h⟩:=Option.bind_eq_some_iff.1 h
    refine O.pu (U.call (ss:=[]) (.cons (.tmp (v:=.agg _) rfl) .nil) (.cons (.cl (.aggL (.cons .fi .nil))) .nil) (digits_Print.cs Hq1) (.inl rfl) (.str)) ?_
    repeat (rw [giff] at h;obtain ⟨_,h⟩:=h)
    refine O.pu (Pu.bin .str (.tmp rfl) (U.sadd (by first|assumption|omega))) ?_
    refine O.pu (Pu.assign (.tmp (v:=.str _) rfl)) ?_
    refine O.nil ?_
    refine X.ret ?_
    cases h
    exact E.fin [] (.tmp (v:=.str _) rfl .nil) (.cons (.cl .str) .nil)
  · rw [if_neg (bf c)] at h
    refine X.skip ?_
    refine X.seq ?_
    refine X.still ?_
    refine O.pu (U.fieldA rfl rfl rfl (.tmp rfl)) ?_
    refine O.pu (U.load (.tmp rfl) rfl rfl (U.sub rfl (.take .done))) ?_
    obtain ⟨q2,Hq2,h⟩:=Option.bind_eq_some_iff.1 h
    refine O.pu (U.call (ss:=[]) (.cons (.tmp (v:=.agg _) rfl) .nil) (.cons (.cl (.aggL (.cons .fi .nil))) .nil) (digits_Print.cs Hq2) (.inl rfl) (.str)) ?_
    refine O.pu (Pu.assign (.tmp (v:=.str _) rfl)) ?_
    refine O.nil ?_
    refine X.ret ?_
    cases h
    exact E.fin [] (.tmp (v:=.str _) rfl .nil) (.cons (.cl .str) .nil)
noncomputable def c9:Code:=Tryz.f9.body.getD .skip
theorem fn9:FnOk Tryz.prog 9 Tryz.f9 c9:=⟨Tryz.func9,rfl,by kernel_rfl,by kernel_rfl,mixed⟩
theorem frac_Frac_Print.cs {k:Nat} {l0_0:List Int} {a0_1:Bool} {l0_2:List Int} {r:ByteArray} (h:frac_Frac_Print.f k l0_0 a0_1 l0_2=some r):CS Tryz.prog 9 [.agg [.fi .u64 l0_0, .bool a0_1, .fi .u64 l0_2]] .no [.str r]:=by
  unfold frac_Frac_Print.f at h
  refine E.pure fn9 rfl ?_
  refine X.seq ?_
  refine X.still ?_
  refine O.puE (v':=.op 1 (1) 0 0) (b':=⟨1, .own,_,_⟩) (Pu.box (.tmp (v:=.agg _) rfl) rfl rfl) rfl rfl ?_
  refine O.pu (Pu.assign .str) ?_
  refine O.nil ?_
  refine X.seq ?_
  refine X.seq ?_
  refine X.still ?_
  refine O.pu (U.fieldA rfl rfl rfl (.tmp rfl)) ?_
  refine O.pu (U.load (.tmp rfl) rfl rfl (U.sub rfl (.skip (.skip (.take .done))))) ?_
  obtain ⟨q1,Hq1,h⟩:=Option.bind_eq_some_iff.1 h
  refine O.pu (U.call (ss:=[]) (.cons (.tmp (v:=.agg _) rfl) .nil) (.cons (.cl (.aggL (.cons .fi .nil))) .nil) (nat_Nat_Zero.cs Hq1) (.inl rfl) (.bool)) ?_
  refine O.nil ?_
  refine X.cond (.tmp rfl) (fun c=>?_) (fun c=>?_)
  · rw [if_pos c] at h
    refine X.seq ?_
    refine X.still ?_
    refine O.pu (U.fieldA rfl rfl rfl (.tmp rfl)) ?_
    refine O.pu (U.load (.tmp rfl) rfl rfl (U.sub rfl (.take (.take .done)))) ?_
    obtain ⟨q2,Hq2,h⟩:=Option.bind_eq_some_iff.1 h
    refine O.pu (U.call (ss:=[]) (.cons (.tmp (v:=.agg _) rfl) .nil) (.cons (.cl (.aggL (.cons .fi (.cons .bool .nil)))) .nil) (whole_Int_Print.cs Hq2) (.inl rfl) (.str)) ?_
    refine O.pu (Pu.assign (.tmp (v:=.str _) rfl)) ?_
    refine O.nil ?_
    refine X.ret ?_
    cases h
    exact E.fin [] (.tmp (v:=.str _) rfl .nil) (.cons (.cl .str) .nil)
  · rw [if_neg (bf c)] at h
    refine X.skip ?_
    refine X.seq ?_
    refine X.drawn ?_
    refine D.pu (U.fieldA rfl rfl rfl (.tmp rfl)) ?_
    refine D.pu (U.load (.tmp rfl) rfl rfl (U.sub rfl (.take (.take .done)))) ?_
    obtain ⟨q3,Hq3,h⟩:=Option.bind_eq_some_iff.1 h
    refine D.pu (U.call (ss:=[]) (.cons (.tmp (v:=.agg _) rfl) .nil) (.cons (.cl (.aggL (.cons .fi (.cons .bool .nil)))) .nil) (whole_Int_Print.cs Hq3) (.inl rfl) (.str)) ?_
    repeat (rw [giff] at h;obtain ⟨_,h⟩:=h)
    refine D.pu (Pu.bin (.tmp rfl) .str (U.sadd (by first|assumption|omega))) ?_
    refine D.pu (U.load (.tmp rfl) rfl rfl (U.whole rfl rfl)) ?_
    obtain ⟨q4,Hq4,h⟩:=Option.bind_eq_some_iff.1 h
    refine D.pu (U.call (ss:=[]) (.cons (.tmp (v:=.agg _) rfl) .nil) (.cons (.cl (.aggL (.cons .fi (.cons .bool (.cons .fi .nil))))) .nil) (frac_Frac_Den.cs Hq4) (.inl rfl) (.aggL (.cons .fi .nil))) ?_
    obtain ⟨q5,Hq5,h⟩:=Option.bind_eq_some_iff.1 h
    refine D.pu (U.call (ss:=[]) (.cons (.tmp (v:=.agg _) rfl) .nil) (.cons (.cl (.aggL (.cons .fi .nil))) .nil) (digits_Print.cs Hq5) (.inl rfl) (.str)) ?_
    repeat (rw [giff] at h;obtain ⟨_,h⟩:=h)
    refine D.pu (Pu.bin (.tmp rfl) (.tmp rfl) (U.sadd (by first|assumption|omega))) ?_
    refine D.pu (Pu.assign (.tmp (v:=.str _) rfl)) ?_
    refine D.nil (by kernel_rfl) ?_
    refine X.ret ?_
    cases h
    exact E.fin [] (.tmp (v:=.str _) rfl .nil) (.cons (.cl .str) .nil)
noncomputable def c28:Code:=Tryz.f28.body.getD .skip
theorem fn28:FnOk Tryz.prog 28 Tryz.f28 c28:=⟨Tryz.func28,rfl,by kernel_rfl,by kernel_rfl,mixed⟩
theorem chattelref01_Print.cs {k:Nat} {l0:List Int} {r:ByteArray} (h:chattelref01_Print.f k l0=some r):CS Tryz.prog 28 [.fi .i64 l0] .no [.str r]:=by
  unfold chattelref01_Print.f at h
  refine E.pure fn28 rfl ?_
  refine X.seq ?_
  refine X.still ?_
  refine O.pu (Pu.assign .str) ?_
  refine O.nil ?_
  refine X.seq ?_
  refine X.seq ?_
  refine X.still ?_
  refine O.pu (Pu.move (.tmp (v:=.fi _ _) rfl)) ?_
  refine O.pu (Pu.lenI rfl (.tmp rfl)) ?_
  refine O.pu (Pu.bin (.tmp rfl) .int .eql) ?_
  refine O.nil ?_
  refine X.condE (.tmp rfl) (fun c=>?_) (fun c=>?_)
  · rw [if_pos c] at h
    refine X.seq ?_
    refine X.still ?_
    refine O.pu (Pu.assign .str) ?_
    refine O.nil ?_
    refine X.ret ?_
    cases h
    exact E.fin [] (.tmp (v:=.str _) rfl .nil) (.cons (.cl .str) .nil)
  · rw [if_neg c] at h
    refine X.skip ?_
    refine X.seq ?_
    refine X.still ?_
    refine O.pu (Pu.assign .str) ?_
    refine O.nil ?_
    refine X.seq ?_
    refine X.seq ?_
    refine X.still ?_
    refine O.pu (Pu.assign .int) ?_
    refine O.nil ?_
    refine X.block ?_
    refine X.inv (fun k s=>∃ x0 x3 x4,s.t 0 = .fi .i64 x0∧s.t 3 = .str x3∧s.t 4 = .int .i64 x4∧chattelref01_Print.l0 k x0 x3 x4=some r) ?_ ?_ ⟨_,_,_,rfl,rfl,rfl,h⟩
    · rintro s ⟨_,_,_,_,_,_,h⟩;unfold chattelref01_Print.l0 at h;cases h
    · rintro k1 s1 ⟨x0,x3,x4,e0,e1,e2,h⟩
      unfold chattelref01_Print.l0 at h
      rw [St.fixT e0,St.fixT e1,St.fixT e2]
      refine X.seq ?_
      refine X.seq ?_
      refine X.still ?_
      refine O.pu (Pu.move (.tmp (v:=.int _ _) rfl)) ?_
      refine O.pu (Pu.move (.tmp (v:=.fi _ _) rfl)) ?_
      refine O.pu (Pu.lenI rfl (.tmp rfl)) ?_
      refine O.pu (Pu.bin (.tmp rfl) (.tmp rfl) .lss) ?_
      refine O.nil ?_
      refine X.condP (.tmp rfl) (fun c=>?_) (fun c=>?_)
      · rw [if_pos c] at h
        refine X.skip ?_
        refine X.seq ?_
        refine X.block ?_
        refine X.seq ?_
        refine X.still ?_
        refine O.pu (Pu.move (.tmp (v:=.fi _ _) rfl)) ?_
        refine O.pu (Pu.move (.tmp (v:=.int _ _) rfl)) ?_
        repeat (rw [giff] at h;obtain ⟨_,h⟩:=h)
        refine O.pu (U.rdI rfl rfl (.tmp rfl) (.tmp rfl) (by omega) (by omega)) ?_
        refine O.pu (Pu.loadR (.tmp rfl) (U.self rfl rfl rfl)) ?_
        refine O.pu (Pu.assign (.tmp (v:=.int _ _) rfl)) ?_
        refine O.nil ?_
        refine X.seq ?_
        refine X.still ?_
        refine O.pu (Pu.assign .int) ?_
        refine O.nil ?_
        refine X.block ?_
        refine X.inv (fun k s=>k≤k1∧∃ x0 x3 x4 x5 x6,s.t 0 = .fi .i64 x0∧s.t 3 = .str x3∧s.t 4 = .int .i64 x4∧s.t 5 = .int .i64 x5∧s.t 6 = .int .i64 x6∧chattelref01_Print.l1 k x0 x3 x4 x5 x6=some r) ?_ ?_ ⟨(by omega),_,_,_,_,_,rfl,rfl,rfl,rfl,rfl,h⟩
        · rintro s ⟨_,_,_,_,_,_,_,_,_,_,_,h⟩;unfold chattelref01_Print.l1 at h;cases h
        · rintro k2 s2 ⟨kl2,x0,x3,x4,x5,x6,e0,e1,e2,e3,e4,h⟩
          unfold chattelref01_Print.l1 at h
          rw [St.fixT e0,St.fixT e1,St.fixT e2,St.fixT e3,St.fixT e4]
          refine X.seq ?_
          refine X.seq ?_
          refine X.still ?_
          refine O.pu (Pu.move (.tmp (v:=.int _ _) rfl)) ?_
          refine O.pu (Pu.bin (.tmp rfl) .int .lss) ?_
          refine O.nil ?_
          refine X.condP (.tmp rfl) (fun c=>?_) (fun c=>?_)
          · rw [if_pos c] at h
            refine X.skip ?_
            refine X.seq ?_
            refine X.block ?_
            refine X.seq ?_
            refine X.still ?_
            refine O.pu (Pu.move (.tmp (v:=.int _ _) rfl)) ?_
            repeat first|(rw [giff] at h;obtain ⟨_,h⟩:=h)|rw [bdff] at h
            refine O.pu (Pu.bin (.tmp rfl) .int (.rem (by omega))) ?_
            refine O.pu (Pu.bin .int (.tmp rfl) U.add64) ?_
            refine O.pu (U.conv8 rfl (.tmp rfl)) ?_
            refine O.puE (v':=.os 29 ((s2.b 29).ver + 1) 0 _ true) (b':=⟨(s2.b 29).ver + 1, .own,_,_⟩) (U.litI rfl rfl (.cons (.tmp (v:=.int _ _) rfl) .nil) rfl rfl) rfl rfl ?_
            refine O.pu (U.convB rfl rfl rfl (.tmp rfl) rfl rfl rfl (by first|rfl|omega) rfl (by first|(simp only [List.length_cons,List.length_nil];omega)|omega)) ?_
            refine O.pu (Pu.move (.tmp (v:=.str _) rfl)) ?_
            refine O.pu (Pu.bin (.tmp rfl) (.tmp rfl) (U.sadd (by first|assumption|omega))) ?_
            refine O.pu (Pu.assign (.tmp (v:=.str _) rfl)) ?_
            refine O.nil ?_
            refine X.still ?_
            refine O.pu (Pu.move (.tmp (v:=.int _ _) rfl)) ?_
            refine O.pu (Pu.bin (.tmp rfl) .int (U.quo64 (by omega))) ?_
            refine O.pu (Pu.assign (.tmp (v:=.int _ _) rfl)) ?_
            refine O.nil ?_
            refine X.still ?_
            refine O.pu (Pu.move (.tmp (v:=.int _ _) rfl)) ?_
            refine O.pu (Pu.bin (.tmp rfl) .int U.add64) ?_
            refine O.pu (Pu.assign (.tmp (v:=.int _ _) rfl)) ?_
            refine O.nil ?_
            exact ⟨_,(by omega),(by omega),_,_,_,_,_,rfl,rfl,rfl,rfl,rfl,h⟩
          · rw [if_neg c] at h
            refine X.exit (B.out ?_)
            refine X.still ?_
            refine O.pu (Pu.move (.tmp (v:=.int _ _) rfl)) ?_
            refine O.pu (Pu.bin (.tmp rfl) .int U.add64) ?_
            refine O.pu (Pu.assign (.tmp (v:=.int _ _) rfl)) ?_
            refine O.nil ?_
            exact ⟨_,(by omega),_,_,_,rfl,rfl,rfl,h⟩
      · rw [if_neg c] at h
        refine X.exit (B.out ?_)
        refine X.seq ?_
        refine X.still ?_
        refine O.pu (Pu.assign .int) ?_
        refine O.nil ?_
        refine X.seq ?_
        refine X.block ?_
        refine X.inv (fun k s=>k≤k1∧∃ x3 x7,s.t 3 = .str x3∧s.t 7 = .int .i64 x7∧chattelref01_Print.l2 k x3 x7=some r) ?_ ?_ ⟨(by omega),_,_,rfl,rfl,h⟩
        · rintro s ⟨_,_,_,_,_,h⟩;unfold chattelref01_Print.l2 at h;cases h
        · rintro k2 s2 ⟨kl2,x3,x7,e0,e1,h⟩
          unfold chattelref01_Print.l2 at h
          rw [St.fixT e0,St.fixT e1]
          refine X.seq ?_
          refine X.seq ?_
          refine X.still ?_
          refine O.pu (Pu.move (.tmp (v:=.str _) rfl)) ?_
          refine O.pu (Pu.move (.tmp (v:=.int _ _) rfl)) ?_
          repeat (rw [giff] at h;obtain ⟨_,h⟩:=h)
          refine O.pu (U.indexS rfl (.tmp rfl) (.tmp rfl) (by omega) (by omega)) ?_
          refine O.pu (Pu.bin (.tmp rfl) .int .eql) ?_
          refine O.nil ?_
          refine X.condE (.tmp rfl) (fun c=>?_) (fun c=>?_)
          · rw [if_pos c] at h
            refine X.skip ?_
            refine X.block ?_
            refine X.still ?_
            refine O.pu (Pu.move (.tmp (v:=.int _ _) rfl)) ?_
            refine O.pu (Pu.bin (.tmp rfl) .int U.add64) ?_
            refine O.pu (Pu.assign (.tmp (v:=.int _ _) rfl)) ?_
            refine O.nil ?_
            exact ⟨_,(by omega),(by omega),_,_,rfl,rfl,h⟩
          · rw [if_neg c] at h
            refine X.exit (B.out ?_)
            refine X.seq ?_
            refine X.still ?_
            refine O.pu (Pu.move (.tmp (v:=.str _) rfl)) ?_
            refine O.pu (Pu.move (.tmp (v:=.int _ _) rfl)) ?_
            repeat (rw [giff] at h;obtain ⟨_,h⟩:=h)
            refine O.pu (Pu.sliceS rfl (.tmp rfl) (.yes (.tmp rfl) (by omega)) .no (by omega) (by omega)) ?_
            refine O.pu (Pu.assign (.tmp (v:=.str _) rfl)) ?_
            refine O.nil ?_
            refine X.ret ?_
            cases h
            exact E.fin [] (.tmp (v:=.str _) rfl .nil) (.cons (.cl .str) .nil)
noncomputable def c27:Code:=Tryz.f27.body.getD .skip
theorem fn27:FnOk Tryz.prog 27 Tryz.f27 c27:=⟨Tryz.func27,rfl,by kernel_rfl,by kernel_rfl,mixed⟩
theorem chattelref04_Print.cs {k:Nat} {l0_0:List Int} {a0_1:Bool} {r:ByteArray} (h:chattelref04_Print.f k l0_0 a0_1=some r):CS Tryz.prog 27 [.agg [.fi .i64 l0_0, .bool a0_1]] .no [.str r]:=by
  unfold chattelref04_Print.f at h
  refine E.pure fn27 rfl ?_
  refine X.seq ?_
  refine X.still ?_
  refine O.puE (v':=.op 1 (1) 0 0) (b':=⟨1, .own,_,_⟩) (Pu.box (.tmp (v:=.agg _) rfl) rfl rfl) rfl rfl ?_
  refine O.pu (Pu.assign .str) ?_
  refine O.nil ?_
  refine X.seq ?_
  refine X.still ?_
  refine O.pu (U.fieldA rfl rfl rfl (.tmp rfl)) ?_
  refine O.pu (U.load (.tmp rfl) rfl rfl (U.cell rfl rfl rfl)) ?_
  obtain ⟨q1,Hq1,h⟩:=Option.bind_eq_some_iff.1 h
  refine O.pu (U.call (ss:=[]) (.cons (.tmp (v:=.fi _ _) rfl) .nil) (.cons (.cl .fi) .nil) (chattelref01_Print.cs Hq1) (.inl rfl) (.str)) ?_
  refine O.pu (Pu.assign (.tmp (v:=.str _) rfl)) ?_
  refine O.nil ?_
  refine X.seq ?_
  refine X.seq ?_
  refine X.still ?_
  refine O.pu (U.fieldA rfl rfl rfl (.tmp rfl)) ?_
  refine O.pu (U.load (.tmp rfl) rfl rfl (U.cell rfl rfl rfl)) ?_
  refine O.nil ?_
  refine X.cond (.tmp rfl) (fun c=>?_) (fun c=>?_)
  · rw [if_pos c] at h
    refine X.seq ?_
    refine X.still ?_
    refine O.pu (Pu.move (.tmp (v:=.str _) rfl)) ?_
    repeat (rw [giff] at h;obtain ⟨_,h⟩:=h)
    refine O.pu (Pu.bin .str (.tmp rfl) (U.sadd (by first|assumption|omega))) ?_
    refine O.pu (Pu.assign (.tmp (v:=.str _) rfl)) ?_
    refine O.nil ?_
    refine X.ret ?_
    cases h
    exact E.fin [] (.tmp (v:=.str _) rfl .nil) (.cons (.cl .str) .nil)
  · rw [if_neg (bf c)] at h
    refine X.skip ?_
    refine X.seq ?_
    refine X.still ?_
    refine O.pu (Pu.move (.tmp (v:=.str _) rfl)) ?_
    refine O.pu (Pu.assign (.tmp (v:=.str _) rfl)) ?_
    refine O.nil ?_
    refine X.ret ?_
    cases h
    exact E.fin [] (.tmp (v:=.str _) rfl .nil) (.cons (.cl .str) .nil)
noncomputable def c10:Code:=Tryz.f10.body.getD .skip
theorem fn10:FnOk Tryz.prog 10 Tryz.f10 c10:=⟨Tryz.func10,rfl,by kernel_rfl,by kernel_rfl,mixed⟩
theorem chattelref05_Print.cs {k:Nat} {l0_0:List Int} {a0_1:Bool} {l0_2:List Int} {r:ByteArray} (h:chattelref05_Print.f k l0_0 a0_1 l0_2=some r):CS Tryz.prog 10 [.agg [.fi .i64 l0_0, .bool a0_1, .fi .i64 l0_2]] .no [.str r]:=by
  unfold chattelref05_Print.f at h
  refine E.pure fn10 rfl ?_
  refine X.seq ?_
  refine X.still ?_
  refine O.puE (v':=.op 1 (1) 0 0) (b':=⟨1, .own,_,_⟩) (Pu.box (.tmp (v:=.agg _) rfl) rfl rfl) rfl rfl ?_
  refine O.pu (Pu.assign .str) ?_
  refine O.nil ?_
  refine X.seq ?_
  refine X.still ?_
  refine O.pu (U.fieldA rfl rfl rfl (.tmp rfl)) ?_
  refine O.pu (U.load (.tmp rfl) rfl rfl (U.sub rfl (.take (.take .done)))) ?_
  obtain ⟨q1,Hq1,h⟩:=Option.bind_eq_some_iff.1 h
  refine O.pu (U.call (ss:=[]) (.cons (.tmp (v:=.agg _) rfl) .nil) (.cons (.cl (.aggL (.cons .fi (.cons .bool .nil)))) .nil) (chattelref04_Print.cs Hq1) (.inl rfl) (.str)) ?_
  refine O.pu (Pu.assign (.tmp (v:=.str _) rfl)) ?_
  refine O.nil ?_
  refine X.seq ?_
  refine X.seq ?_
  refine X.still ?_
  refine O.pu (U.fieldA rfl rfl rfl (.tmp rfl)) ?_
  refine O.pu (U.load (.tmp rfl) rfl rfl (U.cell rfl rfl rfl)) ?_
  refine O.pu (Pu.lenI rfl (.tmp rfl)) ?_
  refine O.pu (Pu.bin (.tmp rfl) .int .eql) ?_
  refine O.pu (Pu.move (.tmp (v:=.bool _) rfl)) ?_
  refine O.splitE (fun c=>?_) (fun c=>?_)
  · rw [if_pos c] at h
    refine G.pu (W.t rfl rfl) (U.fieldA rfl rfl rfl (.tmp rfl)) ?_
    refine G.pu (W.t rfl rfl) (U.load (.tmp rfl) rfl rfl (U.cell rfl rfl rfl)) ?_
    repeat (rw [giff] at h;obtain ⟨_,h⟩:=h)
    refine G.pu (W.t rfl rfl) (U.rdI rfl rfl (.tmp rfl) .int (by omega) (by omega)) ?_
    refine G.pu (W.t rfl rfl) (Pu.loadR (.tmp rfl) (U.self rfl rfl rfl)) ?_
    refine G.pu (W.t rfl rfl) (Pu.bin (.tmp rfl) .int .eql) ?_
    refine O.pu (Pu.pickT (.tmp rfl) (.tmp (v:=.bool _) rfl)) ?_
    refine O.nil ?_
    refine X.condE (.tmp rfl) (fun c=>?_) (fun c=>?_)
    · rw [if_pos c] at h
      refine X.seq ?_
      refine X.still ?_
      refine O.pu (Pu.move (.tmp (v:=.str _) rfl)) ?_
      refine O.pu (Pu.assign (.tmp (v:=.str _) rfl)) ?_
      refine O.nil ?_
      refine X.ret ?_
      cases h
      exact E.fin [] (.tmp (v:=.str _) rfl .nil) (.cons (.cl .str) .nil)
    · rw [if_neg c] at h
      refine X.skip ?_
      refine X.seq ?_
      refine X.still ?_
      refine O.pu (U.fieldA rfl rfl rfl (.tmp rfl)) ?_
      refine O.pu (U.load (.tmp rfl) rfl rfl (U.cell rfl rfl rfl)) ?_
      obtain ⟨q2,Hq2,h⟩:=Option.bind_eq_some_iff.1 h
      refine O.pu (U.call (ss:=[]) (.cons (.tmp (v:=.fi _ _) rfl) .nil) (.cons (.cl .fi) .nil) (chattelref01_Print.cs Hq2) (.inl rfl) (.str)) ?_
      refine O.pu (Pu.assign (.tmp (v:=.str _) rfl)) ?_
      refine O.nil ?_
      refine X.seq ?_
      refine X.still ?_
      refine O.pu (Pu.move (.tmp (v:=.str _) rfl)) ?_
      repeat (rw [giff] at h;obtain ⟨_,h⟩:=h)
      refine O.pu (Pu.bin (.tmp rfl) .str (U.sadd (by first|assumption|omega))) ?_
      refine O.pu (Pu.move (.tmp (v:=.str _) rfl)) ?_
      refine O.pu (Pu.bin (.tmp rfl) (.tmp rfl) (U.sadd (by first|assumption|omega))) ?_
      refine O.pu (Pu.assign (.tmp (v:=.str _) rfl)) ?_
      refine O.nil ?_
      refine X.ret ?_
      cases h
      exact E.fin [] (.tmp (v:=.str _) rfl .nil) (.cons (.cl .str) .nil)
  · rw [if_neg c] at h
    refine G.skip (W.f rfl rfl rfl) ?_
    refine G.skip (W.f rfl rfl rfl) ?_
    refine G.skip (W.f rfl rfl rfl) ?_
    refine G.skip (W.f rfl rfl rfl) ?_
    refine G.skip (W.f rfl rfl rfl) ?_
    refine O.pu (Pu.pickF (.tmp rfl) .bool) ?_
    refine O.nil ?_
    refine X.condF (.tmp rfl) ?_
    refine X.skip ?_
    refine X.seq ?_
    refine X.still ?_
    refine O.pu (U.fieldA rfl rfl rfl (.tmp rfl)) ?_
    refine O.pu (U.load (.tmp rfl) rfl rfl (U.cell rfl rfl rfl)) ?_
    obtain ⟨q3,Hq3,h⟩:=Option.bind_eq_some_iff.1 h
    refine O.pu (U.call (ss:=[]) (.cons (.tmp (v:=.fi _ _) rfl) .nil) (.cons (.cl .fi) .nil) (chattelref01_Print.cs Hq3) (.inl rfl) (.str)) ?_
    refine O.pu (Pu.assign (.tmp (v:=.str _) rfl)) ?_
    refine O.nil ?_
    refine X.seq ?_
    refine X.still ?_
    refine O.pu (Pu.move (.tmp (v:=.str _) rfl)) ?_
    repeat (rw [giff] at h;obtain ⟨_,h⟩:=h)
    refine O.pu (Pu.bin (.tmp rfl) .str (U.sadd (by first|assumption|omega))) ?_
    refine O.pu (Pu.move (.tmp (v:=.str _) rfl)) ?_
    refine O.pu (Pu.bin (.tmp rfl) (.tmp rfl) (U.sadd (by first|assumption|omega))) ?_
    refine O.pu (Pu.assign (.tmp (v:=.str _) rfl)) ?_
    refine O.nil ?_
    refine X.ret ?_
    cases h
    exact E.fin [] (.tmp (v:=.str _) rfl .nil) (.cons (.cl .str) .nil)
noncomputable def c76:Code:=Tryz.f76.body.getD .skip
theorem fn76:FnOk Tryz.prog 76 Tryz.f76 c76:=⟨Tryz.func76,rfl,by kernel_rfl,by kernel_rfl,mixed⟩
theorem chattelref01_Small.cs {k:Nat} {a0:Int} {r:List Int} (h:chattelref01_Small.f k a0=some r):CS Tryz.prog 76 [.int .i64 a0] .no [.fi .i64 r]:=by
  unfold chattelref01_Small.f at h
  refine E.pure fn76 rfl ?_
  refine X.seq ?_
  refine X.still ?_
  refine O.pu (Pu.assign (.nilI (k:=.i64))) ?_
  refine O.nil ?_
  refine X.seq ?_
  refine X.still ?_
  refine O.ef (U.nilOE (u:=1) (row:=.ints .i64 []) (e:=3) rfl rfl) ?_
  refine O.nil ?_
  refine X.seq ?_
  refine X.block ?_
  refine X.inv (fun k s=>∃ x0 x3 n3 u3,s.t 0 = .int .i64 x0∧s.b 3=⟨u3, .own, .ints .i64 x3,3⟩∧s.t 3 = .os 3 u3 0 n3 true∧x3.length=n3∧chattelref01_Small.l0 k x0 x3=some r) ?_ ?_ ⟨_,_,_,_,rfl,rfl,rfl,rfl,h⟩
  · rintro s ⟨_,_,_,_,_,_,_,_,h⟩;unfold chattelref01_Small.l0 at h;cases h
  · rintro k1 s1 ⟨x0,x3,n3,u3,e0,e1,e2,rfl,h⟩
    unfold chattelref01_Small.l0 at h
    rw [St.fixT e0,St.fixB e1,St.fixT e2]
    refine X.seq ?_
    refine X.seq ?_
    refine X.still ?_
    refine O.pu (Pu.move (.tmp (v:=.int _ _) rfl)) ?_
    refine O.pu (Pu.bin (.tmp rfl) .int .gtr) ?_
    refine O.nil ?_
    refine X.condP (.tmp rfl) (fun c=>?_) (fun c=>?_)
    · rw [if_pos c] at h
      refine X.skip ?_
      refine X.block ?_
      refine X.seq ?_
      refine X.still ?_
      refine O.pu (Pu.move (.tmp (v:=.os _ _ _ _ _) rfl)) ?_
      refine O.pu (Pu.move (.tmp (v:=.int _ _) rfl)) ?_
      repeat (rw [giff] at h;obtain ⟨_,h⟩:=h)
      refine O.pu (Pu.bin (.tmp rfl) .int (.rem (by omega))) ?_
      refine O.puE (v':=.os 9 ((s1.b 9).ver + 1) 0 _ true) (b':=⟨(s1.b 9).ver + 1, .own,_,_⟩) (U.litI rfl rfl (.cons (.tmp (v:=.int _ _) rfl) .nil) rfl rfl) rfl rfl ?_
      refine O.ef (U.appendE (u':=(s1.b 10).ver + 1) rfl rfl (.tmp rfl) rfl (by first|rfl|(simp only [List.length_set];done)|(simp only [List.length_drop,List.length_take,List.length_append,List.length_set] at *;omega)) (.tmp rfl) (.osIf (List.mem_singleton.2 rfl) rfl (Mode.live_ne rfl) rfl (by first|rfl|(simp only [List.length_set];done)|(simp only [List.length_drop,List.length_take,List.length_append,List.length_set] at *;omega))) rfl (by first|exact Nat.le_of_lt (by assumption)|(simp only [List.length_cons,List.length_nil];omega)) rfl) ?_
      refine O.ef (U.takeE (u':=u3 + 1) (.tmp rfl) rfl (ne_of_beq rfl) rfl) ?_
      refine O.nil ?_
      refine X.still ?_
      refine O.pu (Pu.move (.tmp (v:=.int _ _) rfl)) ?_
      refine O.pu (Pu.bin (.tmp rfl) .int (U.quo64 (by omega))) ?_
      refine O.pu (Pu.assign (.tmp (v:=.int _ _) rfl)) ?_
      refine O.nil ?_
      exact ⟨_,(by omega),_,_,_,_,rfl,rfl,rfl,(by first|rfl|(simp only [List.length_set];done)|(simp only [List.length_drop,List.length_take,List.length_append,List.length_set] at *;omega)),h⟩
    · rw [if_neg c] at h
      refine X.exit (B.out ?_)
      refine X.seq ?_
      refine X.still ?_
      refine O.pu (Pu.move (.tmp (v:=.os _ _ _ _ _) rfl)) ?_
      refine O.pu (Pu.assign (.tmp (v:=.os _ _ _ _ _) rfl)) ?_
      refine O.nil ?_
      refine X.ret ?_
      cases h
      exact E.fin [3] (.tmp (v:=.os _ _ _ _ _) rfl .nil) (.cons (.osIf (by simp) rfl (Mode.live_ne rfl) rfl (by first|rfl|(simp only [List.length_set];done)|(simp only [List.length_drop,List.length_take,List.length_append,List.length_set] at *;omega))) .nil)
noncomputable def c77:Code:=Tryz.f77.body.getD .skip
theorem fn77:FnOk Tryz.prog 77 Tryz.f77 c77:=⟨Tryz.func77,rfl,by kernel_rfl,by kernel_rfl,mixed⟩
theorem chattelref04_Of.cs {l0:List Int} {a1:Bool} {r:List Int×Bool} (h:chattelref04_Of.f l0 a1=some r):CS Tryz.prog 77 [.fi .i64 l0, .bool a1] .no [.agg [.fi .i64 r.1, .bool r.2]]:=by
  unfold chattelref04_Of.f at h
  refine E.pure fn77 rfl ?_
  refine X.seq ?_
  refine X.still ?_
  refine O.puE (v':=.op 4 (1) 0 0) (b':=⟨1, .own,(.vals [.agg [.fi .i64 [], .bool false]]),_⟩) Pu.alloc rfl rfl ?_
  refine O.nil ?_
  refine X.seq ?_
  refine X.still ?_
  refine O.pu (Pu.move (.tmp (v:=.fi _ _) rfl)) ?_
  refine O.pu (Pu.move (.tmp (v:=.bool _) rfl)) ?_
  refine O.pu (Pu.move (.tmp (v:=.bool _) rfl)) ?_
  refine O.split (fun c=>?_) (fun c=>?_)
  · rw [if_pos c] at h
    refine G.pu (W.t rfl rfl) (Pu.move (.tmp (v:=.fi _ _) rfl)) ?_
    refine G.pu (W.t rfl rfl) (Pu.lenI rfl (.tmp rfl)) ?_
    refine G.pu (W.t rfl rfl) (Pu.bin (.tmp rfl) .int .gtr) ?_
    refine O.pu (Pu.pickT (.tmp rfl) (.tmp (v:=.bool _) rfl)) ?_
    refine O.pu (Pu.build rfl (.cons (.tmp (v:=.fi _ _) rfl) rfl rfl rfl (.put .done) (.cons (.tmp (v:=.bool _) rfl) rfl rfl rfl (.skip (.put .done)) .nil))) ?_
    refine O.ef0 (U.storeE (.tmp rfl) rfl rfl (.tmp (v:=.agg _) rfl) rfl rfl (.whole (notBad_ne rfl) rfl) .one) ?_
    refine O.nil ?_
    refine X.ret ?_
    cases h
    exact E.fin [] (.cell rfl rfl (Mode.live_ne rfl) (U.whole rfl rfl) .nil) (.cons (.cl (.aggL (.cons .fi (.cons .bool .nil)))) .nil)
  · rw [if_neg (bf c)] at h
    refine G.skip (W.f rfl rfl rfl) ?_
    refine G.skip (W.f rfl rfl rfl) ?_
    refine G.skip (W.f rfl rfl rfl) ?_
    refine O.pu (Pu.pickF (.tmp rfl) .bool) ?_
    refine O.pu (Pu.build rfl (.cons (.tmp (v:=.fi _ _) rfl) rfl rfl rfl (.put .done) (.cons (.tmp (v:=.bool _) rfl) rfl rfl rfl (.skip (.put .done)) .nil))) ?_
    refine O.ef0 (U.storeE (.tmp rfl) rfl rfl (.tmp (v:=.agg _) rfl) rfl rfl (.whole (notBad_ne rfl) rfl) .one) ?_
    refine O.nil ?_
    refine X.ret ?_
    cases h
    exact E.fin [] (.cell rfl rfl (Mode.live_ne rfl) (U.whole rfl rfl) .nil) (.cons (.cl (.aggL (.cons .fi (.cons .bool .nil)))) .nil)
noncomputable def c49:Code:=Tryz.f49.body.getD .skip
theorem fn49:FnOk Tryz.prog 49 Tryz.f49 c49:=⟨Tryz.func49,rfl,by kernel_rfl,by kernel_rfl,mixed⟩
theorem chattelref04_From.cs {k:Nat} {a0:Int} {r:List Int×Bool} (h:chattelref04_From.f k a0=some r):CS Tryz.prog 49 [.int .i64 a0] .no [.agg [.fi .i64 r.1, .bool r.2]]:=by
  unfold chattelref04_From.f at h
  refine E.pure fn49 rfl ?_
  refine X.seq ?_
  refine X.still ?_
  refine O.puE (v':=.op 2 (1) 0 0) (b':=⟨1, .own,(.vals [.agg [.fi .i64 [], .bool false]]),_⟩) Pu.alloc rfl rfl ?_
  refine O.nil ?_
  refine X.seq ?_
  refine X.seq ?_
  refine X.still ?_
  refine O.pu (Pu.move (.tmp (v:=.int _ _) rfl)) ?_
  refine O.pu (Pu.bin (.tmp rfl) .int .lss) ?_
  refine O.nil ?_
  refine X.condP (.tmp rfl) (fun c=>?_) (fun c=>?_)
  · rw [if_pos c] at h
    refine X.seq ?_
    refine X.still ?_
    refine O.pu (Pu.move (.tmp (v:=.int _ _) rfl)) ?_
    refine O.pu (Pu.un (.tmp rfl) U.neg64) ?_
    obtain ⟨q1,Hq1,h⟩:=Option.bind_eq_some_iff.1 h
    refine O.pu (U.call (ss:=[]) (.cons (.tmp (v:=.int _ _) rfl) .nil) (.cons (.cl .int) .nil) (chattelref01_Small.cs Hq1) (.inl rfl) (.fi)) ?_
    refine O.pu (Pu.assign (.tmp (v:=.fi _ _) rfl)) ?_
    refine O.nil ?_
    refine X.seq ?_
    refine X.still ?_
    refine O.pu (Pu.move (.tmp (v:=.fi _ _) rfl)) ?_
    obtain ⟨q2,Hq2,h⟩:=Option.bind_eq_some_iff.1 h
    refine O.pu (U.call (ss:=[]) (.cons (.tmp (v:=.fi _ _) rfl) (.cons .bool .nil)) (.cons (.cl .fi) (.cons (.cl .bool) .nil)) (chattelref04_Of.cs Hq2) (.inl rfl) (.aggL (.cons .fi (.cons .bool .nil)))) ?_
    refine O.ef0 (U.storeE (.tmp rfl) rfl rfl (.tmp (v:=.agg _) rfl) rfl rfl (.whole (notBad_ne rfl) rfl) .one) ?_
    refine O.nil ?_
    refine X.ret ?_
    cases h
    exact E.fin [] (.cell rfl rfl (Mode.live_ne rfl) (U.whole rfl rfl) .nil) (.cons (.cl (.aggL (.cons .fi (.cons .bool .nil)))) .nil)
  · rw [if_neg c] at h
    refine X.skip ?_
    refine X.seq ?_
    refine X.still ?_
    refine O.pu (Pu.move (.tmp (v:=.int _ _) rfl)) ?_
    obtain ⟨q3,Hq3,h⟩:=Option.bind_eq_some_iff.1 h
    refine O.pu (U.call (ss:=[]) (.cons (.tmp (v:=.int _ _) rfl) .nil) (.cons (.cl .int) .nil) (chattelref01_Small.cs Hq3) (.inl rfl) (.fi)) ?_
    refine O.pu (Pu.assign (.tmp (v:=.fi _ _) rfl)) ?_
    refine O.nil ?_
    refine X.seq ?_
    refine X.still ?_
    refine O.pu (Pu.move (.tmp (v:=.fi _ _) rfl)) ?_
    obtain ⟨q4,Hq4,h⟩:=Option.bind_eq_some_iff.1 h
    refine O.pu (U.call (ss:=[]) (.cons (.tmp (v:=.fi _ _) rfl) (.cons .bool .nil)) (.cons (.cl .fi) (.cons (.cl .bool) .nil)) (chattelref04_Of.cs Hq4) (.inl rfl) (.aggL (.cons .fi (.cons .bool .nil)))) ?_
    refine O.ef0 (U.storeE (.tmp rfl) rfl rfl (.tmp (v:=.agg _) rfl) rfl rfl (.whole (notBad_ne rfl) rfl) .one) ?_
    refine O.nil ?_
    refine X.ret ?_
    cases h
    exact E.fin [] (.cell rfl rfl (Mode.live_ne rfl) (U.whole rfl rfl) .nil) (.cons (.cl (.aggL (.cons .fi (.cons .bool .nil)))) .nil)
noncomputable def c83:Code:=Tryz.f83.body.getD .skip
theorem fn83:FnOk Tryz.prog 83 Tryz.f83 c83:=⟨Tryz.func83,rfl,by kernel_rfl,by kernel_rfl,mixed⟩
theorem chattelref01_at.cs {l0:List Int} {a1:Int} {r:Int} (h:chattelref01_at.f l0 a1=some r):CS Tryz.prog 83 [.fi .i64 l0, .int .i64 a1] .no [.int .i64 r]:=by
  unfold chattelref01_at.f at h
  refine E.pure fn83 rfl ?_
  refine X.seq ?_
  refine X.still ?_
  refine O.pu (Pu.assign .int) ?_
  refine O.nil ?_
  refine X.seq ?_
  refine X.seq ?_
  refine X.still ?_
  refine O.pu (Pu.move (.tmp (v:=.int _ _) rfl)) ?_
  refine O.pu (Pu.move (.tmp (v:=.fi _ _) rfl)) ?_
  refine O.pu (Pu.lenI rfl (.tmp rfl)) ?_
  refine O.pu (Pu.bin (.tmp rfl) (.tmp rfl) .geq) ?_
  refine O.nil ?_
  refine X.condP (.tmp rfl) (fun c=>?_) (fun c=>?_)
  · rw [if_pos c] at h
    refine X.seq ?_
    refine X.still ?_
    refine O.pu (Pu.assign .int) ?_
    refine O.nil ?_
    refine X.ret ?_
    cases h
    exact E.fin [] (.tmp (v:=.int _ _) rfl .nil) (.cons (.cl .int) .nil)
  · rw [if_neg c] at h
    refine X.skip ?_
    refine X.seq ?_
    refine X.still ?_
    refine O.pu (Pu.move (.tmp (v:=.fi _ _) rfl)) ?_
    refine O.pu (Pu.move (.tmp (v:=.int _ _) rfl)) ?_
    repeat (rw [giff] at h;obtain ⟨_,h⟩:=h)
    refine O.pu (U.rdI rfl rfl (.tmp rfl) (.tmp rfl) (by omega) (by omega)) ?_
    refine O.pu (Pu.loadR (.tmp rfl) (U.self rfl rfl rfl)) ?_
    refine O.pu (Pu.assign (.tmp (v:=.int _ _) rfl)) ?_
    refine O.nil ?_
    refine X.ret ?_
    cases h
    exact E.fin [] (.tmp (v:=.int _ _) rfl .nil) (.cons (.cl .int) .nil)
noncomputable def c84:Code:=Tryz.f84.body.getD .skip
theorem fn84:FnOk Tryz.prog 84 Tryz.f84 c84:=⟨Tryz.func84,rfl,by kernel_rfl,by kernel_rfl,mixed⟩
theorem chattelref01_Trim.cs {k:Nat} {l0:List Int} {r:List Int} (h:chattelref01_Trim.f k l0=some r):CS Tryz.prog 84 [.fi .i64 l0] .no [.fi .i64 r]:=by
  unfold chattelref01_Trim.f at h
  refine E.pure fn84 rfl ?_
  refine X.seq ?_
  refine X.still ?_
  refine O.pu (Pu.assign (.nilI (k:=.i64))) ?_
  refine O.nil ?_
  refine X.seq ?_
  refine X.still ?_
  refine O.pu (Pu.move (.tmp (v:=.fi _ _) rfl)) ?_
  refine O.pu (Pu.lenI rfl (.tmp rfl)) ?_
  refine O.pu (Pu.assign (.tmp (v:=.int _ _) rfl)) ?_
  refine O.nil ?_
  refine X.seq ?_
  refine X.block ?_
  refine X.inv (fun k s=>∃ x0 x3,s.t 0 = .fi .i64 x0∧s.t 3 = .int .i64 x3∧chattelref01_Trim.l0 k x0 x3=some r) ?_ ?_ ⟨_,_,rfl,rfl,h⟩
  · rintro s ⟨_,_,_,_,h⟩;unfold chattelref01_Trim.l0 at h;cases h
  · rintro k1 s1 ⟨x0,x3,e0,e1,h⟩
    unfold chattelref01_Trim.l0 at h
    rw [St.fixT e0,St.fixT e1]
    refine X.seq ?_
    refine X.seq ?_
    refine X.still ?_
    refine O.pu (Pu.move (.tmp (v:=.int _ _) rfl)) ?_
    refine O.pu (Pu.bin (.tmp rfl) .int .gtr) ?_
    refine O.pu (Pu.move (.tmp (v:=.bool _) rfl)) ?_
    refine O.splitP (fun c=>?_) (fun c=>?_)
    · rw [if_pos c] at h
      refine G.pu (W.t rfl rfl) (Pu.move (.tmp (v:=.fi _ _) rfl)) ?_
      refine G.pu (W.t rfl rfl) (Pu.move (.tmp (v:=.int _ _) rfl)) ?_
      refine G.pu (W.t rfl rfl) (Pu.bin (.tmp rfl) .int U.sub64) ?_
      repeat (rw [giff] at h;obtain ⟨_,h⟩:=h)
      refine G.pu (W.t rfl rfl) (U.rdI rfl rfl (.tmp rfl) (.tmp rfl) (by omega) (by omega)) ?_
      refine G.pu (W.t rfl rfl) (Pu.loadR (.tmp rfl) (U.self rfl rfl rfl)) ?_
      refine G.pu (W.t rfl rfl) (Pu.bin (.tmp rfl) .int .eql) ?_
      refine O.pu (Pu.pickT (.tmp rfl) (.tmp (v:=.bool _) rfl)) ?_
      refine O.nil ?_
      refine X.condE (.tmp rfl) (fun c=>?_) (fun c=>?_)
      · rw [if_pos c] at h
        refine X.skip ?_
        refine X.block ?_
        refine X.still ?_
        refine O.pu (Pu.move (.tmp (v:=.int _ _) rfl)) ?_
        refine O.pu (Pu.bin (.tmp rfl) .int U.sub64) ?_
        refine O.pu (Pu.assign (.tmp (v:=.int _ _) rfl)) ?_
        refine O.nil ?_
        exact ⟨_,(by omega),_,_,rfl,rfl,h⟩
      · rw [if_neg c] at h
        refine X.exit (B.out ?_)
        refine X.seq ?_
        refine X.still ?_
        refine O.pu (Pu.move (.tmp (v:=.fi _ _) rfl)) ?_
        refine O.pu (Pu.move (.tmp (v:=.int _ _) rfl)) ?_
        repeat (rw [giff] at h;obtain ⟨_,h⟩:=h)
        refine O.pu (U.sliceH rfl rfl (.tmp rfl) .no (.yes (.tmp rfl) (by omega)) .no (by omega) (by omega)) ?_
        refine O.pu (Pu.assign (.tmp (v:=.fi _ _) rfl)) ?_
        refine O.nil ?_
        refine X.ret ?_
        cases h
        exact E.fin [] (.tmp (v:=.fi _ _) rfl .nil) (.cons (.cl .fi) .nil)
    · rw [if_neg c] at h
      refine G.skip (W.f rfl rfl rfl) ?_
      refine G.skip (W.f rfl rfl rfl) ?_
      refine G.skip (W.f rfl rfl rfl) ?_
      refine G.skip (W.f rfl rfl rfl) ?_
      refine G.skip (W.f rfl rfl rfl) ?_
      refine G.skip (W.f rfl rfl rfl) ?_
      refine O.pu (Pu.pickF (.tmp rfl) .bool) ?_
      refine O.nil ?_
      refine X.condF (.tmp rfl) ?_
      refine X.exit (B.out ?_)
      refine X.seq ?_
      refine X.still ?_
      refine O.pu (Pu.move (.tmp (v:=.fi _ _) rfl)) ?_
      refine O.pu (Pu.move (.tmp (v:=.int _ _) rfl)) ?_
      repeat (rw [giff] at h;obtain ⟨_,h⟩:=h)
      refine O.pu (U.sliceH rfl rfl (.tmp rfl) .no (.yes (.tmp rfl) (by omega)) .no (by omega) (by omega)) ?_
      refine O.pu (Pu.assign (.tmp (v:=.fi _ _) rfl)) ?_
      refine O.nil ?_
      refine X.ret ?_
      cases h
      exact E.fin [] (.tmp (v:=.fi _ _) rfl .nil) (.cons (.cl .fi) .nil)
noncomputable def c53:Code:=Tryz.f53.body.getD .skip
theorem fn53:FnOk Tryz.prog 53 Tryz.f53 c53:=⟨Tryz.func53,rfl,by kernel_rfl,by kernel_rfl,mixed⟩
theorem chattelref01_Mul.cs {k:Nat} {l0:List Int} {l1:List Int} {r:List Int} (h:chattelref01_Mul.f k l0 l1=some r):CS Tryz.prog 53 [.fi .i64 l0, .fi .i64 l1] .no [.fi .i64 r]:=by
  unfold chattelref01_Mul.f at h
  refine E.pure fn53 rfl ?_
  refine X.seq ?_
  refine X.still ?_
  refine O.pu (Pu.assign (.nilI (k:=.i64))) ?_
  refine O.nil ?_
  refine X.seq ?_
  refine X.still ?_
  refine O.pu (Pu.move (.tmp (v:=.fi _ _) rfl)) ?_
  refine O.pu (Pu.lenI rfl (.tmp rfl)) ?_
  refine O.pu (Pu.move (.tmp (v:=.fi _ _) rfl)) ?_
  refine O.pu (Pu.lenI rfl (.tmp rfl)) ?_
  refine O.pu (Pu.bin (.tmp rfl) (.tmp rfl) U.add64) ?_
  refine O.pu (Pu.bin (.tmp rfl) .int U.add64) ?_
  repeat (rw [giff] at h;obtain ⟨_,h⟩:=h)
  refine O.puE (v':=.os 17 (1) 0 _ true) (b':=⟨1, .own,_,_⟩) (U.makeI rfl rfl (.tmp rfl) (.tmp rfl) (by omega) (by omega) rfl (by omega)) rfl rfl ?_
  refine O.pu (Pu.assign (.tmp (v:=.os _ _ _ _ _) rfl)) ?_
  refine O.nil ?_
  refine X.seq ?_
  refine X.seq ?_
  refine X.still ?_
  refine O.pu (Pu.assign .int) ?_
  refine O.nil ?_
  refine X.block ?_
  refine X.inv (fun k s=>∃ x0 x1 x5 x6 n5 u17,s.t 0 = .fi .i64 x0∧s.t 1 = .fi .i64 x1∧s.b 17=⟨u17, .own, .ints .i64 x5,3⟩∧s.t 5 = .os 17 u17 0 n5 true∧x5.length=n5∧s.t 6 = .int .i64 x6∧chattelref01_Mul.l0 k x0 x1 x5 x6=some r) ?_ ?_ ⟨_,_,_,_,_,_,rfl,rfl,rfl,rfl,rfl,rfl,h⟩
  · rintro s ⟨_,_,_,_,_,_,_,_,_,_,_,_,h⟩;unfold chattelref01_Mul.l0 at h;cases h
  · rintro k1 s1 ⟨x0,x1,x5,x6,n5,u17,e0,e1,e2,e3,rfl,e5,h⟩
    unfold chattelref01_Mul.l0 at h
    rw [St.fixT e0,St.fixT e1,St.fixB e2,St.fixT e3,St.fixT e5]
    refine X.seq ?_
    refine X.seq ?_
    refine X.still ?_
    refine O.pu (Pu.move (.tmp (v:=.int _ _) rfl)) ?_
    refine O.pu (Pu.move (.tmp (v:=.fi _ _) rfl)) ?_
    refine O.pu (Pu.lenI rfl (.tmp rfl)) ?_
    refine O.pu (Pu.bin (.tmp rfl) (.tmp rfl) .lss) ?_
    refine O.nil ?_
    refine X.condP (.tmp rfl) (fun c=>?_) (fun c=>?_)
    · rw [if_pos c] at h
      refine X.skip ?_
      refine X.seq ?_
      refine X.block ?_
      refine X.seq ?_
      refine X.still ?_
      refine O.pu (Pu.assign .int) ?_
      refine O.nil ?_
      refine X.seq ?_
      refine X.still ?_
      refine O.pu (Pu.assign .int) ?_
      refine O.nil ?_
      refine X.block ?_
      refine X.inv (fun k s=>k≤k1∧∃ x0 x1 x5 x6 x7 x8 n5 u17,s.t 0 = .fi .i64 x0∧s.t 1 = .fi .i64 x1∧s.b 17=⟨u17, .own, .ints .i64 x5,3⟩∧s.t 5 = .os 17 u17 0 n5 true∧x5.length=n5∧s.t 6 = .int .i64 x6∧s.t 7 = .int .i64 x7∧s.t 8 = .int .i64 x8∧chattelref01_Mul.l1 k x0 x1 x5 x6 x7 x8=some r) ?_ ?_ ⟨(by omega),_,_,_,_,_,_,_,_,rfl,rfl,rfl,rfl,(by first|rfl|(simp only [List.length_set];done)|(simp only [List.length_drop,List.length_take,List.length_append,List.length_set] at *;omega)),rfl,rfl,rfl,h⟩
      · rintro s ⟨_,_,_,_,_,_,_,_,_,_,_,_,_,_,_,_,_,h⟩;unfold chattelref01_Mul.l1 at h;cases h
      · rintro k2 s2 ⟨kl2,x0,x1,x5,x6,x7,x8,n5,u17,e0,e1,e2,e3,rfl,e5,e6,e7,h⟩
        unfold chattelref01_Mul.l1 at h
        rw [St.fixT e0,St.fixT e1,St.fixB e2,St.fixT e3,St.fixT e5,St.fixT e6,St.fixT e7]
        refine X.seq ?_
        refine X.seq ?_
        refine X.still ?_
        refine O.pu (Pu.move (.tmp (v:=.int _ _) rfl)) ?_
        refine O.pu (Pu.move (.tmp (v:=.fi _ _) rfl)) ?_
        refine O.pu (Pu.lenI rfl (.tmp rfl)) ?_
        refine O.pu (Pu.bin (.tmp rfl) (.tmp rfl) .lss) ?_
        refine O.pu (Pu.move (.tmp (v:=.bool _) rfl)) ?_
        refine O.splitP (fun c=>?_) (fun c=>?_)
        · rw [if_pos c] at h
          refine G.skip (W.f rfl rfl rfl) ?_
          refine G.skip (W.f rfl rfl rfl) ?_
          refine O.pu (Pu.pickT (.tmp rfl) .bool) ?_
          refine O.nil ?_
          refine X.condT (.tmp rfl) ?_
          refine X.skip ?_
          refine X.seq ?_
          refine X.block ?_
          refine X.seq ?_
          refine X.still ?_
          refine O.pu (Pu.move (.tmp (v:=.fi _ _) rfl)) ?_
          refine O.pu (Pu.move (.tmp (v:=.int _ _) rfl)) ?_
          obtain ⟨q1,Hq1,h⟩:=Option.bind_eq_some_iff.1 h
          refine O.pu (U.call (ss:=[]) (.cons (.tmp (v:=.fi _ _) rfl) (.cons (.tmp (v:=.int _ _) rfl) .nil)) (.cons (.cl .fi) (.cons (.cl .int) .nil)) (chattelref01_at.cs Hq1) (.inl rfl) (.int)) ?_
          refine O.pu (Pu.assign (.tmp (v:=.int _ _) rfl)) ?_
          refine O.nil ?_
          refine X.seq ?_
          refine X.drawn ?_
          refine D.pu (Pu.move (.tmp (v:=.os _ _ _ _ _) rfl)) ?_
          refine D.pu (Pu.move (.tmp (v:=.int _ _) rfl)) ?_
          refine D.pu (Pu.move (.tmp (v:=.int _ _) rfl)) ?_
          refine D.pu (Pu.bin (.tmp rfl) (.tmp rfl) U.add64) ?_
          repeat (rw [giff] at h;obtain ⟨_,h⟩:=h)
          refine D.pu (U.indexO0 rfl (.tmp rfl) rfl rfl (.tmp rfl) (by first|omega|(simp only [List.length_set] at *;omega)) (by first|omega|(simp only [List.length_set] at *;omega)) rfl rfl) ?_
          refine D.pu (U.rdO (.tmp rfl) rfl rfl rfl rfl rfl) ?_
          refine D.pu (Pu.move (.tmp (v:=.fi _ _) rfl)) ?_
          refine D.pu (Pu.move (.tmp (v:=.int _ _) rfl)) ?_
          refine D.pu (U.rdI rfl rfl (.tmp rfl) (.tmp rfl) (by omega) (by omega)) ?_
          refine D.pu (Pu.loadR (.tmp rfl) (U.self rfl rfl rfl)) ?_
          refine D.pu (Pu.move (.tmp (v:=.int _ _) rfl)) ?_
          refine D.pu (Pu.bin (.tmp rfl) (.tmp rfl) U.mul64) ?_
          refine D.pu (Pu.bin (.tmp rfl) (.tmp rfl) U.add64) ?_
          refine D.pu (Pu.move (.tmp (v:=.int _ _) rfl)) ?_
          refine D.pu (Pu.bin (.tmp rfl) (.tmp rfl) U.add64) ?_
          refine D.pu (Pu.assign (.tmp (v:=.int _ _) rfl)) ?_
          refine D.nil (by kernel_rfl) ?_
          refine X.seq ?_
          refine X.still ?_
          refine O.pu (Pu.move (.tmp (v:=.os _ _ _ _ _) rfl)) ?_
          refine O.pu (Pu.move (.tmp (v:=.int _ _) rfl)) ?_
          refine O.pu (Pu.move (.tmp (v:=.int _ _) rfl)) ?_
          refine O.pu (Pu.bin (.tmp rfl) (.tmp rfl) U.add64) ?_
          refine O.pu (Pu.move (.tmp (v:=.int _ _) rfl)) ?_
          refine O.pu (Pu.bin (.tmp rfl) .int (.rem (by omega))) ?_
          refine O.pu (U.indexO0 rfl (.tmp rfl) rfl rfl (.tmp rfl) (by first|omega|(simp only [List.length_set] at *;omega)) (by first|omega|(simp only [List.length_set] at *;omega)) rfl rfl) ?_
          refine O.ef0 (U.storeE (.tmp rfl) rfl rfl (.tmp (v:=.int _ _) rfl) rfl rfl (.whole (notBad_ne rfl) rfl) .ints) ?_
          refine O.nil ?_
          refine X.still ?_
          refine O.pu (Pu.move (.tmp (v:=.int _ _) rfl)) ?_
          refine O.pu (Pu.bin (.tmp rfl) .int (U.quo64 (by omega))) ?_
          refine O.pu (Pu.assign (.tmp (v:=.int _ _) rfl)) ?_
          refine O.nil ?_
          refine X.still ?_
          refine O.pu (Pu.move (.tmp (v:=.int _ _) rfl)) ?_
          refine O.pu (Pu.bin (.tmp rfl) .int U.add64) ?_
          refine O.pu (Pu.assign (.tmp (v:=.int _ _) rfl)) ?_
          refine O.nil ?_
          exact ⟨_,(by omega),(by omega),_,_,_,_,_,_,_,_,rfl,rfl,rfl,rfl,(by first|rfl|(simp only [List.length_set];done)|(simp only [List.length_drop,List.length_take,List.length_append,List.length_set] at *;omega)),rfl,rfl,rfl,h⟩
        · rw [if_neg c] at h
          refine G.pu (W.t rfl rfl) (Pu.move (.tmp (v:=.int _ _) rfl)) ?_
          refine G.pu (W.t rfl rfl) (Pu.bin (.tmp rfl) .int .gtr) ?_
          refine O.pu (Pu.pickF (.tmp rfl) (.tmp (v:=.bool _) rfl)) ?_
          refine O.nil ?_
          refine X.condP (.tmp rfl) (fun c=>?_) (fun c=>?_)
          · rw [if_pos c] at h
            refine X.skip ?_
            refine X.seq ?_
            refine X.block ?_
            refine X.seq ?_
            refine X.still ?_
            refine O.pu (Pu.move (.tmp (v:=.fi _ _) rfl)) ?_
            refine O.pu (Pu.move (.tmp (v:=.int _ _) rfl)) ?_
            obtain ⟨q2,Hq2,h⟩:=Option.bind_eq_some_iff.1 h
            refine O.pu (U.call (ss:=[]) (.cons (.tmp (v:=.fi _ _) rfl) (.cons (.tmp (v:=.int _ _) rfl) .nil)) (.cons (.cl .fi) (.cons (.cl .int) .nil)) (chattelref01_at.cs Hq2) (.inl rfl) (.int)) ?_
            refine O.pu (Pu.assign (.tmp (v:=.int _ _) rfl)) ?_
            refine O.nil ?_
            refine X.seq ?_
            refine X.drawn ?_
            refine D.pu (Pu.move (.tmp (v:=.os _ _ _ _ _) rfl)) ?_
            refine D.pu (Pu.move (.tmp (v:=.int _ _) rfl)) ?_
            refine D.pu (Pu.move (.tmp (v:=.int _ _) rfl)) ?_
            refine D.pu (Pu.bin (.tmp rfl) (.tmp rfl) U.add64) ?_
            repeat (rw [giff] at h;obtain ⟨_,h⟩:=h)
            refine D.pu (U.indexO0 rfl (.tmp rfl) rfl rfl (.tmp rfl) (by first|omega|(simp only [List.length_set] at *;omega)) (by first|omega|(simp only [List.length_set] at *;omega)) rfl rfl) ?_
            refine D.pu (U.rdO (.tmp rfl) rfl rfl rfl rfl rfl) ?_
            refine D.pu (Pu.move (.tmp (v:=.fi _ _) rfl)) ?_
            refine D.pu (Pu.move (.tmp (v:=.int _ _) rfl)) ?_
            refine D.pu (U.rdI rfl rfl (.tmp rfl) (.tmp rfl) (by omega) (by omega)) ?_
            refine D.pu (Pu.loadR (.tmp rfl) (U.self rfl rfl rfl)) ?_
            refine D.pu (Pu.move (.tmp (v:=.int _ _) rfl)) ?_
            refine D.pu (Pu.bin (.tmp rfl) (.tmp rfl) U.mul64) ?_
            refine D.pu (Pu.bin (.tmp rfl) (.tmp rfl) U.add64) ?_
            refine D.pu (Pu.move (.tmp (v:=.int _ _) rfl)) ?_
            refine D.pu (Pu.bin (.tmp rfl) (.tmp rfl) U.add64) ?_
            refine D.pu (Pu.assign (.tmp (v:=.int _ _) rfl)) ?_
            refine D.nil (by kernel_rfl) ?_
            refine X.seq ?_
            refine X.still ?_
            refine O.pu (Pu.move (.tmp (v:=.os _ _ _ _ _) rfl)) ?_
            refine O.pu (Pu.move (.tmp (v:=.int _ _) rfl)) ?_
            refine O.pu (Pu.move (.tmp (v:=.int _ _) rfl)) ?_
            refine O.pu (Pu.bin (.tmp rfl) (.tmp rfl) U.add64) ?_
            refine O.pu (Pu.move (.tmp (v:=.int _ _) rfl)) ?_
            refine O.pu (Pu.bin (.tmp rfl) .int (.rem (by omega))) ?_
            refine O.pu (U.indexO0 rfl (.tmp rfl) rfl rfl (.tmp rfl) (by first|omega|(simp only [List.length_set] at *;omega)) (by first|omega|(simp only [List.length_set] at *;omega)) rfl rfl) ?_
            refine O.ef0 (U.storeE (.tmp rfl) rfl rfl (.tmp (v:=.int _ _) rfl) rfl rfl (.whole (notBad_ne rfl) rfl) .ints) ?_
            refine O.nil ?_
            refine X.still ?_
            refine O.pu (Pu.move (.tmp (v:=.int _ _) rfl)) ?_
            refine O.pu (Pu.bin (.tmp rfl) .int (U.quo64 (by omega))) ?_
            refine O.pu (Pu.assign (.tmp (v:=.int _ _) rfl)) ?_
            refine O.nil ?_
            refine X.still ?_
            refine O.pu (Pu.move (.tmp (v:=.int _ _) rfl)) ?_
            refine O.pu (Pu.bin (.tmp rfl) .int U.add64) ?_
            refine O.pu (Pu.assign (.tmp (v:=.int _ _) rfl)) ?_
            refine O.nil ?_
            exact ⟨_,(by omega),(by omega),_,_,_,_,_,_,_,_,rfl,rfl,rfl,rfl,(by first|rfl|(simp only [List.length_set];done)|(simp only [List.length_drop,List.length_take,List.length_append,List.length_set] at *;omega)),rfl,rfl,rfl,h⟩
          · rw [if_neg c] at h
            refine X.exit (B.out ?_)
            refine X.still ?_
            refine O.pu (Pu.move (.tmp (v:=.int _ _) rfl)) ?_
            refine O.pu (Pu.bin (.tmp rfl) .int U.add64) ?_
            refine O.pu (Pu.assign (.tmp (v:=.int _ _) rfl)) ?_
            refine O.nil ?_
            exact ⟨_,(by omega),_,_,_,_,_,_,rfl,rfl,rfl,rfl,(by first|rfl|(simp only [List.length_set];done)|(simp only [List.length_drop,List.length_take,List.length_append,List.length_set] at *;omega)),rfl,h⟩
    · rw [if_neg c] at h
      refine X.exit (B.out ?_)
      refine X.seq ?_
      refine X.still ?_
      refine O.pu (Pu.move (.tmp (v:=.os _ _ _ _ _) rfl)) ?_
      obtain ⟨q3,Hq3,h⟩:=Option.bind_eq_some_iff.1 h
      refine O.ef (U.callZ (ss:=[17]) (.cons (.tmp (v:=.os _ _ _ _ _) rfl) .nil) (.cons (.osIf (by simp) rfl (Mode.live_ne rfl) rfl (by first|rfl|(simp only [List.length_set];done)|(simp only [List.length_drop,List.length_take,List.length_append,List.length_set] at *;omega))) .nil) (chattelref01_Trim.cs Hq3) (.fi) (nowin rfl)) ?_
      refine O.pu (Pu.assign (.tmp (v:=.fi _ _) rfl)) ?_
      refine O.nil ?_
      refine X.ret ?_
      cases h
      exact E.fin [] (.tmp (v:=.fi _ _) rfl .nil) (.cons (.cl .fi) .nil)
noncomputable def c81:Code:=Tryz.f81.body.getD .skip
theorem fn81:FnOk Tryz.prog 81 Tryz.f81 c81:=⟨Tryz.func81,rfl,by kernel_rfl,by kernel_rfl,mixed⟩
theorem chattelref01_Cmp.cs {k:Nat} {l0:List Int} {l1:List Int} {r:Int} (h:chattelref01_Cmp.f k l0 l1=some r):CS Tryz.prog 81 [.fi .i64 l0, .fi .i64 l1] .no [.int .i64 r]:=by
  unfold chattelref01_Cmp.f at h
  refine E.pure fn81 rfl ?_
  refine X.seq ?_
  refine X.still ?_
  refine O.pu (Pu.assign .int) ?_
  refine O.nil ?_
  refine X.seq ?_
  refine X.seq ?_
  refine X.still ?_
  refine O.pu (Pu.move (.tmp (v:=.fi _ _) rfl)) ?_
  refine O.pu (Pu.lenI rfl (.tmp rfl)) ?_
  refine O.pu (Pu.move (.tmp (v:=.fi _ _) rfl)) ?_
  refine O.pu (Pu.lenI rfl (.tmp rfl)) ?_
  refine O.pu (Pu.bin (.tmp rfl) (.tmp rfl) .neq) ?_
  refine O.nil ?_
  refine X.condN (.tmp rfl) (fun c=>?_) (fun c=>?_)
  · rw [if_neg c] at h
    refine X.seq ?_
    refine X.seq ?_
    refine X.still ?_
    refine O.pu (Pu.move (.tmp (v:=.fi _ _) rfl)) ?_
    refine O.pu (Pu.lenI rfl (.tmp rfl)) ?_
    refine O.pu (Pu.move (.tmp (v:=.fi _ _) rfl)) ?_
    refine O.pu (Pu.lenI rfl (.tmp rfl)) ?_
    refine O.pu (Pu.bin (.tmp rfl) (.tmp rfl) .lss) ?_
    refine O.nil ?_
    refine X.condP (.tmp rfl) (fun c=>?_) (fun c=>?_)
    · rw [if_pos c] at h
      refine X.seq ?_
      refine X.still ?_
      refine O.pu (Pu.assign .int) ?_
      refine O.nil ?_
      refine X.ret ?_
      cases h
      exact E.fin [] (.tmp (v:=.int _ _) rfl .nil) (.cons (.cl .int) .nil)
    · rw [if_neg c] at h
      refine X.skip ?_
      refine X.seq ?_
      refine X.still ?_
      refine O.pu (Pu.assign .int) ?_
      refine O.nil ?_
      refine X.ret ?_
      cases h
      exact E.fin [] (.tmp (v:=.int _ _) rfl .nil) (.cons (.cl .int) .nil)
  · rw [if_pos c] at h
    refine X.skip ?_
    refine X.seq ?_
    refine X.seq ?_
    refine X.still ?_
    refine O.pu (Pu.move (.tmp (v:=.fi _ _) rfl)) ?_
    refine O.pu (Pu.lenI rfl (.tmp rfl)) ?_
    refine O.pu (Pu.bin (.tmp rfl) .int U.sub64) ?_
    refine O.pu (Pu.assign (.tmp (v:=.int _ _) rfl)) ?_
    refine O.nil ?_
    refine X.block ?_
    refine X.inv (fun k s=>∃ x0 x1 x5,s.t 0 = .fi .i64 x0∧s.t 1 = .fi .i64 x1∧s.t 5 = .int .i64 x5∧chattelref01_Cmp.l0 k x0 x1 x5=some r) ?_ ?_ ⟨_,_,_,rfl,rfl,rfl,h⟩
    · rintro s ⟨_,_,_,_,_,_,h⟩;unfold chattelref01_Cmp.l0 at h;cases h
    · rintro k1 s1 ⟨x0,x1,x5,e0,e1,e2,h⟩
      unfold chattelref01_Cmp.l0 at h
      rw [St.fixT e0,St.fixT e1,St.fixT e2]
      refine X.seq ?_
      refine X.seq ?_
      refine X.still ?_
      refine O.pu (Pu.move (.tmp (v:=.int _ _) rfl)) ?_
      refine O.pu (Pu.bin (.tmp rfl) .int .geq) ?_
      refine O.nil ?_
      refine X.condP (.tmp rfl) (fun c=>?_) (fun c=>?_)
      · rw [if_pos c] at h
        refine X.skip ?_
        refine X.seq ?_
        refine X.block ?_
        refine X.seq ?_
        refine X.seq ?_
        refine X.drawn ?_
        refine D.pu (Pu.move (.tmp (v:=.fi _ _) rfl)) ?_
        refine D.pu (Pu.move (.tmp (v:=.int _ _) rfl)) ?_
        repeat (rw [giff] at h;obtain ⟨_,h⟩:=h)
        refine D.pu (U.rdI rfl rfl (.tmp rfl) (.tmp rfl) (by omega) (by omega)) ?_
        refine D.pu (Pu.loadR (.tmp rfl) (U.self rfl rfl rfl)) ?_
        refine D.pu (Pu.move (.tmp (v:=.fi _ _) rfl)) ?_
        refine D.pu (Pu.move (.tmp (v:=.int _ _) rfl)) ?_
        refine D.pu (U.rdI rfl rfl (.tmp rfl) (.tmp rfl) (by omega) (by omega)) ?_
        refine D.pu (Pu.loadR (.tmp rfl) (U.self rfl rfl rfl)) ?_
        refine D.pu (Pu.bin (.tmp rfl) (.tmp rfl) .lss) ?_
        refine D.nil (by kernel_rfl) ?_
        refine X.condP (.tmp rfl) (fun c=>?_) (fun c=>?_)
        · rw [if_pos c] at h
          refine X.seq ?_
          refine X.still ?_
          refine O.pu (Pu.assign .int) ?_
          refine O.nil ?_
          refine X.ret ?_
          cases h
          exact E.fin [] (.tmp (v:=.int _ _) rfl .nil) (.cons (.cl .int) .nil)
        · rw [if_neg c] at h
          refine X.skip ?_
          refine X.seq ?_
          refine X.drawn ?_
          refine D.pu (Pu.move (.tmp (v:=.fi _ _) rfl)) ?_
          refine D.pu (Pu.move (.tmp (v:=.int _ _) rfl)) ?_
          refine D.pu (U.rdI rfl rfl (.tmp rfl) (.tmp rfl) (by omega) (by omega)) ?_
          refine D.pu (Pu.loadR (.tmp rfl) (U.self rfl rfl rfl)) ?_
          refine D.pu (Pu.move (.tmp (v:=.fi _ _) rfl)) ?_
          refine D.pu (Pu.move (.tmp (v:=.int _ _) rfl)) ?_
          refine D.pu (U.rdI rfl rfl (.tmp rfl) (.tmp rfl) (by omega) (by omega)) ?_
          refine D.pu (Pu.loadR (.tmp rfl) (U.self rfl rfl rfl)) ?_
          refine D.pu (Pu.bin (.tmp rfl) (.tmp rfl) .gtr) ?_
          refine D.nil (by kernel_rfl) ?_
          refine X.condP (.tmp rfl) (fun c=>?_) (fun c=>?_)
          · rw [if_pos c] at h
            refine X.seq ?_
            refine X.still ?_
            refine O.pu (Pu.assign .int) ?_
            refine O.nil ?_
            refine X.ret ?_
            cases h
            exact E.fin [] (.tmp (v:=.int _ _) rfl .nil) (.cons (.cl .int) .nil)
          · rw [if_neg c] at h
            refine X.skip ?_
            refine X.still ?_
            refine O.pu (Pu.move (.tmp (v:=.int _ _) rfl)) ?_
            refine O.pu (Pu.bin (.tmp rfl) .int U.sub64) ?_
            refine O.pu (Pu.assign (.tmp (v:=.int _ _) rfl)) ?_
            refine O.nil ?_
            exact ⟨_,(by omega),_,_,_,rfl,rfl,rfl,h⟩
      · rw [if_neg c] at h
        refine X.exit (B.out ?_)
        refine X.seq ?_
        refine X.still ?_
        refine O.pu (Pu.assign .int) ?_
        refine O.nil ?_
        refine X.ret ?_
        cases h
        exact E.fin [] (.tmp (v:=.int _ _) rfl .nil) (.cons (.cl .int) .nil)
end Go.Proofs.YtlfdghofoobkmaaGreat
end
