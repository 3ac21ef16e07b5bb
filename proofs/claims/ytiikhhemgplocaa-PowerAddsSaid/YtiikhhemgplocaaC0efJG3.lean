-- Joined of: G70 G94 G95 G89 G88 G71 G82 G58 G30 G8 G32 G74 G48 G33 G10 G11 G34 G13 G14 G9 V25 K32T K76 G39 G38 G15 G46 G52 G43 G44 G47 G19 G24 G56 G26 K26 G21 G25 G18 G79 G53 G23
import Derived.Test.YtiikhhemgplocaaC0efJG2
import Derived.Test.YtiikhhemgplocaaC0efB
import Derived.Test.YtiikhhemgplocaaC0efD
section
namespace Go.Proofs.Ytiikhhemgplocaa
open Go.AVL Go.RowKit Go.Proofs.Ytiikhhemgplocaa.F Go.Proofs.YtiikhhemgplocaaX Go.Proofs.YtiikhhemgplocaaW.PrintWords Go.Proofs.YtiikhhemgplocaaW.PrintLast Go.Proofs.YtiikhhemgplocaaW.PrintMore
set_option linter.unusedVariables false
set_option linter.unusedSimpArgs false
set_option maxRecDepth 100000
set_option maxHeartbeats 16000000
noncomputable def c70:Code:=Try.f70.body.getD .skip
theorem fn70:FnOk Try.prog 70 Try.f70 c70:=⟨Try.func70,rfl,by kernel_rfl,by kernel_rfl,mixed⟩
theorem chattelref01_Mul.cs {k:Nat} {l0:List Int} {l1:List Int} {r:List Int} (h:chattelref01_Mul.f k l0 l1=some r):CS Try.prog 70 [.fi .i64 l0, .fi .i64 l1] .no [.fi .i64 r]:=by
  unfold chattelref01_Mul.f at h
  refine E.pure fn70 rfl ?_
  refine X.seq ?_
  refine X.still ?_
  refine O.pu (Pu.assign (.nilI (k:=.i64))) ?_
  refine O.nil ?_
  refine X.seq ?_
  refine X.still ?_
  refine O.pu (Pu.move (.tmp (v:=.fi _ _) rfl)) ?_
  refine O.pu (Pu.lenI rfl (.tmp rfl)) ?_
  refine O.pu (Pu.move (.tmp (v:=.fi _ _) rfl)) ?_
  refine O.pu (Pu.lenI rfl (.tmp rfl)) ?_
  refine O.pu (Pu.bin (.tmp rfl) (.tmp rfl) U.add64) ?_
  refine O.pu (Pu.bin (.tmp rfl) .int U.add64) ?_
  repeat (rw [giff] at h;obtain ⟨_,h⟩:=h)
  refine O.puE (v':=.os 17 (1) 0 _ true) (b':=⟨1, .own,_,_⟩) (U.makeI rfl rfl (.tmp rfl) (.tmp rfl) (by omega) (by omega) rfl (by omega)) rfl rfl ?_
  refine O.pu (Pu.assign (.tmp (v:=.os _ _ _ _ _) rfl)) ?_
  refine O.nil ?_
  refine X.seq ?_
  refine X.seq ?_
  refine X.still ?_
  refine O.pu (Pu.assign .int) ?_
  refine O.nil ?_
  refine X.block ?_
  refine X.inv (fun k s=>∃ x0 x1 x5 x6 n5 u17,s.t 0 = .fi .i64 x0∧s.t 1 = .fi .i64 x1∧s.b 17=⟨u17, .own, .ints .i64 x5,3⟩∧s.t 5 = .os 17 u17 0 n5 true∧x5.length=n5∧s.t 6 = .int .i64 x6∧chattelref01_Mul.l0 k x0 x1 x5 x6=some r) ?_ ?_ ⟨_,_,_,_,_,_,rfl,rfl,rfl,rfl,rfl,rfl,h⟩
  · rintro s ⟨_,_,_,_,_,_,_,_,_,_,_,_,h⟩;unfold chattelref01_Mul.l0 at h;cases h
  · rintro k1 s1 ⟨x0,x1,x5,x6,n5,u17,e0,e1,e2,e3,rfl,e5,h⟩
    unfold chattelref01_Mul.l0 at h
    rw [St.fixT e0,St.fixT e1,St.fixB e2,St.fixT e3,St.fixT e5]
    refine X.seq ?_
    refine X.seq ?_
    refine X.still ?_
    refine O.pu (Pu.move (.tmp (v:=.int _ _) rfl)) ?_
    refine O.pu (Pu.move (.tmp (v:=.fi _ _) rfl)) ?_
    refine O.pu (Pu.lenI rfl (.tmp rfl)) ?_
    refine O.pu (Pu.bin (.tmp rfl) (.tmp rfl) .lss) ?_
    refine O.nil ?_
    refine X.condP (.tmp rfl) (fun c=>?_) (fun c=>?_)
    · rw [if_pos c] at h
      refine X.skip ?_
      refine X.seq ?_
      refine X.block ?_
      refine X.seq ?_
      refine X.still ?_
      refine O.pu (Pu.assign .int) ?_
      refine O.nil ?_
      refine X.seq ?_
      refine X.still ?_
      refine O.pu (Pu.assign .int) ?_
      refine O.nil ?_
      refine X.block ?_
      refine X.inv (fun k s=>k≤k1∧∃ x0 x1 x5 x6 x7 x8 n5 u17,s.t 0 = .fi .i64 x0∧s.t 1 = .fi .i64 x1∧s.b 17=⟨u17, .own, .ints .i64 x5,3⟩∧s.t 5 = .os 17 u17 0 n5 true∧x5.length=n5∧s.t 6 = .int .i64 x6∧s.t 7 = .int .i64 x7∧s.t 8 = .int .i64 x8∧chattelref01_Mul.l1 k x0 x1 x5 x6 x7 x8=some r) ?_ ?_ ⟨(by omega),_,_,_,_,_,_,_,_,rfl,rfl,rfl,rfl,(by first|rfl|(simp only [List.length_set];done)|(simp only [List.length_drop,List.length_take,List.length_append,List.length_set] at *;omega)),rfl,rfl,rfl,h⟩
      · rintro s ⟨_,_,_,_,_,_,_,_,_,_,_,_,_,_,_,_,_,h⟩;unfold chattelref01_Mul.l1 at h;cases h
      · rintro k2 s2 ⟨kl2,x0,x1,x5,x6,x7,x8,n5,u17,e0,e1,e2,e3,rfl,e5,e6,e7,h⟩
        unfold chattelref01_Mul.l1 at h
        rw [St.fixT e0,St.fixT e1,St.fixB e2,St.fixT e3,St.fixT e5,St.fixT e6,St.fixT e7]
        refine X.seq ?_
        refine X.seq ?_
        refine X.still ?_
        refine O.pu (Pu.move (.tmp (v:=.int _ _) rfl)) ?_
        refine O.pu (Pu.move (.tmp (v:=.fi _ _) rfl)) ?_
        refine O.pu (Pu.lenI rfl (.tmp rfl)) ?_
        refine O.pu (Pu.bin (.tmp rfl) (.tmp rfl) .lss) ?_
        refine O.pu (Pu.move (.tmp (v:=.bool _) rfl)) ?_
        refine O.splitP (fun c=>?_) (fun c=>?_)
        · rw [if_pos c] at h
          refine G.skip (W.f rfl rfl rfl) ?_
          refine G.skip (W.f rfl rfl rfl) ?_
          refine O.pu (Pu.pickT (.tmp rfl) .bool) ?_
          refine O.nil ?_
          refine X.condT (.tmp rfl) ?_
          refine X.skip ?_
          refine X.seq ?_
          refine X.block ?_
          refine X.seq ?_
          refine X.still ?_
          refine O.pu (Pu.move (.tmp (v:=.fi _ _) rfl)) ?_
          refine O.pu (Pu.move (.tmp (v:=.int _ _) rfl)) ?_
          obtain ⟨q1,Hq1,h⟩:=Option.bind_eq_some_iff.1 h
          refine O.pu (U.call (ss:=[]) (.cons (.tmp (v:=.fi _ _) rfl) (.cons (.tmp (v:=.int _ _) rfl) .nil)) (.cons (.cl .fi) (.cons (.cl .int) .nil)) (chattelref01_at.cs Hq1) (.inl rfl) (.int)) ?_
          refine O.pu (Pu.assign (.tmp (v:=.int _ _) rfl)) ?_
          refine O.nil ?_
          refine X.seq ?_
          refine X.drawn ?_
          refine D.pu (Pu.move (.tmp (v:=.os _ _ _ _ _) rfl)) ?_
          refine D.pu (Pu.move (.tmp (v:=.int _ _) rfl)) ?_
          refine D.pu (Pu.move (.tmp (v:=.int _ _) rfl)) ?_
          refine D.pu (Pu.bin (.tmp rfl) (.tmp rfl) U.add64) ?_
          repeat (rw [giff] at h;obtain ⟨_,h⟩:=h)
          refine D.pu (U.indexO0 rfl (.tmp rfl) rfl rfl (.tmp rfl) (by first|omega|(simp only [List.length_set] at *;omega)) (by first|omega|(simp only [List.length_set] at *;omega)) rfl rfl) ?_
          refine D.pu (U.rdO (.tmp rfl) rfl rfl rfl rfl rfl) ?_
          refine D.pu (Pu.move (.tmp (v:=.fi _ _) rfl)) ?_
          refine D.pu (Pu.move (.tmp (v:=.int _ _) rfl)) ?_
          refine D.pu (U.rdI rfl rfl (.tmp rfl) (.tmp rfl) (by omega) (by omega)) ?_
          refine D.pu (Pu.loadR (.tmp rfl) (U.self rfl rfl rfl)) ?_
          refine D.pu (Pu.move (.tmp (v:=.int _ _) rfl)) ?_
          refine D.pu (Pu.bin (.tmp rfl) (.tmp rfl) U.mul64) ?_
          refine D.pu (Pu.bin (.tmp rfl) (.tmp rfl) U.add64) ?_
          refine D.pu (Pu.move (.tmp (v:=.int _ _) rfl)) ?_
          refine D.pu (Pu.bin (.tmp rfl) (.tmp rfl) U.add64) ?_
          refine D.pu (Pu.assign (.tmp (v:=.int _ _) rfl)) ?_
          refine D.nil (by kernel_rfl) ?_
          refine X.seq ?_
          refine X.still ?_
          refine O.pu (Pu.move (.tmp (v:=.os _ _ _ _ _) rfl)) ?_
          refine O.pu (Pu.move (.tmp (v:=.int _ _) rfl)) ?_
          refine O.pu (Pu.move (.tmp (v:=.int _ _) rfl)) ?_
          refine O.pu (Pu.bin (.tmp rfl) (.tmp rfl) U.add64) ?_
          refine O.pu (Pu.move (.tmp (v:=.int _ _) rfl)) ?_
          refine O.pu (Pu.bin (.tmp rfl) .int (.rem (by omega))) ?_
          refine O.pu (U.indexO0 rfl (.tmp rfl) rfl rfl (.tmp rfl) (by first|omega|(simp only [List.length_set] at *;omega)) (by first|omega|(simp only [List.length_set] at *;omega)) rfl rfl) ?_
          refine O.ef0 (U.storeE (.tmp rfl) rfl rfl (.tmp (v:=.int _ _) rfl) rfl rfl (.whole (notBad_ne rfl) rfl) .ints) ?_
          refine O.nil ?_
          refine X.still ?_
          refine O.pu (Pu.move (.tmp (v:=.int _ _) rfl)) ?_
          refine O.pu (Pu.bin (.tmp rfl) .int (U.quo64 (by omega))) ?_
          refine O.pu (Pu.assign (.tmp (v:=.int _ _) rfl)) ?_
          refine O.nil ?_
          refine X.still ?_
          refine O.pu (Pu.move (.tmp (v:=.int _ _) rfl)) ?_
          refine O.pu (Pu.bin (.tmp rfl) .int U.add64) ?_
          refine O.pu (Pu.assign (.tmp (v:=.int _ _) rfl)) ?_
          refine O.nil ?_
          exact ⟨_,(by omega),(by omega),_,_,_,_,_,_,_,_,rfl,rfl,rfl,rfl,(by first|rfl|(simp only [List.length_set];done)|(simp only [List.length_drop,List.length_take,List.length_append,List.length_set] at *;omega)),rfl,rfl,rfl,h⟩
        · rw [if_neg c] at h
          refine G.pu (W.t rfl rfl) (Pu.move (.tmp (v:=.int _ _) rfl)) ?_
          refine G.pu (W.t rfl rfl) (Pu.bin (.tmp rfl) .int .gtr) ?_
          refine O.pu (Pu.pickF (.tmp rfl) (.tmp (v:=.bool _) rfl)) ?_
          refine O.nil ?_
          refine X.condP (.tmp rfl) (fun c=>?_) (fun c=>?_)
          · rw [if_pos c] at h
            refine X.skip ?_
            refine X.seq ?_
            refine X.block ?_
            refine X.seq ?_
            refine X.still ?_
            refine O.pu (Pu.move (.tmp (v:=.fi _ _) rfl)) ?_
            refine O.pu (Pu.move (.tmp (v:=.int _ _) rfl)) ?_
            obtain ⟨q2,Hq2,h⟩:=Option.bind_eq_some_iff.1 h
            refine O.pu (U.call (ss:=[]) (.cons (.tmp (v:=.fi _ _) rfl) (.cons (.tmp (v:=.int _ _) rfl) .nil)) (.cons (.cl .fi) (.cons (.cl .int) .nil)) (chattelref01_at.cs Hq2) (.inl rfl) (.int)) ?_
            refine O.pu (Pu.assign (.tmp (v:=.int _ _) rfl)) ?_
            refine O.nil ?_
            refine X.seq ?_
            refine X.drawn ?_
            refine D.pu (Pu.move (.tmp (v:=.os _ _ _ _ _) rfl)) ?_
            refine D.pu (Pu.move (.tmp (v:=.int _ _) rfl)) ?_
            refine D.pu (Pu.move (.tmp (v:=.int _ _) rfl)) ?_
            refine D.pu (Pu.bin (.tmp rfl) (.tmp rfl) U.add64) ?_
            repeat (rw [giff] at h;obtain ⟨_,h⟩:=h)
            refine D.pu (U.indexO0 rfl (.tmp rfl) rfl rfl (.tmp rfl) (by first|omega|(simp only [List.length_set] at *;omega)) (by first|omega|(simp only [List.length_set] at *;omega)) rfl rfl) ?_
            refine D.pu (U.rdO (.tmp rfl) rfl rfl rfl rfl rfl) ?_
            refine D.pu (Pu.move (.tmp (v:=.fi _ _) rfl)) ?_
            refine D.pu (Pu.move (.tmp (v:=.int _ _) rfl)) ?_
            refine D.pu (U.rdI rfl rfl (.tmp rfl) (.tmp rfl) (by omega) (by omega)) ?_
            refine D.pu (Pu.loadR (.tmp rfl) (U.self rfl rfl rfl)) ?_
            refine D.pu (Pu.move (.tmp (v:=.int _ _) rfl)) ?_
            refine D.pu (Pu.bin (.tmp rfl) (.tmp rfl) U.mul64) ?_
            refine D.pu (Pu.bin (.tmp rfl) (.tmp rfl) U.add64) ?_
            refine D.pu (Pu.move (.tmp (v:=.int _ _) rfl)) ?_
            refine D.pu (Pu.bin (.tmp rfl) (.tmp rfl) U.add64) ?_
            refine D.pu (Pu.assign (.tmp (v:=.int _ _) rfl)) ?_
            refine D.nil (by kernel_rfl) ?_
            refine X.seq ?_
            refine X.still ?_
            refine O.pu (Pu.move (.tmp (v:=.os _ _ _ _ _) rfl)) ?_
            refine O.pu (Pu.move (.tmp (v:=.int _ _) rfl)) ?_
            refine O.pu (Pu.move (.tmp (v:=.int _ _) rfl)) ?_
            refine O.pu (Pu.bin (.tmp rfl) (.tmp rfl) U.add64) ?_
            refine O.pu (Pu.move (.tmp (v:=.int _ _) rfl)) ?_
            refine O.pu (Pu.bin (.tmp rfl) .int (.rem (by omega))) ?_
            refine O.pu (U.indexO0 rfl (.tmp rfl) rfl rfl (.tmp rfl) (by first|omega|(simp only [List.length_set] at *;omega)) (by first|omega|(simp only [List.length_set] at *;omega)) rfl rfl) ?_
            refine O.ef0 (U.storeE (.tmp rfl) rfl rfl (.tmp (v:=.int _ _) rfl) rfl rfl (.whole (notBad_ne rfl) rfl) .ints) ?_
            refine O.nil ?_
            refine X.still ?_
            refine O.pu (Pu.move (.tmp (v:=.int _ _) rfl)) ?_
            refine O.pu (Pu.bin (.tmp rfl) .int (U.quo64 (by omega))) ?_
            refine O.pu (Pu.assign (.tmp (v:=.int _ _) rfl)) ?_
            refine O.nil ?_
            refine X.still ?_
            refine O.pu (Pu.move (.tmp (v:=.int _ _) rfl)) ?_
            refine O.pu (Pu.bin (.tmp rfl) .int U.add64) ?_
            refine O.pu (Pu.assign (.tmp (v:=.int _ _) rfl)) ?_
            refine O.nil ?_
            exact ⟨_,(by omega),(by omega),_,_,_,_,_,_,_,_,rfl,rfl,rfl,rfl,(by first|rfl|(simp only [List.length_set];done)|(simp only [List.length_drop,List.length_take,List.length_append,List.length_set] at *;omega)),rfl,rfl,rfl,h⟩
          · rw [if_neg c] at h
            refine X.exit (B.out ?_)
            refine X.still ?_
            refine O.pu (Pu.move (.tmp (v:=.int _ _) rfl)) ?_
            refine O.pu (Pu.bin (.tmp rfl) .int U.add64) ?_
            refine O.pu (Pu.assign (.tmp (v:=.int _ _) rfl)) ?_
            refine O.nil ?_
            exact ⟨_,(by omega),_,_,_,_,_,_,rfl,rfl,rfl,rfl,(by first|rfl|(simp only [List.length_set];done)|(simp only [List.length_drop,List.length_take,List.length_append,List.length_set] at *;omega)),rfl,h⟩
    · rw [if_neg c] at h
      refine X.exit (B.out ?_)
      refine X.seq ?_
      refine X.still ?_
      refine O.pu (Pu.move (.tmp (v:=.os _ _ _ _ _) rfl)) ?_
      obtain ⟨q3,Hq3,h⟩:=Option.bind_eq_some_iff.1 h
      refine O.ef (U.callZ (ss:=[17]) (.cons (.tmp (v:=.os _ _ _ _ _) rfl) .nil) (.cons (.osIf (by simp) rfl (Mode.live_ne rfl) rfl (by first|rfl|(simp only [List.length_set];done)|(simp only [List.length_drop,List.length_take,List.length_append,List.length_set] at *;omega))) .nil) (chattelref01_Trim.cs Hq3) (.fi) (nowin rfl)) ?_
      refine O.pu (Pu.assign (.tmp (v:=.fi _ _) rfl)) ?_
      refine O.nil ?_
      refine X.ret ?_
      cases h
      exact E.fin [] (.tmp (v:=.fi _ _) rfl .nil) (.cons (.cl .fi) .nil)
noncomputable def c94:Code:=Try.f94.body.getD .skip
theorem fn94:FnOk Try.prog 94 Try.f94 c94:=⟨Try.func94,rfl,by kernel_rfl,by kernel_rfl,mixed⟩
theorem chattelref01_Cmp.cs {k:Nat} {l0:List Int} {l1:List Int} {r:Int} (h:chattelref01_Cmp.f k l0 l1=some r):CS Try.prog 94 [.fi .i64 l0, .fi .i64 l1] .no [.int .i64 r]:=by
  unfold chattelref01_Cmp.f at h
  refine E.pure fn94 rfl ?_
  refine X.seq ?_
  refine X.still ?_
  refine O.pu (Pu.assign .int) ?_
  refine O.nil ?_
  refine X.seq ?_
  refine X.seq ?_
  refine X.still ?_
  refine O.pu (Pu.move (.tmp (v:=.fi _ _) rfl)) ?_
  refine O.pu (Pu.lenI rfl (.tmp rfl)) ?_
  refine O.pu (Pu.move (.tmp (v:=.fi _ _) rfl)) ?_
  refine O.pu (Pu.lenI rfl (.tmp rfl)) ?_
  refine O.pu (Pu.bin (.tmp rfl) (.tmp rfl) .neq) ?_
  refine O.nil ?_
  refine X.condN (.tmp rfl) (fun c=>?_) (fun c=>?_)
  · rw [if_neg c] at h
    refine X.seq ?_
    refine X.seq ?_
    refine X.still ?_
    refine O.pu (Pu.move (.tmp (v:=.fi _ _) rfl)) ?_
    refine O.pu (Pu.lenI rfl (.tmp rfl)) ?_
    refine O.pu (Pu.move (.tmp (v:=.fi _ _) rfl)) ?_
    refine O.pu (Pu.lenI rfl (.tmp rfl)) ?_
    refine O.pu (Pu.bin (.tmp rfl) (.tmp rfl) .lss) ?_
    refine O.nil ?_
    refine X.condP (.tmp rfl) (fun c=>?_) (fun c=>?_)
    · rw [if_pos c] at h
      refine X.seq ?_
      refine X.still ?_
      refine O.pu (Pu.assign .int) ?_
      refine O.nil ?_
      refine X.ret ?_
      cases h
      exact E.fin [] (.tmp (v:=.int _ _) rfl .nil) (.cons (.cl .int) .nil)
    · rw [if_neg c] at h
      refine X.skip ?_
      refine X.seq ?_
      refine X.still ?_
      refine O.pu (Pu.assign .int) ?_
      refine O.nil ?_
      refine X.ret ?_
      cases h
      exact E.fin [] (.tmp (v:=.int _ _) rfl .nil) (.cons (.cl .int) .nil)
  · rw [if_pos c] at h
    refine X.skip ?_
    refine X.seq ?_
    refine X.seq ?_
    refine X.still ?_
    refine O.pu (Pu.move (.tmp (v:=.fi _ _) rfl)) ?_
    refine O.pu (Pu.lenI rfl (.tmp rfl)) ?_
    refine O.pu (Pu.bin (.tmp rfl) .int U.sub64) ?_
    refine O.pu (Pu.assign (.tmp (v:=.int _ _) rfl)) ?_
    refine O.nil ?_
    refine X.block ?_
    refine X.inv (fun k s=>∃ x0 x1 x5,s.t 0 = .fi .i64 x0∧s.t 1 = .fi .i64 x1∧s.t 5 = .int .i64 x5∧chattelref01_Cmp.l0 k x0 x1 x5=some r) ?_ ?_ ⟨_,_,_,rfl,rfl,rfl,h⟩
    · rintro s ⟨_,_,_,_,_,_,h⟩;unfold chattelref01_Cmp.l0 at h;cases h
    · rintro k1 s1 ⟨x0,x1,x5,e0,e1,e2,h⟩
      unfold chattelref01_Cmp.l0 at h
      rw [St.fixT e0,St.fixT e1,St.fixT e2]
      refine X.seq ?_
      refine X.seq ?_
      refine X.still ?_
      refine O.pu (Pu.move (.tmp (v:=.int _ _) rfl)) ?_
      refine O.pu (Pu.bin (.tmp rfl) .int .geq) ?_
      refine O.nil ?_
      refine X.condP (.tmp rfl) (fun c=>?_) (fun c=>?_)
      · rw [if_pos c] at h
        refine X.skip ?_
        refine X.seq ?_
        refine X.block ?_
        refine X.seq ?_
        refine X.seq ?_
        refine X.drawn ?_
        refine D.pu (Pu.move (.tmp (v:=.fi _ _) rfl)) ?_
        refine D.pu (Pu.move (.tmp (v:=.int _ _) rfl)) ?_
        repeat (rw [giff] at h;obtain ⟨_,h⟩:=h)
        refine D.pu (U.rdI rfl rfl (.tmp rfl) (.tmp rfl) (by omega) (by omega)) ?_
        refine D.pu (Pu.loadR (.tmp rfl) (U.self rfl rfl rfl)) ?_
        refine D.pu (Pu.move (.tmp (v:=.fi _ _) rfl)) ?_
        refine D.pu (Pu.move (.tmp (v:=.int _ _) rfl)) ?_
        refine D.pu (U.rdI rfl rfl (.tmp rfl) (.tmp rfl) (by omega) (by omega)) ?_
        refine D.pu (Pu.loadR (.tmp rfl) (U.self rfl rfl rfl)) ?_
        refine D.pu (Pu.bin (.tmp rfl) (.tmp rfl) .lss) ?_
        refine D.nil (by kernel_rfl) ?_
        refine X.condP (.tmp rfl) (fun c=>?_) (fun c=>?_)
        · rw [if_pos c] at h
          refine X.seq ?_
          refine X.still ?_
          refine O.pu (Pu.assign .int) ?_
          refine O.nil ?_
          refine X.ret ?_
          cases h
          exact E.fin [] (.tmp (v:=.int _ _) rfl .nil) (.cons (.cl .int) .nil)
        · rw [if_neg c] at h
          refine X.skip ?_
          refine X.seq ?_
          refine X.drawn ?_
          refine D.pu (Pu.move (.tmp (v:=.fi _ _) rfl)) ?_
          refine D.pu (Pu.move (.tmp (v:=.int _ _) rfl)) ?_
          refine D.pu (U.rdI rfl rfl (.tmp rfl) (.tmp rfl) (by omega) (by omega)) ?_
          refine D.pu (Pu.loadR (.tmp rfl) (U.self rfl rfl rfl)) ?_
          refine D.pu (Pu.move (.tmp (v:=.fi _ _) rfl)) ?_
          refine D.pu (Pu.move (.tmp (v:=.int _ _) rfl)) ?_
          refine D.pu (U.rdI rfl rfl (.tmp rfl) (.tmp rfl) (by omega) (by omega)) ?_
          refine D.pu (Pu.loadR (.tmp rfl) (U.self rfl rfl rfl)) ?_
          refine D.pu (Pu.bin (.tmp rfl) (.tmp rfl) .gtr) ?_
          refine D.nil (by kernel_rfl) ?_
          refine X.condP (.tmp rfl) (fun c=>?_) (fun c=>?_)
          · rw [if_pos c] at h
            refine X.seq ?_
            refine X.still ?_
            refine O.pu (Pu.assign .int) ?_
            refine O.nil ?_
            refine X.ret ?_
            cases h
            exact E.fin [] (.tmp (v:=.int _ _) rfl .nil) (.cons (.cl .int) .nil)
          · rw [if_neg c] at h
            refine X.skip ?_
            refine X.still ?_
            refine O.pu (Pu.move (.tmp (v:=.int _ _) rfl)) ?_
            refine O.pu (Pu.bin (.tmp rfl) .int U.sub64) ?_
            refine O.pu (Pu.assign (.tmp (v:=.int _ _) rfl)) ?_
            refine O.nil ?_
            exact ⟨_,(by omega),_,_,_,rfl,rfl,rfl,h⟩
      · rw [if_neg c] at h
        refine X.exit (B.out ?_)
        refine X.seq ?_
        refine X.still ?_
        refine O.pu (Pu.assign .int) ?_
        refine O.nil ?_
        refine X.ret ?_
        cases h
        exact E.fin [] (.tmp (v:=.int _ _) rfl .nil) (.cons (.cl .int) .nil)
noncomputable def c95:Code:=Try.f95.body.getD .skip
theorem fn95:FnOk Try.prog 95 Try.f95 c95:=⟨Try.func95,rfl,by kernel_rfl,by kernel_rfl,mixed⟩
theorem chattelref01_Sub.cs {k:Nat} {l0:List Int} {l1:List Int} {r:List Int} (h:chattelref01_Sub.f k l0 l1=some r):CS Try.prog 95 [.fi .i64 l0, .fi .i64 l1] .no [.fi .i64 r]:=by
  unfold chattelref01_Sub.f at h
  refine E.pure fn95 rfl ?_
  refine X.seq ?_
  refine X.still ?_
  refine O.pu (Pu.assign (.nilI (k:=.i64))) ?_
  refine O.nil ?_
  refine X.seq ?_
  refine X.still ?_
  refine O.ef (U.nilOE (u:=1) (row:=.ints .i64 []) (e:=3) rfl rfl) ?_
  refine O.nil ?_
  refine X.seq ?_
  refine X.still ?_
  refine O.pu (Pu.assign .int) ?_
  refine O.nil ?_
  refine X.seq ?_
  refine X.seq ?_
  refine X.still ?_
  refine O.pu (Pu.assign .int) ?_
  refine O.nil ?_
  refine X.block ?_
  refine X.inv (fun k s=>∃ x0 x1 x5 x6 x7 n5 u5,s.t 0 = .fi .i64 x0∧s.t 1 = .fi .i64 x1∧s.b 5=⟨u5, .own, .ints .i64 x5,3⟩∧s.t 5 = .os 5 u5 0 n5 true∧x5.length=n5∧s.t 6 = .int .i64 x6∧s.t 7 = .int .i64 x7∧chattelref01_Sub.l0 k x0 x1 x5 x6 x7=some r) ?_ ?_ ⟨_,_,_,_,_,_,_,rfl,rfl,rfl,rfl,rfl,rfl,rfl,h⟩
  · rintro s ⟨_,_,_,_,_,_,_,_,_,_,_,_,_,_,h⟩;unfold chattelref01_Sub.l0 at h;cases h
  · rintro k1 s1 ⟨x0,x1,x5,x6,x7,n5,u5,e0,e1,e2,e3,rfl,e5,e6,h⟩
    unfold chattelref01_Sub.l0 at h
    rw [St.fixT e0,St.fixT e1,St.fixB e2,St.fixT e3,St.fixT e5,St.fixT e6]
    refine X.seq ?_
    refine X.seq ?_
    refine X.still ?_
    refine O.pu (Pu.move (.tmp (v:=.int _ _) rfl)) ?_
    refine O.pu (Pu.move (.tmp (v:=.fi _ _) rfl)) ?_
    refine O.pu (Pu.lenI rfl (.tmp rfl)) ?_
    refine O.pu (Pu.bin (.tmp rfl) (.tmp rfl) .lss) ?_
    refine O.nil ?_
    refine X.condP (.tmp rfl) (fun c=>?_) (fun c=>?_)
    · rw [if_pos c] at h
      refine X.skip ?_
      refine X.seq ?_
      refine X.block ?_
      refine X.seq ?_
      refine X.still ?_
      refine O.pu (Pu.move (.tmp (v:=.fi _ _) rfl)) ?_
      refine O.pu (Pu.move (.tmp (v:=.int _ _) rfl)) ?_
      obtain ⟨q1,Hq1,h⟩:=Option.bind_eq_some_iff.1 h
      refine O.pu (U.call (ss:=[]) (.cons (.tmp (v:=.fi _ _) rfl) (.cons (.tmp (v:=.int _ _) rfl) .nil)) (.cons (.cl .fi) (.cons (.cl .int) .nil)) (chattelref01_at.cs Hq1) (.inl rfl) (.int)) ?_
      refine O.pu (Pu.assign (.tmp (v:=.int _ _) rfl)) ?_
      refine O.nil ?_
      refine X.seq ?_
      refine X.still ?_
      refine O.pu (Pu.move (.tmp (v:=.fi _ _) rfl)) ?_
      refine O.pu (Pu.move (.tmp (v:=.int _ _) rfl)) ?_
      repeat (rw [giff] at h;obtain ⟨_,h⟩:=h)
      refine O.pu (U.rdI rfl rfl (.tmp rfl) (.tmp rfl) (by omega) (by omega)) ?_
      refine O.pu (Pu.loadR (.tmp rfl) (U.self rfl rfl rfl)) ?_
      refine O.pu (Pu.move (.tmp (v:=.int _ _) rfl)) ?_
      refine O.pu (Pu.bin (.tmp rfl) (.tmp rfl) U.sub64) ?_
      refine O.pu (Pu.move (.tmp (v:=.int _ _) rfl)) ?_
      refine O.pu (Pu.bin (.tmp rfl) (.tmp rfl) U.sub64) ?_
      refine O.pu (Pu.assign (.tmp (v:=.int _ _) rfl)) ?_
      refine O.nil ?_
      refine X.seq ?_
      refine X.still ?_
      refine O.pu (Pu.assign .int) ?_
      refine O.nil ?_
      refine X.seq ?_
      refine X.seq ?_
      refine X.still ?_
      refine O.pu (Pu.move (.tmp (v:=.int _ _) rfl)) ?_
      refine O.pu (Pu.bin (.tmp rfl) .int .lss) ?_
      refine O.nil ?_
      refine X.condP (.tmp rfl) (fun c=>?_) (fun c=>?_)
      · rw [if_pos c] at h
        refine X.seq ?_
        refine X.still ?_
        refine O.pu (Pu.move (.tmp (v:=.int _ _) rfl)) ?_
        refine O.pu (Pu.bin (.tmp rfl) .int U.add64) ?_
        refine O.pu (Pu.assign (.tmp (v:=.int _ _) rfl)) ?_
        refine O.nil ?_
        refine X.still ?_
        refine O.pu (Pu.assign .int) ?_
        refine O.nil ?_
        refine X.still ?_
        refine O.pu (Pu.move (.tmp (v:=.os _ _ _ _ _) rfl)) ?_
        refine O.pu (Pu.move (.tmp (v:=.int _ _) rfl)) ?_
        refine O.puE (v':=.os 33 ((s1.b 33).ver + 1) 0 _ true) (b':=⟨(s1.b 33).ver + 1, .own,_,_⟩) (U.litI rfl rfl (.cons (.tmp (v:=.int _ _) rfl) .nil) rfl rfl) rfl rfl ?_
        repeat (rw [giff] at h;obtain ⟨_,h⟩:=h)
        refine O.ef (U.appendE (u':=(s1.b 34).ver + 1) rfl rfl (.tmp rfl) rfl (by first|rfl|(simp only [List.length_set];done)|(simp only [List.length_drop,List.length_take,List.length_append,List.length_set] at *;omega)) (.tmp rfl) (.osIf (List.mem_singleton.2 rfl) rfl (Mode.live_ne rfl) rfl (by first|rfl|(simp only [List.length_set];done)|(simp only [List.length_drop,List.length_take,List.length_append,List.length_set] at *;omega))) rfl (by first|exact Nat.le_of_lt (by assumption)|(simp only [List.length_cons,List.length_nil];omega)) rfl) ?_
        refine O.ef (U.takeE (u':=u5 + 1) (.tmp rfl) rfl (ne_of_beq rfl) rfl) ?_
        refine O.nil ?_
        refine X.still ?_
        refine O.pu (Pu.move (.tmp (v:=.int _ _) rfl)) ?_
        refine O.pu (Pu.bin (.tmp rfl) .int U.add64) ?_
        refine O.pu (Pu.assign (.tmp (v:=.int _ _) rfl)) ?_
        refine O.nil ?_
        exact ⟨_,(by omega),_,_,_,_,_,_,_,rfl,rfl,rfl,rfl,(by first|rfl|(simp only [List.length_set];done)|(simp only [List.length_drop,List.length_take,List.length_append,List.length_set] at *;omega)),rfl,rfl,h⟩
      · rw [if_neg c] at h
        refine X.skip ?_
        refine X.still ?_
        refine O.pu (Pu.move (.tmp (v:=.os _ _ _ _ _) rfl)) ?_
        refine O.pu (Pu.move (.tmp (v:=.int _ _) rfl)) ?_
        refine O.puE (v':=.os 33 ((s1.b 33).ver + 1) 0 _ true) (b':=⟨(s1.b 33).ver + 1, .own,_,_⟩) (U.litI rfl rfl (.cons (.tmp (v:=.int _ _) rfl) .nil) rfl rfl) rfl rfl ?_
        repeat (rw [giff] at h;obtain ⟨_,h⟩:=h)
        refine O.ef (U.appendE (u':=(s1.b 34).ver + 1) rfl rfl (.tmp rfl) rfl (by first|rfl|(simp only [List.length_set];done)|(simp only [List.length_drop,List.length_take,List.length_append,List.length_set] at *;omega)) (.tmp rfl) (.osIf (List.mem_singleton.2 rfl) rfl (Mode.live_ne rfl) rfl (by first|rfl|(simp only [List.length_set];done)|(simp only [List.length_drop,List.length_take,List.length_append,List.length_set] at *;omega))) rfl (by first|exact Nat.le_of_lt (by assumption)|(simp only [List.length_cons,List.length_nil];omega)) rfl) ?_
        refine O.ef (U.takeE (u':=u5 + 1) (.tmp rfl) rfl (ne_of_beq rfl) rfl) ?_
        refine O.nil ?_
        refine X.still ?_
        refine O.pu (Pu.move (.tmp (v:=.int _ _) rfl)) ?_
        refine O.pu (Pu.bin (.tmp rfl) .int U.add64) ?_
        refine O.pu (Pu.assign (.tmp (v:=.int _ _) rfl)) ?_
        refine O.nil ?_
        exact ⟨_,(by omega),_,_,_,_,_,_,_,rfl,rfl,rfl,rfl,(by first|rfl|(simp only [List.length_set];done)|(simp only [List.length_drop,List.length_take,List.length_append,List.length_set] at *;omega)),rfl,rfl,h⟩
    · rw [if_neg c] at h
      refine X.exit (B.out ?_)
      refine X.seq ?_
      refine X.still ?_
      refine O.pu (Pu.move (.tmp (v:=.os _ _ _ _ _) rfl)) ?_
      obtain ⟨q2,Hq2,h⟩:=Option.bind_eq_some_iff.1 h
      refine O.ef (U.callZ (ss:=[5]) (.cons (.tmp (v:=.os _ _ _ _ _) rfl) .nil) (.cons (.osIf (by simp) rfl (Mode.live_ne rfl) rfl (by first|rfl|(simp only [List.length_set];done)|(simp only [List.length_drop,List.length_take,List.length_append,List.length_set] at *;omega))) .nil) (chattelref01_Trim.cs Hq2) (.fi) (nowin rfl)) ?_
      refine O.pu (Pu.assign (.tmp (v:=.fi _ _) rfl)) ?_
      refine O.nil ?_
      refine X.ret ?_
      cases h
      exact E.fin [] (.tmp (v:=.fi _ _) rfl .nil) (.cons (.cl .fi) .nil)
noncomputable def c89:Code:=Try.f89.body.getD .skip
theorem fn89:FnOk Try.prog 89 Try.f89 c89:=⟨Try.func89,rfl,by kernel_rfl,by kernel_rfl,mixed⟩
theorem chattelref01_DivMod.cs {k:Nat} {l0:List Int} {l1:List Int} {r:List Int×List Int} (h:chattelref01_DivMod.f k l0 l1=some r):CS Try.prog 89 [.fi .i64 l0, .fi .i64 l1] .no [.fi .i64 r.1, .fi .i64 r.2]:=by
  unfold chattelref01_DivMod.f at h
  refine E.pure fn89 rfl ?_
  refine X.seq ?_
  refine X.still ?_
  refine O.pu (Pu.assign (.nilI (k:=.i64))) ?_
  refine O.pu (Pu.assign (.nilI (k:=.i64))) ?_
  refine O.nil ?_
  refine X.seq ?_
  refine X.still ?_
  refine O.pu (Pu.move (.tmp (v:=.fi _ _) rfl)) ?_
  refine O.pu (Pu.lenI rfl (.tmp rfl)) ?_
  repeat (rw [giff] at h;obtain ⟨_,h⟩:=h)
  refine O.puE (v':=.os 20 (1) 0 _ true) (b':=⟨1, .own,_,_⟩) (U.makeI rfl rfl (.tmp rfl) (.tmp rfl) (by omega) (by omega) rfl (by omega)) rfl rfl ?_
  refine O.pu (Pu.assign (.tmp (v:=.os _ _ _ _ _) rfl)) ?_
  refine O.nil ?_
  refine X.seq ?_
  refine X.still ?_
  refine O.pu (Pu.assign (.nilI (k:=.i64))) ?_
  refine O.nil ?_
  refine X.seq ?_
  refine X.seq ?_
  refine X.still ?_
  refine O.pu (Pu.move (.tmp (v:=.fi _ _) rfl)) ?_
  refine O.pu (Pu.lenI rfl (.tmp rfl)) ?_
  refine O.pu (Pu.bin (.tmp rfl) .int U.sub64) ?_
  refine O.pu (Pu.assign (.tmp (v:=.int _ _) rfl)) ?_
  refine O.nil ?_
  refine X.block ?_
  refine X.inv (fun k s=>∃ x0 x1 x6 x7 x8 n6 u20,s.t 0 = .fi .i64 x0∧s.t 1 = .fi .i64 x1∧s.b 20=⟨u20, .own, .ints .i64 x6,3⟩∧s.t 6 = .os 20 u20 0 n6 true∧x6.length=n6∧s.t 7 = .fi .i64 x7∧s.t 8 = .int .i64 x8∧chattelref01_DivMod.l0 k x0 x1 x6 x7 x8=some r) ?_ ?_ ⟨_,_,_,_,_,_,_,rfl,rfl,rfl,rfl,rfl,rfl,rfl,h⟩
  · rintro s ⟨_,_,_,_,_,_,_,_,_,_,_,_,_,_,h⟩;unfold chattelref01_DivMod.l0 at h;cases h
  · rintro k1 s1 ⟨x0,x1,x6,x7,x8,n6,u20,e0,e1,e2,e3,rfl,e5,e6,h⟩
    unfold chattelref01_DivMod.l0 at h
    rw [St.fixT e0,St.fixT e1,St.fixB e2,St.fixT e3,St.fixT e5,St.fixT e6]
    refine X.seq ?_
    refine X.seq ?_
    refine X.still ?_
    refine O.pu (Pu.move (.tmp (v:=.int _ _) rfl)) ?_
    refine O.pu (Pu.bin (.tmp rfl) .int .geq) ?_
    refine O.nil ?_
    refine X.condP (.tmp rfl) (fun c=>?_) (fun c=>?_)
    · rw [if_pos c] at h
      refine X.skip ?_
      refine X.seq ?_
      refine X.block ?_
      refine X.seq ?_
      refine X.still ?_
      refine O.pu (Pu.move (.tmp (v:=.fi _ _) rfl)) ?_
      refine O.pu (Pu.move (.tmp (v:=.int _ _) rfl)) ?_
      repeat first|(rw [giff] at h;obtain ⟨_,h⟩:=h)|rw [bdff] at h
      refine O.pu (U.rdI rfl rfl (.tmp rfl) (.tmp rfl) (by omega) (by omega)) ?_
      refine O.pu (Pu.loadR (.tmp rfl) (U.self rfl rfl rfl)) ?_
      refine O.puE (v':=.os 32 ((s1.b 32).ver + 1) 0 _ true) (b':=⟨(s1.b 32).ver + 1, .own,_,_⟩) (U.litI rfl rfl (.cons (.tmp (v:=.int _ _) rfl) .nil) rfl rfl) rfl rfl ?_
      refine O.pu (Pu.move (.tmp (v:=.fi _ _) rfl)) ?_
      refine O.ef (U.appendE (u':=(s1.b 34).ver + 1) rfl rfl (.tmp rfl) rfl (by first|rfl|(simp only [List.length_set];done)|(simp only [List.length_drop,List.length_take,List.length_append,List.length_set] at *;omega)) (.tmp rfl) (.cl (ss:=[]) .fi) rfl (by first|exact Nat.le_of_lt (by assumption)|(simp only [List.length_cons,List.length_nil];omega)) rfl) ?_
      refine O.pu (Pu.assign (.tmp (v:=.os _ _ _ _ _) rfl)) ?_
      refine O.nil ?_
      refine X.seq ?_
      refine X.still ?_
      refine O.pu (Pu.move (.tmp (v:=.os _ _ _ _ _) rfl)) ?_
      obtain ⟨q1,Hq1,h⟩:=Option.bind_eq_some_iff.1 h
      refine O.ef (U.callZ (ss:=[34]) (.cons (.tmp (v:=.os _ _ _ _ _) rfl) .nil) (.cons (.osIf (by simp) rfl (Mode.live_ne rfl) rfl (by first|rfl|(simp only [List.length_set];done)|(simp only [List.length_drop,List.length_take,List.length_append,List.length_set] at *;omega))) .nil) (chattelref01_Trim.cs Hq1) (.fi) (nowin rfl)) ?_
      refine O.pu (Pu.assign (.tmp (v:=.fi _ _) rfl)) ?_
      refine O.nil ?_
      refine X.seq ?_
      refine X.still ?_
      refine O.pu (Pu.assign .int) ?_
      refine O.nil ?_
      refine X.seq ?_
      refine X.still ?_
      refine O.pu (Pu.assign .int) ?_
      refine O.nil ?_
      refine X.seq ?_
      refine X.block ?_
      refine X.inv (fun k s=>k≤k1∧∃ x0 x1 x6 x7 x8 x10 x11 n6 u20,s.t 0 = .fi .i64 x0∧s.t 1 = .fi .i64 x1∧s.b 20=⟨u20, .own, .ints .i64 x6,3⟩∧s.t 6 = .os 20 u20 0 n6 true∧x6.length=n6∧s.t 7 = .fi .i64 x7∧s.t 8 = .int .i64 x8∧s.t 10 = .int .i64 x10∧s.t 11 = .int .i64 x11∧chattelref01_DivMod.l1 k x0 x1 x6 x7 x8 x10 x11=some r) ?_ ?_ ⟨(by omega),_,_,_,_,_,_,_,_,_,rfl,rfl,rfl,rfl,(by first|rfl|(simp only [List.length_set];done)|(simp only [List.length_drop,List.length_take,List.length_append,List.length_set] at *;omega)),rfl,rfl,rfl,rfl,h⟩
      · rintro s ⟨_,_,_,_,_,_,_,_,_,_,_,_,_,_,_,_,_,_,_,h⟩;unfold chattelref01_DivMod.l1 at h;cases h
      · rintro k2 s2 ⟨kl2,x0,x1,x6,x7,x8,x10,x11,n6,u20,e0,e1,e2,e3,rfl,e5,e6,e7,e8,h⟩
        unfold chattelref01_DivMod.l1 at h
        rw [St.fixT e0,St.fixT e1,St.fixB e2,St.fixT e3,St.fixT e5,St.fixT e6,St.fixT e7,St.fixT e8]
        refine X.seq ?_
        refine X.seq ?_
        refine X.still ?_
        refine O.pu (Pu.move (.tmp (v:=.int _ _) rfl)) ?_
        refine O.pu (Pu.move (.tmp (v:=.int _ _) rfl)) ?_
        refine O.pu (Pu.bin (.tmp rfl) (.tmp rfl) .lss) ?_
        refine O.nil ?_
        refine X.condP (.tmp rfl) (fun c=>?_) (fun c=>?_)
        · rw [if_pos c] at h
          refine X.skip ?_
          refine X.block ?_
          refine X.seq ?_
          refine X.still ?_
          refine O.pu (Pu.move (.tmp (v:=.int _ _) rfl)) ?_
          refine O.pu (Pu.move (.tmp (v:=.int _ _) rfl)) ?_
          refine O.pu (Pu.bin (.tmp rfl) (.tmp rfl) U.add64) ?_
          refine O.pu (Pu.bin (.tmp rfl) .int U.add64) ?_
          refine O.pu (Pu.bin (.tmp rfl) .int (U.quo64 (by omega))) ?_
          refine O.pu (Pu.assign (.tmp (v:=.int _ _) rfl)) ?_
          refine O.nil ?_
          refine X.seq ?_
          refine X.still ?_
          refine O.pu (Pu.move (.tmp (v:=.int _ _) rfl)) ?_
          obtain ⟨q2,Hq2,h⟩:=Option.bind_eq_some_iff.1 h
          refine O.pu (U.call (ss:=[]) (.cons (.tmp (v:=.int _ _) rfl) .nil) (.cons (.cl .int) .nil) (chattelref01_Small.cs Hq2) (.inl rfl) (.fi)) ?_
          refine O.pu (Pu.assign (.tmp (v:=.fi _ _) rfl)) ?_
          refine O.nil ?_
          refine X.seq ?_
          refine X.still ?_
          refine O.pu (Pu.move (.tmp (v:=.fi _ _) rfl)) ?_
          refine O.pu (Pu.move (.tmp (v:=.fi _ _) rfl)) ?_
          obtain ⟨q3,Hq3,h⟩:=Option.bind_eq_some_iff.1 h
          refine O.pu (U.call (ss:=[]) (.cons (.tmp (v:=.fi _ _) rfl) (.cons (.tmp (v:=.fi _ _) rfl) .nil)) (.cons (.cl .fi) (.cons (.cl .fi) .nil)) (chattelref01_Mul.cs Hq3) (.inl rfl) (.fi)) ?_
          refine O.pu (Pu.assign (.tmp (v:=.fi _ _) rfl)) ?_
          refine O.nil ?_
          refine X.seq ?_
          refine X.still ?_
          refine O.pu (Pu.move (.tmp (v:=.fi _ _) rfl)) ?_
          refine O.pu (Pu.move (.tmp (v:=.fi _ _) rfl)) ?_
          obtain ⟨q4,Hq4,h⟩:=Option.bind_eq_some_iff.1 h
          refine O.pu (U.call (ss:=[]) (.cons (.tmp (v:=.fi _ _) rfl) (.cons (.tmp (v:=.fi _ _) rfl) .nil)) (.cons (.cl .fi) (.cons (.cl .fi) .nil)) (chattelref01_Cmp.cs Hq4) (.inl rfl) (.int)) ?_
          refine O.pu (Pu.assign (.tmp (v:=.int _ _) rfl)) ?_
          refine O.nil ?_
          refine X.seq ?_
          refine X.still ?_
          refine O.pu (Pu.move (.tmp (v:=.int _ _) rfl)) ?_
          refine O.pu (Pu.bin (.tmp rfl) .int .leq) ?_
          refine O.nil ?_
          refine X.condP (.tmp rfl) (fun c=>?_) (fun c=>?_)
          · rw [if_pos c] at h
            refine X.still ?_
            refine O.pu (Pu.move (.tmp (v:=.int _ _) rfl)) ?_
            refine O.pu (Pu.assign (.tmp (v:=.int _ _) rfl)) ?_
            refine O.nil ?_
            exact ⟨_,(by omega),(by omega),_,_,_,_,_,_,_,_,_,rfl,rfl,rfl,rfl,(by first|rfl|(simp only [List.length_set];done)|(simp only [List.length_drop,List.length_take,List.length_append,List.length_set] at *;omega)),rfl,rfl,rfl,rfl,h⟩
          · rw [if_neg c] at h
            refine X.still ?_
            refine O.pu (Pu.move (.tmp (v:=.int _ _) rfl)) ?_
            refine O.pu (Pu.bin (.tmp rfl) .int U.sub64) ?_
            refine O.pu (Pu.assign (.tmp (v:=.int _ _) rfl)) ?_
            refine O.nil ?_
            exact ⟨_,(by omega),(by omega),_,_,_,_,_,_,_,_,_,rfl,rfl,rfl,rfl,(by first|rfl|(simp only [List.length_set];done)|(simp only [List.length_drop,List.length_take,List.length_append,List.length_set] at *;omega)),rfl,rfl,rfl,rfl,h⟩
        · rw [if_neg c] at h
          refine X.exit (B.out ?_)
          refine X.seq ?_
          refine X.still ?_
          refine O.pu (Pu.move (.tmp (v:=.os _ _ _ _ _) rfl)) ?_
          refine O.pu (Pu.move (.tmp (v:=.int _ _) rfl)) ?_
          refine O.pu (Pu.move (.tmp (v:=.int _ _) rfl)) ?_
          repeat (rw [giff] at h;obtain ⟨_,h⟩:=h)
          refine O.pu (U.indexO0 rfl (.tmp rfl) rfl rfl (.tmp rfl) (by first|omega|(simp only [List.length_set] at *;omega)) (by first|omega|(simp only [List.length_set] at *;omega)) rfl rfl) ?_
          refine O.ef0 (U.storeE (.tmp rfl) rfl rfl (.tmp (v:=.int _ _) rfl) rfl rfl (.whole (notBad_ne rfl) rfl) .ints) ?_
          refine O.nil ?_
          refine X.seq ?_
          refine X.still ?_
          refine O.pu (Pu.move (.tmp (v:=.int _ _) rfl)) ?_
          obtain ⟨q5,Hq5,h⟩:=Option.bind_eq_some_iff.1 h
          refine O.pu (U.call (ss:=[]) (.cons (.tmp (v:=.int _ _) rfl) .nil) (.cons (.cl .int) .nil) (chattelref01_Small.cs Hq5) (.inl rfl) (.fi)) ?_
          refine O.pu (Pu.assign (.tmp (v:=.fi _ _) rfl)) ?_
          refine O.nil ?_
          refine X.seq ?_
          refine X.still ?_
          refine O.pu (Pu.move (.tmp (v:=.fi _ _) rfl)) ?_
          refine O.pu (Pu.move (.tmp (v:=.fi _ _) rfl)) ?_
          obtain ⟨q6,Hq6,h⟩:=Option.bind_eq_some_iff.1 h
          refine O.pu (U.call (ss:=[]) (.cons (.tmp (v:=.fi _ _) rfl) (.cons (.tmp (v:=.fi _ _) rfl) .nil)) (.cons (.cl .fi) (.cons (.cl .fi) .nil)) (chattelref01_Mul.cs Hq6) (.inl rfl) (.fi)) ?_
          refine O.pu (Pu.assign (.tmp (v:=.fi _ _) rfl)) ?_
          refine O.nil ?_
          refine X.still ?_
          refine O.pu (Pu.move (.tmp (v:=.fi _ _) rfl)) ?_
          refine O.pu (Pu.move (.tmp (v:=.fi _ _) rfl)) ?_
          obtain ⟨q7,Hq7,h⟩:=Option.bind_eq_some_iff.1 h
          refine O.pu (U.call (ss:=[]) (.cons (.tmp (v:=.fi _ _) rfl) (.cons (.tmp (v:=.fi _ _) rfl) .nil)) (.cons (.cl .fi) (.cons (.cl .fi) .nil)) (chattelref01_Sub.cs Hq7) (.inl rfl) (.fi)) ?_
          refine O.pu (Pu.assign (.tmp (v:=.fi _ _) rfl)) ?_
          refine O.nil ?_
          refine X.still ?_
          refine O.pu (Pu.move (.tmp (v:=.int _ _) rfl)) ?_
          refine O.pu (Pu.bin (.tmp rfl) .int U.sub64) ?_
          refine O.pu (Pu.assign (.tmp (v:=.int _ _) rfl)) ?_
          refine O.nil ?_
          exact ⟨_,(by omega),_,_,_,_,_,_,_,rfl,rfl,rfl,rfl,(by first|rfl|(simp only [List.length_set];done)|(simp only [List.length_drop,List.length_take,List.length_append,List.length_set] at *;omega)),rfl,rfl,h⟩
    · rw [if_neg c] at h
      refine X.exit (B.out ?_)
      refine X.seq ?_
      refine X.still ?_
      refine O.pu (Pu.move (.tmp (v:=.os _ _ _ _ _) rfl)) ?_
      obtain ⟨q8,Hq8,h⟩:=Option.bind_eq_some_iff.1 h
      refine O.ef (U.callZ (ss:=[20]) (.cons (.tmp (v:=.os _ _ _ _ _) rfl) .nil) (.cons (.osIf (by simp) rfl (Mode.live_ne rfl) rfl (by first|rfl|(simp only [List.length_set];done)|(simp only [List.length_drop,List.length_take,List.length_append,List.length_set] at *;omega))) .nil) (chattelref01_Trim.cs Hq8) (.fi) (nowin rfl)) ?_
      refine O.pu (Pu.move (.tmp (v:=.fi _ _) rfl)) ?_
      refine O.pu (Pu.assign (.tmp (v:=.fi _ _) rfl)) ?_
      refine O.pu (Pu.assign (.tmp (v:=.fi _ _) rfl)) ?_
      refine O.nil ?_
      refine X.ret ?_
      cases h
      exact E.fin [] (.tmp (v:=.fi _ _) rfl (.tmp (v:=.fi _ _) rfl .nil)) (.cons (.cl .fi) (.cons (.cl .fi) .nil))
noncomputable def c88:Code:=Try.f88.body.getD .skip
theorem fn88:FnOk Try.prog 88 Try.f88 c88:=⟨Try.func88,rfl,by kernel_rfl,by kernel_rfl,mixed⟩
theorem chattelref02_Gcd.cs {k:Nat} {l0:List Int} {l1:List Int} {r:List Int} (h:chattelref02_Gcd.f k l0 l1=some r):CS Try.prog 88 [.fi .i64 l0, .fi .i64 l1] .no [.fi .i64 r]:=by
  unfold chattelref02_Gcd.f at h
  refine E.pure fn88 rfl ?_
  refine X.seq ?_
  refine X.still ?_
  refine O.pu (Pu.assign (.nilI (k:=.i64))) ?_
  refine O.nil ?_
  refine X.seq ?_
  refine X.block ?_
  refine X.inv (fun k s=>∃ x0 x1,s.t 0 = .fi .i64 x0∧s.t 1 = .fi .i64 x1∧chattelref02_Gcd.l0 k x0 x1=some r) ?_ ?_ ⟨_,_,rfl,rfl,h⟩
  · rintro s ⟨_,_,_,_,h⟩;unfold chattelref02_Gcd.l0 at h;cases h
  · rintro k1 s1 ⟨x0,x1,e0,e1,h⟩
    unfold chattelref02_Gcd.l0 at h
    rw [St.fixT e0,St.fixT e1]
    refine X.seq ?_
    refine X.seq ?_
    refine X.still ?_
    refine O.pu (Pu.move (.tmp (v:=.fi _ _) rfl)) ?_
    refine O.pu (Pu.lenI rfl (.tmp rfl)) ?_
    refine O.pu (Pu.bin (.tmp rfl) .int .gtr) ?_
    refine O.nil ?_
    refine X.condP (.tmp rfl) (fun c=>?_) (fun c=>?_)
    · rw [if_pos c] at h
      refine X.skip ?_
      refine X.block ?_
      refine X.seq ?_
      refine X.still ?_
      refine O.pu (Pu.move (.tmp (v:=.fi _ _) rfl)) ?_
      refine O.pu (Pu.move (.tmp (v:=.fi _ _) rfl)) ?_
      obtain ⟨q1,Hq1,h⟩:=Option.bind_eq_some_iff.1 h
      refine O.pu (U.call (ss:=[]) (.cons (.tmp (v:=.fi _ _) rfl) (.cons (.tmp (v:=.fi _ _) rfl) .nil)) (.cons (.cl .fi) (.cons (.cl .fi) .nil)) (chattelref01_DivMod.cs Hq1) (.inl rfl) (.tupL (.cons .fi (.cons .fi .nil)))) ?_
      refine O.pu (Pu.move (.tmp (v:=.tup _) rfl)) ?_
      refine O.pu (Pu.extract (.tmp rfl) rfl) ?_
      refine O.pu (Pu.extract (.tmp rfl) rfl) ?_
      refine O.pu (Pu.assign (.tmp (v:=.fi _ _) rfl)) ?_
      refine O.pu (Pu.assign (.tmp (v:=.fi _ _) rfl)) ?_
      refine O.nil ?_
      refine X.seq ?_
      refine X.still ?_
      refine O.pu (Pu.move (.tmp (v:=.fi _ _) rfl)) ?_
      refine O.pu (Pu.assign (.tmp (v:=.fi _ _) rfl)) ?_
      refine O.nil ?_
      refine X.still ?_
      refine O.pu (Pu.move (.tmp (v:=.fi _ _) rfl)) ?_
      refine O.pu (Pu.assign (.tmp (v:=.fi _ _) rfl)) ?_
      refine O.nil ?_
      exact ⟨_,(by omega),_,_,rfl,rfl,h⟩
    · rw [if_neg c] at h
      refine X.exit (B.out ?_)
      refine X.seq ?_
      refine X.still ?_
      refine O.pu (Pu.move (.tmp (v:=.fi _ _) rfl)) ?_
      refine O.pu (Pu.assign (.tmp (v:=.fi _ _) rfl)) ?_
      refine O.nil ?_
      refine X.ret ?_
      cases h
      exact E.fin [] (.tmp (v:=.fi _ _) rfl .nil) (.cons (.cl .fi) .nil)
noncomputable def c71:Code:=Try.f71.body.getD .skip
theorem fn71:FnOk Try.prog 71 Try.f71 c71:=⟨Try.func71,rfl,by kernel_rfl,by kernel_rfl,mixed⟩
theorem chattelref05_Make.cs {k:Nat} {l0_0:List Int} {a0_1:Bool} {l1:List Int} {r:List Int×Bool×List Int} (h:chattelref05_Make.f k l0_0 a0_1 l1=some r):CS Try.prog 71 [.agg [.fi .i64 l0_0, .bool a0_1], .fi .i64 l1] .no [.agg [.fi .i64 r.1, .bool r.2.1, .fi .i64 r.2.2]]:=by
  unfold chattelref05_Make.f at h
  refine E.pure fn71 rfl ?_
  refine X.seq ?_
  refine X.still ?_
  refine O.puE (v':=.op 2 (1) 0 0) (b':=⟨1, .own,_,_⟩) (Pu.box (.tmp (v:=.agg _) rfl) rfl rfl) rfl rfl ?_
  refine O.puE (v':=.op 4 (1) 0 0) (b':=⟨1, .own,(.vals [.agg [.fi .i64 [], .bool false, .fi .i64 []]]),_⟩) Pu.alloc rfl rfl ?_
  refine O.nil ?_
  refine X.seq ?_
  refine X.still ?_
  refine O.pu (U.fieldA rfl rfl rfl (.tmp rfl)) ?_
  refine O.pu (U.load (.tmp rfl) rfl rfl (U.cell rfl rfl rfl)) ?_
  refine O.pu (Pu.move (.tmp (v:=.fi _ _) rfl)) ?_
  obtain ⟨q1,Hq1,h⟩:=Option.bind_eq_some_iff.1 h
  refine O.pu (U.call (ss:=[]) (.cons (.tmp (v:=.fi _ _) rfl) (.cons (.tmp (v:=.fi _ _) rfl) .nil)) (.cons (.cl .fi) (.cons (.cl .fi) .nil)) (chattelref02_Gcd.cs Hq1) (.inl rfl) (.fi)) ?_
  refine O.pu (Pu.assign (.tmp (v:=.fi _ _) rfl)) ?_
  refine O.nil ?_
  refine X.seq ?_
  refine X.still ?_
  refine O.pu (U.fieldA rfl rfl rfl (.tmp rfl)) ?_
  refine O.pu (U.load (.tmp rfl) rfl rfl (U.cell rfl rfl rfl)) ?_
  refine O.pu (Pu.move (.tmp (v:=.fi _ _) rfl)) ?_
  obtain ⟨q2,Hq2,h⟩:=Option.bind_eq_some_iff.1 h
  refine O.pu (U.call (ss:=[]) (.cons (.tmp (v:=.fi _ _) rfl) (.cons (.tmp (v:=.fi _ _) rfl) .nil)) (.cons (.cl .fi) (.cons (.cl .fi) .nil)) (chattelref01_DivMod.cs Hq2) (.inl rfl) (.tupL (.cons .fi (.cons .fi .nil)))) ?_
  refine O.pu (Pu.move (.tmp (v:=.tup _) rfl)) ?_
  refine O.pu (Pu.extract (.tmp rfl) rfl) ?_
  refine O.pu (Pu.extract (.tmp rfl) rfl) ?_
  refine O.pu (Pu.assign (.tmp (v:=.fi _ _) rfl)) ?_
  refine O.pu (Pu.assign (.tmp (v:=.fi _ _) rfl)) ?_
  refine O.nil ?_
  refine X.seq ?_
  refine X.still ?_
  refine O.pu (Pu.move (.tmp (v:=.fi _ _) rfl)) ?_
  refine O.pu (Pu.move (.tmp (v:=.fi _ _) rfl)) ?_
  obtain ⟨q3,Hq3,h⟩:=Option.bind_eq_some_iff.1 h
  refine O.pu (U.call (ss:=[]) (.cons (.tmp (v:=.fi _ _) rfl) (.cons (.tmp (v:=.fi _ _) rfl) .nil)) (.cons (.cl .fi) (.cons (.cl .fi) .nil)) (chattelref01_DivMod.cs Hq3) (.inl rfl) (.tupL (.cons .fi (.cons .fi .nil)))) ?_
  refine O.pu (Pu.move (.tmp (v:=.tup _) rfl)) ?_
  refine O.pu (Pu.extract (.tmp rfl) rfl) ?_
  refine O.pu (Pu.extract (.tmp rfl) rfl) ?_
  refine O.pu (Pu.assign (.tmp (v:=.fi _ _) rfl)) ?_
  refine O.pu (Pu.assign (.tmp (v:=.fi _ _) rfl)) ?_
  refine O.nil ?_
  refine X.seq ?_
  refine X.still ?_
  refine O.pu (Pu.move (.tmp (v:=.fi _ _) rfl)) ?_
  refine O.pu (U.fieldA rfl rfl rfl (.tmp rfl)) ?_
  refine O.pu (U.load (.tmp rfl) rfl rfl (U.cell rfl rfl rfl)) ?_
  obtain ⟨q4,Hq4,h⟩:=Option.bind_eq_some_iff.1 h
  refine O.pu (U.call (ss:=[]) (.cons (.tmp (v:=.fi _ _) rfl) (.cons (.tmp (v:=.bool _) rfl) .nil)) (.cons (.cl .fi) (.cons (.cl .bool) .nil)) (chattelref04_Of.cs Hq4) (.inl rfl) (.aggL (.cons .fi (.cons .bool .nil)))) ?_
  refine O.puE (v':=.op 10 (1) 0 0) (b':=⟨1, .own,(.vals [.agg [.fi .i64 [], .bool false]]),_⟩) Pu.alloc rfl rfl ?_
  refine O.ef0 (U.storeE (.tmp rfl) rfl rfl (.tmp (v:=.agg _) rfl) rfl rfl (.whole (notBad_ne rfl) rfl) .one) ?_
  refine O.nil ?_
  refine X.seq ?_
  refine X.still ?_
  refine O.pu (U.load (.tmp rfl) rfl rfl (U.whole rfl rfl)) ?_
  refine O.pu (Pu.move (.tmp (v:=.fi _ _) rfl)) ?_
  refine O.pu (Pu.build rfl (.cons (.tmp (v:=.agg _) rfl) rfl rfl rfl (.put (.put .done)) (.cons (.tmp (v:=.fi _ _) rfl) rfl rfl rfl (.skip (.skip (.put .done))) .nil))) ?_
  refine O.ef0 (U.storeE (.tmp rfl) rfl rfl (.tmp (v:=.agg _) rfl) rfl rfl (.whole (notBad_ne rfl) rfl) .one) ?_
  refine O.nil ?_
  refine X.ret ?_
  cases h
  exact E.fin [] (.cell rfl rfl (Mode.live_ne rfl) (U.whole rfl rfl) .nil) (.cons (.cl (.aggL (.cons .fi (.cons .bool (.cons .fi .nil))))) .nil)
noncomputable def c82:Code:=Try.f82.body.getD .skip
theorem fn82:FnOk Try.prog 82 Try.f82 c82:=⟨Try.func82,rfl,by kernel_rfl,by kernel_rfl,mixed⟩
theorem chattelref04_Neg.cs {l0_0:List Int} {a0_1:Bool} {r:List Int×Bool} (h:chattelref04_Neg.f l0_0 a0_1=some r):CS Try.prog 82 [.agg [.fi .i64 l0_0, .bool a0_1]] .no [.agg [.fi .i64 r.1, .bool r.2]]:=by
  unfold chattelref04_Neg.f at h
  refine E.pure fn82 rfl ?_
  refine X.seq ?_
  refine X.still ?_
  refine O.puE (v':=.op 1 (1) 0 0) (b':=⟨1, .own,_,_⟩) (Pu.box (.tmp (v:=.agg _) rfl) rfl rfl) rfl rfl ?_
  refine O.puE (v':=.op 2 (1) 0 0) (b':=⟨1, .own,(.vals [.agg [.fi .i64 [], .bool false]]),_⟩) Pu.alloc rfl rfl ?_
  refine O.nil ?_
  refine X.seq ?_
  refine X.still ?_
  refine O.pu (U.fieldA rfl rfl rfl (.tmp rfl)) ?_
  refine O.pu (U.load (.tmp rfl) rfl rfl (U.cell rfl rfl rfl)) ?_
  refine O.pu (U.fieldA rfl rfl rfl (.tmp rfl)) ?_
  refine O.pu (U.load (.tmp rfl) rfl rfl (U.cell rfl rfl rfl)) ?_
  refine O.pu (Pu.un (.tmp rfl) .not) ?_
  obtain ⟨q1,Hq1,h⟩:=Option.bind_eq_some_iff.1 h
  refine O.pu (U.call (ss:=[]) (.cons (.tmp (v:=.fi _ _) rfl) (.cons (.tmp (v:=.bool _) rfl) .nil)) (.cons (.cl .fi) (.cons (.cl .bool) .nil)) (chattelref04_Of.cs Hq1) (.inl rfl) (.aggL (.cons .fi (.cons .bool .nil)))) ?_
  refine O.ef0 (U.storeE (.tmp rfl) rfl rfl (.tmp (v:=.agg _) rfl) rfl rfl (.whole (notBad_ne rfl) rfl) .one) ?_
  refine O.nil ?_
  refine X.ret ?_
  cases h
  exact E.fin [] (.cell rfl rfl (Mode.live_ne rfl) (U.whole rfl rfl) .nil) (.cons (.cl (.aggL (.cons .fi (.cons .bool .nil)))) .nil)
noncomputable def c58:Code:=Try.f58.body.getD .skip
theorem fn58:FnOk Try.prog 58 Try.f58 c58:=⟨Try.func58,rfl,by kernel_rfl,by kernel_rfl,mixed⟩
theorem chattelref05_Of.cs {k:Nat} {l0_0:List Int} {a0_1:Bool} {l1_0:List Int} {a1_1:Bool} {r:List Int×Bool×List Int} (h:chattelref05_Of.f k l0_0 a0_1 l1_0 a1_1=some r):CS Try.prog 58 [.agg [.fi .i64 l0_0, .bool a0_1], .agg [.fi .i64 l1_0, .bool a1_1]] .no [.agg [.fi .i64 r.1, .bool r.2.1, .fi .i64 r.2.2]]:=by
  unfold chattelref05_Of.f at h
  refine E.pure fn58 rfl ?_
  refine X.seq ?_
  refine X.still ?_
  refine O.puE (v':=.op 2 (1) 0 0) (b':=⟨1, .own,_,_⟩) (Pu.box (.tmp (v:=.agg _) rfl) rfl rfl) rfl rfl ?_
  refine O.puE (v':=.op 3 (1) 0 0) (b':=⟨1, .own,_,_⟩) (Pu.box (.tmp (v:=.agg _) rfl) rfl rfl) rfl rfl ?_
  refine O.puE (v':=.op 4 (1) 0 0) (b':=⟨1, .own,(.vals [.agg [.fi .i64 [], .bool false, .fi .i64 []]]),_⟩) Pu.alloc rfl rfl ?_
  refine O.nil ?_
  refine X.seq ?_
  refine X.seq ?_
  refine X.still ?_
  refine O.pu (U.fieldA rfl rfl rfl (.tmp rfl)) ?_
  refine O.pu (U.load (.tmp rfl) rfl rfl (U.cell rfl rfl rfl)) ?_
  refine O.nil ?_
  refine X.cond (.tmp rfl) (fun c=>?_) (fun c=>?_)
  · rw [if_pos c] at h
    refine X.still ?_
    refine O.pu (U.load (.tmp rfl) rfl rfl (U.whole rfl rfl)) ?_
    obtain ⟨q1,Hq1,h⟩:=Option.bind_eq_some_iff.1 h
    refine O.pu (U.call (ss:=[]) (.cons (.tmp (v:=.agg _) rfl) .nil) (.cons (.cl (.aggL (.cons .fi (.cons .bool .nil)))) .nil) (chattelref04_Neg.cs Hq1) (.inl rfl) (.aggL (.cons .fi (.cons .bool .nil)))) ?_
    refine O.ef0 (U.storeE (.tmp rfl) rfl rfl (.tmp (v:=.agg _) rfl) rfl rfl (.whole (notBad_ne rfl) rfl) .one) ?_
    refine O.nil ?_
    refine X.seq ?_
    refine X.still ?_
    refine O.pu (U.load (.tmp rfl) rfl rfl (U.whole rfl rfl)) ?_
    refine O.pu (U.fieldA rfl rfl rfl (.tmp rfl)) ?_
    refine O.pu (U.load (.tmp rfl) rfl rfl (U.cell rfl rfl rfl)) ?_
    obtain ⟨q2,Hq2,h⟩:=Option.bind_eq_some_iff.1 h
    refine O.pu (U.call (ss:=[]) (.cons (.tmp (v:=.agg _) rfl) (.cons (.tmp (v:=.fi _ _) rfl) .nil)) (.cons (.cl (.aggL (.cons .fi (.cons .bool .nil)))) (.cons (.cl .fi) .nil)) (chattelref05_Make.cs Hq2) (.inl rfl) (.aggL (.cons .fi (.cons .bool (.cons .fi .nil))))) ?_
    refine O.ef0 (U.storeE (.tmp rfl) rfl rfl (.tmp (v:=.agg _) rfl) rfl rfl (.whole (notBad_ne rfl) rfl) .one) ?_
    refine O.nil ?_
    refine X.ret ?_
    cases h
    exact E.fin [] (.cell rfl rfl (Mode.live_ne rfl) (U.whole rfl rfl) .nil) (.cons (.cl (.aggL (.cons .fi (.cons .bool (.cons .fi .nil))))) .nil)
  · rw [if_neg (bf c)] at h
    refine X.skip ?_
    refine X.seq ?_
    refine X.still ?_
    refine O.pu (U.load (.tmp rfl) rfl rfl (U.whole rfl rfl)) ?_
    refine O.pu (U.fieldA rfl rfl rfl (.tmp rfl)) ?_
    refine O.pu (U.load (.tmp rfl) rfl rfl (U.cell rfl rfl rfl)) ?_
    obtain ⟨q3,Hq3,h⟩:=Option.bind_eq_some_iff.1 h
    refine O.pu (U.call (ss:=[]) (.cons (.tmp (v:=.agg _) rfl) (.cons (.tmp (v:=.fi _ _) rfl) .nil)) (.cons (.cl (.aggL (.cons .fi (.cons .bool .nil)))) (.cons (.cl .fi) .nil)) (chattelref05_Make.cs Hq3) (.inl rfl) (.aggL (.cons .fi (.cons .bool (.cons .fi .nil))))) ?_
    refine O.ef0 (U.storeE (.tmp rfl) rfl rfl (.tmp (v:=.agg _) rfl) rfl rfl (.whole (notBad_ne rfl) rfl) .one) ?_
    refine O.nil ?_
    refine X.ret ?_
    cases h
    exact E.fin [] (.cell rfl rfl (Mode.live_ne rfl) (U.whole rfl rfl) .nil) (.cons (.cl (.aggL (.cons .fi (.cons .bool (.cons .fi .nil))))) .nil)
noncomputable def c30:Code:=Try.f30.body.getD .skip
theorem fn30:FnOk Try.prog 30 Try.f30 c30:=⟨Try.func30,rfl,by kernel_rfl,by kernel_rfl,mixed⟩
theorem chattelref05_Small.cs {k:Nat} {a0:Int} {a1:Int} {r:List Int×Bool×List Int} (h:chattelref05_Small.f k a0 a1=some r):CS Try.prog 30 [.int .i64 a0, .int .i64 a1] .no [.agg [.fi .i64 r.1, .bool r.2.1, .fi .i64 r.2.2]]:=by
  unfold chattelref05_Small.f at h
  refine E.pure fn30 rfl ?_
  refine X.seq ?_
  refine X.still ?_
  refine O.puE (v':=.op 4 (1) 0 0) (b':=⟨1, .own,(.vals [.agg [.fi .i64 [], .bool false, .fi .i64 []]]),_⟩) Pu.alloc rfl rfl ?_
  refine O.nil ?_
  refine X.seq ?_
  refine X.still ?_
  refine O.pu (Pu.move (.tmp (v:=.int _ _) rfl)) ?_
  obtain ⟨q1,Hq1,h⟩:=Option.bind_eq_some_iff.1 h
  refine O.pu (U.call (ss:=[]) (.cons (.tmp (v:=.int _ _) rfl) .nil) (.cons (.cl .int) .nil) (chattelref04_From.cs Hq1) (.inl rfl) (.aggL (.cons .fi (.cons .bool .nil)))) ?_
  refine O.puE (v':=.op 5 (1) 0 0) (b':=⟨1, .own,(.vals [.agg [.fi .i64 [], .bool false]]),_⟩) Pu.alloc rfl rfl ?_
  refine O.ef0 (U.storeE (.tmp rfl) rfl rfl (.tmp (v:=.agg _) rfl) rfl rfl (.whole (notBad_ne rfl) rfl) .one) ?_
  refine O.nil ?_
  refine X.seq ?_
  refine X.still ?_
  refine O.pu (Pu.move (.tmp (v:=.int _ _) rfl)) ?_
  obtain ⟨q2,Hq2,h⟩:=Option.bind_eq_some_iff.1 h
  refine O.pu (U.call (ss:=[]) (.cons (.tmp (v:=.int _ _) rfl) .nil) (.cons (.cl .int) .nil) (chattelref04_From.cs Hq2) (.inl rfl) (.aggL (.cons .fi (.cons .bool .nil)))) ?_
  refine O.puE (v':=.op 6 (1) 0 0) (b':=⟨1, .own,(.vals [.agg [.fi .i64 [], .bool false]]),_⟩) Pu.alloc rfl rfl ?_
  refine O.ef0 (U.storeE (.tmp rfl) rfl rfl (.tmp (v:=.agg _) rfl) rfl rfl (.whole (notBad_ne rfl) rfl) .one) ?_
  refine O.nil ?_
  refine X.seq ?_
  refine X.still ?_
  refine O.pu (U.load (.tmp rfl) rfl rfl (U.whole rfl rfl)) ?_
  refine O.pu (U.load (.tmp rfl) rfl rfl (U.whole rfl rfl)) ?_
  obtain ⟨q3,Hq3,h⟩:=Option.bind_eq_some_iff.1 h
  refine O.pu (U.call (ss:=[]) (.cons (.tmp (v:=.agg _) rfl) (.cons (.tmp (v:=.agg _) rfl) .nil)) (.cons (.cl (.aggL (.cons .fi (.cons .bool .nil)))) (.cons (.cl (.aggL (.cons .fi (.cons .bool .nil)))) .nil)) (chattelref05_Of.cs Hq3) (.inl rfl) (.aggL (.cons .fi (.cons .bool (.cons .fi .nil))))) ?_
  refine O.ef0 (U.storeE (.tmp rfl) rfl rfl (.tmp (v:=.agg _) rfl) rfl rfl (.whole (notBad_ne rfl) rfl) .one) ?_
  refine O.nil ?_
  refine X.ret ?_
  cases h
  exact E.fin [] (.cell rfl rfl (Mode.live_ne rfl) (U.whole rfl rfl) .nil) (.cons (.cl (.aggL (.cons .fi (.cons .bool (.cons .fi .nil))))) .nil)
noncomputable def c8:Code:=Try.f8.body.getD .skip
theorem fn8:FnOk Try.prog 8 Try.f8 c8:=⟨Try.func8,rfl,by kernel_rfl,by kernel_rfl,mixed⟩
theorem chattellaw13_of.cs {k:Nat} {a0:Int} {a1:Int} {r:List Int×Bool×List Int×List Int×Bool×List Int} (h:chattellaw13_of.f k a0 a1=some r):CS Try.prog 8 [.int .i64 a0, .int .i64 a1] .no [.agg [.fi .u64 r.1, .bool r.2.1, .fi .u64 r.2.2.1], .agg [.fi .i64 r.2.2.2.1, .bool r.2.2.2.2.1, .fi .i64 r.2.2.2.2.2]]:=by
  unfold chattellaw13_of.f at h
  refine E.pure fn8 rfl ?_
  refine X.seq ?_
  refine X.still ?_
  refine O.puE (v':=.op 4 (1) 0 0) (b':=⟨1, .own,(.vals [.agg [.fi .u64 [], .bool false, .fi .u64 []]]),_⟩) Pu.alloc rfl rfl ?_
  refine O.puE (v':=.op 5 (1) 0 0) (b':=⟨1, .own,(.vals [.agg [.fi .i64 [], .bool false, .fi .i64 []]]),_⟩) Pu.alloc rfl rfl ?_
  refine O.nil ?_
  refine X.seq ?_
  refine X.still ?_
  refine O.pu (Pu.move (.tmp (v:=.int _ _) rfl)) ?_
  obtain ⟨q1,Hq1,h⟩:=Option.bind_eq_some_iff.1 h
  refine O.pu (U.call (ss:=[]) (.cons (.tmp (v:=.int _ _) rfl) .nil) (.cons (.cl .int) .nil) (whole_From.cs Hq1) (.inl rfl) (.aggL (.cons .fi (.cons .bool .nil)))) ?_
  refine O.pu (Pu.move (.tmp (v:=.int _ _) rfl)) ?_
  obtain ⟨q2,Hq2,h⟩:=Option.bind_eq_some_iff.1 h
  refine O.pu (U.call (ss:=[]) (.cons (.tmp (v:=.int _ _) rfl) .nil) (.cons (.cl .int) .nil) (whole_From.cs Hq2) (.inl rfl) (.aggL (.cons .fi (.cons .bool .nil)))) ?_
  obtain ⟨q3,Hq3,h⟩:=Option.bind_eq_some_iff.1 h
  refine O.pu (U.call (ss:=[]) (.cons (.tmp (v:=.agg _) rfl) (.cons (.tmp (v:=.agg _) rfl) .nil)) (.cons (.cl (.aggL (.cons .fi (.cons .bool .nil)))) (.cons (.cl (.aggL (.cons .fi (.cons .bool .nil)))) .nil)) (frac_Of.cs Hq3) (.inl rfl) (.tupL (.cons (.aggL (.cons .fi (.cons .bool (.cons .fi .nil)))) (.cons .int .nil)))) ?_
  refine O.pu (Pu.move (.tmp (v:=.tup _) rfl)) ?_
  refine O.pu (Pu.extract (.tmp rfl) rfl) ?_
  refine O.pu (Pu.extract (.tmp rfl) rfl) ?_
  refine O.puE (v':=.op 6 (1) 0 0) (b':=⟨1, .own,(.vals [.agg [.fi .u64 [], .bool false, .fi .u64 []]]),_⟩) Pu.alloc rfl rfl ?_
  refine O.ef0 (U.storeE (.tmp rfl) rfl rfl (.tmp (v:=.agg _) rfl) rfl rfl (.whole (notBad_ne rfl) rfl) .one) ?_
  refine O.pu (Pu.assign (.tmp (v:=.int _ _) rfl)) ?_
  refine O.nil ?_
  refine X.seq ?_
  refine X.drawn ?_
  refine D.pu (U.load (.tmp rfl) rfl rfl (U.whole rfl rfl)) ?_
  refine D.pu (Pu.move (.tmp (v:=.int _ _) rfl)) ?_
  refine D.pu (Pu.move (.tmp (v:=.int _ _) rfl)) ?_
  obtain ⟨q4,Hq4,h⟩:=Option.bind_eq_some_iff.1 h
  refine D.pu (U.call (ss:=[]) (.cons (.tmp (v:=.int _ _) rfl) (.cons (.tmp (v:=.int _ _) rfl) .nil)) (.cons (.cl .int) (.cons (.cl .int) .nil)) (chattelref05_Small.cs Hq4) (.inl rfl) (.aggL (.cons .fi (.cons .bool (.cons .fi .nil))))) ?_
  refine D.ef0 (C.storeE (.tmp rfl) rfl rfl (.tmp (v:=.agg _) rfl) rfl rfl (.whole (notBad_ne rfl) rfl) .one) ?_
  refine D.ef0 (C.storeE (.tmp rfl) rfl rfl (.tmp (v:=.agg _) rfl) rfl rfl (.whole (notBad_ne rfl) rfl) .one) ?_
  refine D.nil (by kernel_rfl) ?_
  refine X.ret ?_
  cases h
  exact E.fin [] (.cell rfl rfl (Mode.live_ne rfl) (U.whole rfl rfl) (.cell rfl rfl (Mode.live_ne rfl) (U.whole rfl rfl) .nil)) (.cons (.cl (.aggL (.cons .fi (.cons .bool (.cons .fi .nil))))) (.cons (.cl (.aggL (.cons .fi (.cons .bool (.cons .fi .nil))))) .nil))
noncomputable def c32:Code:=Try.f32.body.getD .skip
theorem fn32:FnOk Try.prog 32 Try.f32 c32:=⟨Try.func32,rfl,by kernel_rfl,by kernel_rfl,mixed⟩
theorem nat_Nat_Bits.cs {k:Nat} {l0_0:List Int} {r:Int} (h:nat_Nat_Bits.f k l0_0=some r):CS Try.prog 32 [.agg [.fi .u64 l0_0]] .no [.int .i64 r]:=by
  unfold nat_Nat_Bits.f at h
  refine E.pure fn32 rfl ?_
  refine X.seq ?_
  refine X.still ?_
  refine O.puE (v':=.op 1 (1) 0 0) (b':=⟨1, .own,_,_⟩) (Pu.box (.tmp (v:=.agg _) rfl) rfl rfl) rfl rfl ?_
  refine O.pu (Pu.assign .int) ?_
  refine O.nil ?_
  refine X.seq ?_
  refine X.seq ?_
  refine X.still ?_
  refine O.pu (U.load (.tmp rfl) rfl rfl (U.whole rfl rfl)) ?_
  obtain ⟨q1,Hq1,h⟩:=Option.bind_eq_some_iff.1 h
  refine O.pu (U.call (ss:=[]) (.cons (.tmp (v:=.agg _) rfl) .nil) (.cons (.cl (.aggL (.cons .fi .nil))) .nil) (nat_Nat_Zero.cs Hq1) (.inl rfl) (.bool)) ?_
  refine O.nil ?_
  refine X.cond (.tmp rfl) (fun c=>?_) (fun c=>?_)
  · rw [if_pos c] at h
    refine X.seq ?_
    refine X.still ?_
    refine O.pu (Pu.assign .int) ?_
    refine O.nil ?_
    refine X.ret ?_
    cases h
    exact E.fin [] (.tmp (v:=.int _ _) rfl .nil) (.cons (.cl .int) .nil)
  · rw [if_neg (bf c)] at h
    refine X.skip ?_
    refine X.seq ?_
    refine X.still ?_
    refine O.pu (U.fieldA rfl rfl rfl (.tmp rfl)) ?_
    refine O.pu (U.load (.tmp rfl) rfl rfl (U.cell rfl rfl rfl)) ?_
    refine O.pu (Pu.lenI rfl (.tmp rfl)) ?_
    refine O.pu (Pu.bin (.tmp rfl) .int U.sub64) ?_
    refine O.pu (Pu.assign (.tmp (v:=.int _ _) rfl)) ?_
    refine O.nil ?_
    refine X.seq ?_
    refine X.still ?_
    refine O.pu (Pu.move (.tmp (v:=.int _ _) rfl)) ?_
    refine O.pu (Pu.bin .int (.tmp rfl) U.mul64) ?_
    refine O.pu (U.fieldA rfl rfl rfl (.tmp rfl)) ?_
    refine O.pu (U.load (.tmp rfl) rfl rfl (U.cell rfl rfl rfl)) ?_
    refine O.pu (Pu.move (.tmp (v:=.int _ _) rfl)) ?_
    repeat (rw [giff] at h;obtain ⟨_,h⟩:=h)
    refine O.pu (U.rdI rfl rfl (.tmp rfl) (.tmp rfl) (by omega) (by omega)) ?_
    refine O.pu (Pu.loadR (.tmp rfl) (U.self rfl rfl rfl)) ?_
    obtain ⟨q2,Hq2,h⟩:=Option.bind_eq_some_iff.1 h
    refine O.pu (U.call (ss:=[]) (.cons (.tmp (v:=.int _ _) rfl) .nil) (.cons (.cl .int) .nil) (bits_Len64.cs Hq2) (.inl rfl) (.int)) ?_
    refine O.pu (Pu.bin (.tmp rfl) (.tmp rfl) U.add64) ?_
    refine O.pu (Pu.assign (.tmp (v:=.int _ _) rfl)) ?_
    refine O.nil ?_
    refine X.ret ?_
    cases h
    exact E.fin [] (.tmp (v:=.int _ _) rfl .nil) (.cons (.cl .int) .nil)
noncomputable def c74:Code:=Try.f74.body.getD .skip
theorem fn74:FnOk Try.prog 74 Try.f74 c74:=⟨Try.func74,rfl,by kernel_rfl,by kernel_rfl,mixed⟩
theorem nat_Nat_row.cs {k:Nat} {l0_0:List Int} {a1:Int} {l2:List Int} {r:List Int} (h:nat_Nat_row.f k l0_0 a1 l2=some r):CS Try.prog 74 [.agg [.fi .u64 l0_0], .int .u64 a1, .os 2 1 0 l2.length false] ⟨some (2, .ints .u64 l2, .ints .u64 r,77),none⟩ []:=by
  have hl:=nat_Nat_row_len h
  unfold nat_Nat_row.f at h
  refine E.win fn74 rfl hl (.tupL .nil) ?_
  refine X.seq ?_
  refine X.still ?_
  refine O.puE (v':=.op 3 (1) 0 0) (b':=⟨1, .own,_,_⟩) (Pu.box (.tmp (v:=.agg _) rfl) rfl rfl) rfl rfl ?_
  refine O.nil ?_
  refine X.seq ?_
  refine X.still ?_
  refine O.pu (Pu.assign .int) ?_
  refine O.nil ?_
  refine X.seq ?_
  refine X.seq ?_
  refine X.still ?_
  refine O.pu (U.fieldA rfl rfl rfl (.tmp rfl)) ?_
  refine O.pu (U.load (.tmp rfl) rfl rfl (U.cell rfl rfl rfl)) ?_
  refine O.pu (Pu.lenI rfl (.tmp rfl)) ?_
  refine O.pu (Pu.move .int) ?_
  refine O.nil ?_
  refine X.block ?_
  refine X.inv (fun k s=>∃ x1 x2 x6 x13 x14 x15 x600000 n2 u3,s.t 1 = .int .u64 x1∧s.b 2=⟨1, .win, .ints .u64 x2,77⟩∧s.t 2 = .os 2 1 0 n2 false∧x2.length=n2∧s.t 6 = .int .u64 x6∧s.t 13 = .fi .u64 x13∧s.t 14 = .int .i64 x14∧s.t 15 = .int .i64 x15∧s.t 3 = .op 3 u3 0 0∧s.b 3=⟨u3, .own, .vals [.agg [.fi .u64 x600000]],24⟩∧nat_Nat_row.l0 k x1 x2 x6 x13 x14 x15 x600000=some r) ?_ ?_ ⟨_,_,_,_,_,_,_,_,_,rfl,rfl,rfl,rfl,rfl,rfl,rfl,rfl,rfl,rfl,h⟩
  · rintro s ⟨_,_,_,_,_,_,_,_,_,_,_,_,_,_,_,_,_,_,_,h⟩;unfold nat_Nat_row.l0 at h;cases h
  · rintro k1 s1 ⟨x1,x2,x6,x13,x14,x15,x600000,n2,u3,e0,e1,e2,rfl,e4,e5,e6,e7,e8,e9,h⟩
    unfold nat_Nat_row.l0 at h
    rw [St.fixT e0,St.fixB e1,St.fixT e2,St.fixT e4,St.fixT e5,St.fixT e6,St.fixT e7,St.fixT e8,St.fixB e9]
    refine X.seq ?_
    refine X.still ?_
    refine O.pu (Pu.bin (.tmp rfl) (.tmp rfl) .lss) ?_
    refine O.nil ?_
    refine X.seq ?_
    refine X.condP (.tmp rfl) (fun c=>?_) (fun c=>?_)
    · rw [if_pos c] at h
      refine X.skip ?_
      refine X.seq ?_
      refine X.block ?_
      refine X.seq ?_
      refine X.still ?_
      refine O.pu (Pu.move (.tmp (v:=.int _ _) rfl)) ?_
      repeat (rw [giff] at h;obtain ⟨_,h⟩:=h)
      refine O.pu (U.rdI rfl rfl (.tmp rfl) (.tmp rfl) (by omega) (by omega)) ?_
      refine O.pu (Pu.loadR (.tmp rfl) (U.self rfl rfl rfl)) ?_
      refine O.pu (Pu.assign (.tmp (v:=.int _ _) rfl)) ?_
      refine O.pu (Pu.assign (.tmp (v:=.int _ _) rfl)) ?_
      refine O.nil ?_
      refine X.seq ?_
      refine X.still ?_
      refine O.pu (Pu.move (.tmp (v:=.int _ _) rfl)) ?_
      refine O.pu (Pu.move (.tmp (v:=.int _ _) rfl)) ?_
      obtain ⟨q1,Hq1,h⟩:=Option.bind_eq_some_iff.1 h
      refine O.pu (U.call (ss:=[]) (.cons (.tmp (v:=.int _ _) rfl) (.cons (.tmp (v:=.int _ _) rfl) .nil)) (.cons (.cl .int) (.cons (.cl .int) .nil)) (bits_Mul64.cs Hq1) (.inl rfl) (.tupL (.cons .int (.cons .int .nil)))) ?_
      refine O.pu (Pu.move (.tmp (v:=.tup _) rfl)) ?_
      refine O.pu (Pu.extract (.tmp rfl) rfl) ?_
      refine O.pu (Pu.extract (.tmp rfl) rfl) ?_
      refine O.pu (Pu.assign (.tmp (v:=.int _ _) rfl)) ?_
      refine O.pu (Pu.assign (.tmp (v:=.int _ _) rfl)) ?_
      refine O.nil ?_
      refine X.seq ?_
      refine X.still ?_
      refine O.pu (Pu.assign .int) ?_
      refine O.nil ?_
      refine X.seq ?_
      refine X.still ?_
      refine O.pu (Pu.move (.tmp (v:=.int _ _) rfl)) ?_
      refine O.pu (Pu.move (.tmp (v:=.int _ _) rfl)) ?_
      repeat (rw [giff] at h;obtain ⟨_,h⟩:=h)
      refine O.pu (U.call (ss:=[]) (.cons (.tmp (v:=.int _ _) rfl) (.cons (.tmp (v:=.int _ _) rfl) (.cons .int .nil))) (.cons (.cl .int) (.cons (.cl .int) (.cons (.cl .int) .nil))) (add64_cs (by omega)) (.inl rfl) (.tupL (.cons .int (.cons .int .nil)))) ?_
      refine O.pu (Pu.move (.tmp (v:=.tup _) rfl)) ?_
      refine O.pu (Pu.extract (.tmp rfl) rfl) ?_
      refine O.pu (Pu.extract (.tmp rfl) rfl) ?_
      refine O.pu (Pu.assign (.tmp (v:=.int _ _) rfl)) ?_
      refine O.pu (Pu.assign (.tmp (v:=.int _ _) rfl)) ?_
      refine O.nil ?_
      refine X.seq ?_
      refine X.still ?_
      refine O.pu (Pu.move (.tmp (v:=.int _ _) rfl)) ?_
      refine O.pu (Pu.move (.tmp (v:=.int _ _) rfl)) ?_
      refine O.pu (Pu.bin (.tmp rfl) (.tmp rfl) .add) ?_
      refine O.pu (Pu.assign (.tmp (v:=.int _ _) rfl)) ?_
      refine O.nil ?_
      refine X.seq ?_
      refine X.still ?_
      refine O.pu (Pu.move (.tmp (v:=.os _ _ _ _ _) rfl)) ?_
      refine O.pu (Pu.move (.tmp (v:=.int _ _) rfl)) ?_
      refine O.pu (Pu.move (.tmp (v:=.os _ _ _ _ _) rfl)) ?_
      refine O.pu (Pu.move (.tmp (v:=.int _ _) rfl)) ?_
      refine O.pu (U.indexO0 rfl (.tmp rfl) rfl rfl (.tmp rfl) (by first|omega|(simp only [List.length_set] at *;omega)) (by first|omega|(simp only [List.length_set] at *;omega)) rfl rfl) ?_
      refine O.pu (U.rdO (.tmp rfl) rfl rfl rfl rfl rfl) ?_
      refine O.pu (Pu.move (.tmp (v:=.int _ _) rfl)) ?_
      refine O.pu (U.call (ss:=[]) (.cons (.tmp (v:=.int _ _) rfl) (.cons (.tmp (v:=.int _ _) rfl) (.cons .int .nil))) (.cons (.cl .int) (.cons (.cl .int) (.cons (.cl .int) .nil))) (add64_cs (by omega)) (.inl rfl) (.tupL (.cons .int (.cons .int .nil)))) ?_
      refine O.pu (Pu.move (.tmp (v:=.tup _) rfl)) ?_
      refine O.pu (Pu.extract (.tmp rfl) rfl) ?_
      refine O.pu (Pu.extract (.tmp rfl) rfl) ?_
      refine O.pu (U.indexO0 rfl (.tmp rfl) rfl rfl (.tmp rfl) (by first|omega|(simp only [List.length_set] at *;omega)) (by first|omega|(simp only [List.length_set] at *;omega)) rfl rfl) ?_
      refine O.ef0 (U.storeE (.tmp rfl) rfl rfl (.tmp (v:=.int _ _) rfl) rfl rfl (.whole (notBad_ne rfl) rfl) .ints) ?_
      refine O.pu (Pu.assign (.tmp (v:=.int _ _) rfl)) ?_
      refine O.nil ?_
      refine X.still ?_
      refine O.pu (Pu.move (.tmp (v:=.int _ _) rfl)) ?_
      refine O.pu (Pu.move (.tmp (v:=.int _ _) rfl)) ?_
      refine O.pu (Pu.bin (.tmp rfl) (.tmp rfl) .add) ?_
      refine O.pu (Pu.assign (.tmp (v:=.int _ _) rfl)) ?_
      refine O.nil ?_
      refine X.still ?_
      refine O.pu (Pu.bin (.tmp rfl) .int U.add64) ?_
      refine O.pu (Pu.move (.tmp (v:=.int _ _) rfl)) ?_
      refine O.nil ?_
      exact ⟨_,(by omega),_,_,_,_,_,_,_,_,_,rfl,rfl,rfl,(by first|rfl|(simp only [List.length_set];done)|(simp only [List.length_drop,List.length_take,List.length_append,List.length_set] at *;omega)),rfl,rfl,rfl,rfl,rfl,rfl,h⟩
    · rw [if_neg c] at h
      refine X.exit (B.out ?_)
      refine X.still ?_
      refine O.pu (Pu.move (.tmp (v:=.os _ _ _ _ _) rfl)) ?_
      refine O.pu (U.fieldA rfl rfl rfl (.tmp rfl)) ?_
      refine O.pu (U.load (.tmp rfl) rfl rfl (U.cell rfl rfl rfl)) ?_
      refine O.pu (Pu.lenI rfl (.tmp rfl)) ?_
      repeat (rw [giff] at h;obtain ⟨_,h⟩:=h)
      refine O.pu (U.indexO0 rfl (.tmp rfl) rfl rfl (.tmp rfl) (by first|omega|(simp only [List.length_set] at *;omega)) (by first|omega|(simp only [List.length_set] at *;omega)) rfl rfl) ?_
      refine O.pu (U.rdO (.tmp rfl) rfl rfl rfl rfl rfl) ?_
      refine O.pu (Pu.move (.tmp (v:=.int _ _) rfl)) ?_
      refine O.pu (Pu.bin (.tmp rfl) (.tmp rfl) .add) ?_
      refine O.pu (U.indexO0 rfl (.tmp rfl) rfl rfl (.tmp rfl) (by first|omega|(simp only [List.length_set] at *;omega)) (by first|omega|(simp only [List.length_set] at *;omega)) rfl rfl) ?_
      refine O.ef0 (U.storeE (.tmp rfl) rfl rfl (.tmp (v:=.int _ _) rfl) rfl rfl (.whole (notBad_ne rfl) rfl) .ints) ?_
      refine O.nil ?_
      cases h
      exact E.finW .nil rfl
noncomputable def c48:Code:=Try.f48.body.getD .skip
theorem fn48:FnOk Try.prog 48 Try.f48 c48:=⟨Try.func48,rfl,by kernel_rfl,by kernel_rfl,mixed⟩
theorem nat_Nat_Mul.cs {k:Nat} {l0_0:List Int} {l1_0:List Int} {r:List Int} (h:nat_Nat_Mul.f k l0_0 l1_0=some r):CS Try.prog 48 [.agg [.fi .u64 l0_0], .agg [.fi .u64 l1_0]] .no [.agg [.fi .u64 r]]:=by
  unfold nat_Nat_Mul.f at h
  refine E.pure fn48 rfl ?_
  refine X.seq ?_
  refine X.still ?_
  refine O.puE (v':=.op 2 (1) 0 0) (b':=⟨1, .own,_,_⟩) (Pu.box (.tmp (v:=.agg _) rfl) rfl rfl) rfl rfl ?_
  refine O.puE (v':=.op 3 (1) 0 0) (b':=⟨1, .own,_,_⟩) (Pu.box (.tmp (v:=.agg _) rfl) rfl rfl) rfl rfl ?_
  refine O.puE (v':=.op 4 (1) 0 0) (b':=⟨1, .own,(.vals [.agg [.fi .u64 []]]),_⟩) Pu.alloc rfl rfl ?_
  refine O.nil ?_
  refine X.seq ?_
  refine X.still ?_
  refine O.pu (U.fieldA rfl rfl rfl (.tmp rfl)) ?_
  refine O.pu (U.load (.tmp rfl) rfl rfl (U.cell rfl rfl rfl)) ?_
  refine O.pu (Pu.lenI rfl (.tmp rfl)) ?_
  refine O.pu (U.fieldA rfl rfl rfl (.tmp rfl)) ?_
  refine O.pu (U.load (.tmp rfl) rfl rfl (U.cell rfl rfl rfl)) ?_
  refine O.pu (Pu.lenI rfl (.tmp rfl)) ?_
  refine O.pu (Pu.bin (.tmp rfl) (.tmp rfl) U.add64) ?_
  refine O.pu (Pu.bin (.tmp rfl) .int U.add64) ?_
  repeat (rw [giff] at h;obtain ⟨_,h⟩:=h)
  refine O.puE (v':=.os 16 (1) 0 _ true) (b':=⟨1, .own,_,_⟩) (U.makeI rfl rfl (.tmp rfl) (.tmp rfl) (by omega) (by omega) rfl (by omega)) rfl rfl ?_
  refine O.pu (Pu.assign (.tmp (v:=.os _ _ _ _ _) rfl)) ?_
  refine O.nil ?_
  refine X.seq ?_
  refine X.seq ?_
  refine X.still ?_
  refine O.pu (U.fieldA rfl rfl rfl (.tmp rfl)) ?_
  refine O.pu (U.load (.tmp rfl) rfl rfl (U.cell rfl rfl rfl)) ?_
  refine O.pu (Pu.lenI rfl (.tmp rfl)) ?_
  refine O.pu (Pu.move .int) ?_
  refine O.nil ?_
  refine X.block ?_
  refine X.inv (fun k s=>∃ x5 x18 x19 x20 x608000 n5 u16 u2 u3 u4 z3_0,s.b 16=⟨u16, .own, .ints .u64 x5,77⟩∧s.t 5 = .os 16 u16 0 n5 true∧x5.length=n5∧s.t 18 = .fi .u64 x18∧s.t 19 = .int .i64 x19∧s.t 20 = .int .i64 x20∧s.t 2 = .op 2 u2 0 0∧s.b 2=⟨u2, .own, .vals [.agg [.fi .u64 x608000]],24⟩∧s.t 3 = .op 3 u3 0 0∧s.b 3=⟨u3, .own, .vals [.agg [.fi .u64 z3_0]],24⟩∧s.t 4 = .op 4 u4 0 0∧s.b 4=⟨u4, .own, .vals [.agg [.fi .u64 []]],24⟩∧nat_Nat_Mul.l0 k x5 x18 x19 x20 x608000=some r) ?_ ?_ ⟨_,_,_,_,_,_,_,_,_,_,_,rfl,rfl,rfl,rfl,rfl,rfl,rfl,rfl,rfl,rfl,rfl,rfl,h⟩
  · rintro s ⟨_,_,_,_,_,_,_,_,_,_,_,_,_,_,_,_,_,_,_,_,_,_,_,h⟩;unfold nat_Nat_Mul.l0 at h;cases h
  · rintro k1 s1 ⟨x5,x18,x19,x20,x608000,n5,u16,u2,u3,u4,z3_0,e0,e1,rfl,e3,e4,e5,e6,e7,e8,e9,e10,e11,h⟩
    unfold nat_Nat_Mul.l0 at h
    rw [St.fixB e0,St.fixT e1,St.fixT e3,St.fixT e4,St.fixT e5,St.fixT e6,St.fixB e7,St.fixT e8,St.fixB e9,St.fixT e10,St.fixB e11]
    refine X.seq ?_
    refine X.still ?_
    refine O.pu (Pu.bin (.tmp rfl) (.tmp rfl) .lss) ?_
    refine O.nil ?_
    refine X.seq ?_
    refine X.condP (.tmp rfl) (fun c=>?_) (fun c=>?_)
    · rw [if_pos c] at h
      refine X.skip ?_
      refine X.seq ?_
      refine X.block ?_
      refine X.seq ?_
      refine X.still ?_
      refine O.pu (Pu.move (.tmp (v:=.int _ _) rfl)) ?_
      repeat (rw [giff] at h;obtain ⟨_,h⟩:=h)
      refine O.pu (U.rdI rfl rfl (.tmp rfl) (.tmp rfl) (by omega) (by omega)) ?_
      refine O.pu (Pu.loadR (.tmp rfl) (U.self rfl rfl rfl)) ?_
      refine O.pu (Pu.assign (.tmp (v:=.int _ _) rfl)) ?_
      refine O.pu (Pu.assign (.tmp (v:=.int _ _) rfl)) ?_
      refine O.nil ?_
      refine X.drawn ?_
      refine D.pu (U.load (.tmp rfl) rfl rfl (U.whole rfl rfl)) ?_
      refine D.pu (Pu.move (.tmp (v:=.int _ _) rfl)) ?_
      refine D.pu (Pu.move (.tmp (v:=.os _ _ _ _ _) rfl)) ?_
      refine D.pu (Pu.move (.tmp (v:=.int _ _) rfl)) ?_
      obtain ⟨q1,Hq1,h⟩:=Option.bind_eq_some_iff.1 h
      obtain ⟨⟨_,_,_⟩,q2,Hq2,rfl⟩:=win_e Hq1
      have hlq2:=nat_Nat_row_len Hq2
      refine D.pu (U.sliceO0 rfl (.tmp rfl) rfl rfl ⟨rfl,rfl⟩ (.yes (.tmp rfl) (by omega)) .no .no (by omega) (by omega)) ?_
      refine D.any (U.callW (res:=[]) (ss:=[]) (.cons (.tmp (v:=.agg _) rfl) (.cons (.tmp (v:=.int _ _) rfl) (.cons (.tmp (v:=.os _ _ _ _ _) rfl) .nil))) (.cons (.cl (.aggL (.cons .fi .nil))) (.cons (.cl .int) (.hole ⟨rfl,fun i hi=>absurd hi (Nat.not_lt_zero i)⟩))) rfl rfl rfl rfl rfl (by simp only [List.length_drop,List.length_take,List.length_append,List.length_set] at *;omega) (by simp only [List.length_drop,List.length_take,List.length_append,List.length_set] at *;omega) (by simp only [List.length_drop,List.length_take,List.length_append,List.length_set] at *;omega) (by simp only [List.length_drop,List.length_take,List.length_append,List.length_set] at *;omega) (.tupL .nil) (nat_Nat_row.cs Hq2)) ?_
      refine D.nil (by kernel_rfl) ?_
      refine X.still ?_
      refine O.pu (Pu.bin (.tmp rfl) .int U.add64) ?_
      refine O.pu (Pu.move (.tmp (v:=.int _ _) rfl)) ?_
      refine O.nil ?_
      exact ⟨_,(by omega),_,_,_,_,_,_,_,_,_,_,_,rfl,rfl,(by first|rfl|(simp only [List.length_set];done)|(simp only [List.length_drop,List.length_take,List.length_append,List.length_set] at *;omega)),rfl,rfl,rfl,rfl,rfl,rfl,rfl,rfl,rfl,h⟩
    · rw [if_neg c] at h
      refine X.exit (B.out ?_)
      refine X.seq ?_
      refine X.still ?_
      refine O.pu (Pu.move (.tmp (v:=.os _ _ _ _ _) rfl)) ?_
      obtain ⟨q3,Hq3,h⟩:=Option.bind_eq_some_iff.1 h
      refine O.ef (U.callZ (ss:=[16]) (.cons (.tmp (v:=.os _ _ _ _ _) rfl) .nil) (.cons (.osIf (by simp) rfl (Mode.live_ne rfl) rfl (by first|rfl|(simp only [List.length_set];done)|(simp only [List.length_drop,List.length_take,List.length_append,List.length_set] at *;omega))) .nil) (nat_trimmed.cs Hq3) (.aggL (.cons .fi .nil)) (nowin rfl)) ?_
      refine O.ef0 (U.storeE (.tmp rfl) rfl rfl (.tmp (v:=.agg _) rfl) rfl rfl (.whole (notBad_ne rfl) rfl) .one) ?_
      refine O.nil ?_
      refine X.ret ?_
      cases h
      exact E.fin [] (.cell rfl rfl (Mode.live_ne rfl) (U.whole rfl rfl) .nil) (.cons (.cl (.aggL (.cons .fi .nil))) .nil)
noncomputable def c33:Code:=Try.f33.body.getD .skip
theorem fn33:FnOk Try.prog 33 Try.f33 c33:=⟨Try.func33,rfl,by kernel_rfl,by kernel_rfl,mixed⟩
theorem digits_power.cs {k:Nat} {l0_0:List Int} {a1:Int} {r:List Int} (h:digits_power.f k l0_0 a1=some r):CS Try.prog 33 [.agg [.fi .u64 l0_0], .int .i64 a1] .no [.agg [.fi .u64 r]]:=by
  unfold digits_power.f at h
  refine E.pure fn33 rfl ?_
  refine X.seq ?_
  refine X.still ?_
  refine O.puE (v':=.op 2 (1) 0 0) (b':=⟨1, .own,_,_⟩) (Pu.box (.tmp (v:=.agg _) rfl) rfl rfl) rfl rfl ?_
  refine O.puE (v':=.op 4 (1) 0 0) (b':=⟨1, .own,(.vals [.agg [.fi .u64 []]]),_⟩) Pu.alloc rfl rfl ?_
  refine O.nil ?_
  refine X.seq ?_
  refine X.still ?_
  refine O.puE (v':=.os 6 (1) 0 _ true) (b':=⟨1, .own,_,_⟩) (U.litI rfl rfl (.cons .int .nil) rfl rfl) rfl rfl ?_
  obtain ⟨q1,Hq1,h⟩:=Option.bind_eq_some_iff.1 h
  refine O.ef (U.callZ (ss:=[6]) (.cons (.tmp (v:=.os _ _ _ _ _) rfl) .nil) (.cons (.osIf (by simp) rfl (Mode.live_ne rfl) rfl (by first|rfl|(simp only [List.length_set];done)|(simp only [List.length_drop,List.length_take,List.length_append,List.length_set] at *;omega))) .nil) (nat_Of.cs Hq1) (.aggL (.cons .fi .nil)) (nowin rfl)) ?_
  refine O.puE (v':=.op 5 (1) 0 0) (b':=⟨1, .own,(.vals [.agg [.fi .u64 []]]),_⟩) Pu.alloc rfl rfl ?_
  refine O.ef0 (U.storeE (.tmp rfl) rfl rfl (.tmp (v:=.agg _) rfl) rfl rfl (.whole (notBad_ne rfl) rfl) .one) ?_
  refine O.nil ?_
  refine X.seq ?_
  refine X.block ?_
  refine X.inv (fun k s=>∃ x1 x619000 x627000 u2 u4 u5,s.t 1 = .int .i64 x1∧s.t 2 = .op 2 u2 0 0∧s.b 2=⟨u2, .own, .vals [.agg [.fi .u64 x619000]],24⟩∧s.t 4 = .op 4 u4 0 0∧s.b 4=⟨u4, .own, .vals [.agg [.fi .u64 []]],24⟩∧s.t 5 = .op 5 u5 0 0∧s.b 5=⟨u5, .own, .vals [.agg [.fi .u64 x627000]],24⟩∧digits_power.l0 k x1 x619000 x627000=some r) ?_ ?_ ⟨_,_,_,_,_,_,rfl,rfl,rfl,rfl,rfl,rfl,rfl,h⟩
  · rintro s ⟨_,_,_,_,_,_,_,_,_,_,_,_,_,h⟩;unfold digits_power.l0 at h;cases h
  · rintro k1 s1 ⟨x1,x619000,x627000,u2,u4,u5,e0,e1,e2,e3,e4,e5,e6,h⟩
    unfold digits_power.l0 at h
    rw [St.fixT e0,St.fixT e1,St.fixB e2,St.fixT e3,St.fixB e4,St.fixT e5,St.fixB e6]
    refine X.seq ?_
    refine X.seq ?_
    refine X.still ?_
    refine O.pu (Pu.move (.tmp (v:=.int _ _) rfl)) ?_
    refine O.pu (Pu.bin (.tmp rfl) .int .gtr) ?_
    refine O.nil ?_
    refine X.condP (.tmp rfl) (fun c=>?_) (fun c=>?_)
    · rw [if_pos c] at h
      refine X.skip ?_
      refine X.seq ?_
      refine X.block ?_
      refine X.seq ?_
      refine X.seq ?_
      refine X.still ?_
      refine O.pu (Pu.move (.tmp (v:=.int _ _) rfl)) ?_
      refine O.pu (Pu.bin (.tmp rfl) .int .band) ?_
      refine O.pu (Pu.bin (.tmp rfl) .int .eql) ?_
      refine O.nil ?_
      refine X.condE (.tmp rfl) (fun c=>?_) (fun c=>?_)
      · rw [if_pos c] at h
        refine X.still ?_
        refine O.pu (U.load (.tmp rfl) rfl rfl (U.whole rfl rfl)) ?_
        refine O.pu (U.load (.tmp rfl) rfl rfl (U.whole rfl rfl)) ?_
        obtain ⟨q2,Hq2,h⟩:=Option.bind_eq_some_iff.1 h
        refine O.pu (U.call (ss:=[]) (.cons (.tmp (v:=.agg _) rfl) (.cons (.tmp (v:=.agg _) rfl) .nil)) (.cons (.cl (.aggL (.cons .fi .nil))) (.cons (.cl (.aggL (.cons .fi .nil))) .nil)) (nat_Nat_Mul.cs Hq2) (.inl rfl) (.aggL (.cons .fi .nil))) ?_
        refine O.ef0 (U.storeE (.tmp rfl) rfl rfl (.tmp (v:=.agg _) rfl) rfl rfl (.whole (notBad_ne rfl) rfl) .one) ?_
        refine O.nil ?_
        refine X.seq ?_
        refine X.still ?_
        refine O.pu (Pu.move (.tmp (v:=.int _ _) rfl)) ?_
        refine O.pu (Pu.bin (.tmp rfl) .int .gtr) ?_
        refine O.nil ?_
        refine X.condP (.tmp rfl) (fun c=>?_) (fun c=>?_)
        · rw [if_pos c] at h
          refine X.still ?_
          refine O.pu (U.load (.tmp rfl) rfl rfl (U.whole rfl rfl)) ?_
          refine O.pu (U.load (.tmp rfl) rfl rfl (U.whole rfl rfl)) ?_
          obtain ⟨q3,Hq3,h⟩:=Option.bind_eq_some_iff.1 h
          refine O.pu (U.call (ss:=[]) (.cons (.tmp (v:=.agg _) rfl) (.cons (.tmp (v:=.agg _) rfl) .nil)) (.cons (.cl (.aggL (.cons .fi .nil))) (.cons (.cl (.aggL (.cons .fi .nil))) .nil)) (nat_Nat_Mul.cs Hq3) (.inl rfl) (.aggL (.cons .fi .nil))) ?_
          refine O.ef0 (U.storeE (.tmp rfl) rfl rfl (.tmp (v:=.agg _) rfl) rfl rfl (.whole (notBad_ne rfl) rfl) .one) ?_
          refine O.nil ?_
          refine X.still ?_
          refine O.pu (Pu.move (.tmp (v:=.int _ _) rfl)) ?_
          refine O.pu (Pu.bin (.tmp rfl) .int (U.shrC 2 (by decide) (by decide))) ?_
          refine O.pu (Pu.assign (.tmp (v:=.int _ _) rfl)) ?_
          refine O.nil ?_
          exact ⟨_,(by omega),_,_,_,_,_,_,rfl,rfl,rfl,rfl,rfl,rfl,rfl,h⟩
        · rw [if_neg c] at h
          refine X.skip ?_
          refine X.still ?_
          refine O.pu (Pu.move (.tmp (v:=.int _ _) rfl)) ?_
          refine O.pu (Pu.bin (.tmp rfl) .int (U.shrC 2 (by decide) (by decide))) ?_
          refine O.pu (Pu.assign (.tmp (v:=.int _ _) rfl)) ?_
          refine O.nil ?_
          exact ⟨_,(by omega),_,_,_,_,_,_,rfl,rfl,rfl,rfl,rfl,rfl,rfl,h⟩
      · rw [if_neg c] at h
        refine X.skip ?_
        refine X.seq ?_
        refine X.still ?_
        refine O.pu (Pu.move (.tmp (v:=.int _ _) rfl)) ?_
        refine O.pu (Pu.bin (.tmp rfl) .int .gtr) ?_
        refine O.nil ?_
        refine X.condP (.tmp rfl) (fun c=>?_) (fun c=>?_)
        · rw [if_pos c] at h
          refine X.still ?_
          refine O.pu (U.load (.tmp rfl) rfl rfl (U.whole rfl rfl)) ?_
          refine O.pu (U.load (.tmp rfl) rfl rfl (U.whole rfl rfl)) ?_
          obtain ⟨q4,Hq4,h⟩:=Option.bind_eq_some_iff.1 h
          refine O.pu (U.call (ss:=[]) (.cons (.tmp (v:=.agg _) rfl) (.cons (.tmp (v:=.agg _) rfl) .nil)) (.cons (.cl (.aggL (.cons .fi .nil))) (.cons (.cl (.aggL (.cons .fi .nil))) .nil)) (nat_Nat_Mul.cs Hq4) (.inl rfl) (.aggL (.cons .fi .nil))) ?_
          refine O.ef0 (U.storeE (.tmp rfl) rfl rfl (.tmp (v:=.agg _) rfl) rfl rfl (.whole (notBad_ne rfl) rfl) .one) ?_
          refine O.nil ?_
          refine X.still ?_
          refine O.pu (Pu.move (.tmp (v:=.int _ _) rfl)) ?_
          refine O.pu (Pu.bin (.tmp rfl) .int (U.shrC 2 (by decide) (by decide))) ?_
          refine O.pu (Pu.assign (.tmp (v:=.int _ _) rfl)) ?_
          refine O.nil ?_
          exact ⟨_,(by omega),_,_,_,_,_,_,rfl,rfl,rfl,rfl,rfl,rfl,rfl,h⟩
        · rw [if_neg c] at h
          refine X.skip ?_
          refine X.still ?_
          refine O.pu (Pu.move (.tmp (v:=.int _ _) rfl)) ?_
          refine O.pu (Pu.bin (.tmp rfl) .int (U.shrC 2 (by decide) (by decide))) ?_
          refine O.pu (Pu.assign (.tmp (v:=.int _ _) rfl)) ?_
          refine O.nil ?_
          exact ⟨_,(by omega),_,_,_,_,_,_,rfl,rfl,rfl,rfl,rfl,rfl,rfl,h⟩
    · rw [if_neg c] at h
      refine X.exit (B.out ?_)
      refine X.seq ?_
      refine X.still ?_
      refine O.pu (U.load (.tmp rfl) rfl rfl (U.whole rfl rfl)) ?_
      refine O.ef0 (U.storeE (.tmp rfl) rfl rfl (.tmp (v:=.agg _) rfl) rfl rfl (.whole (notBad_ne rfl) rfl) .one) ?_
      refine O.nil ?_
      refine X.ret ?_
      cases h
      exact E.fin [] (.cell rfl rfl (Mode.live_ne rfl) (U.whole rfl rfl) .nil) (.cons (.cl (.aggL (.cons .fi .nil))) .nil)
noncomputable def c10:Code:=Try.f10.body.getD .skip
theorem fn10:FnOk Try.prog 10 Try.f10 c10:=⟨Try.func10,rfl,by kernel_rfl,by kernel_rfl,mixed⟩
theorem digits_Pow.cs {k:Nat} {l0_0:List Int} {a1:Int} {r:List Int×Int} (h:digits_Pow.f k l0_0 a1=some r):CS Try.prog 10 [.agg [.fi .u64 l0_0], .int .i64 a1] .no [.agg [.fi .u64 r.1], .int .i64 r.2]:=by
  unfold digits_Pow.f at h
  refine E.pure fn10 rfl ?_
  refine X.seq ?_
  refine X.still ?_
  refine O.puE (v':=.op 2 (1) 0 0) (b':=⟨1, .own,_,_⟩) (Pu.box (.tmp (v:=.agg _) rfl) rfl rfl) rfl rfl ?_
  refine O.puE (v':=.op 4 (1) 0 0) (b':=⟨1, .own,(.vals [.agg [.fi .u64 []]]),_⟩) Pu.alloc rfl rfl ?_
  refine O.pu (Pu.assign .int) ?_
  refine O.nil ?_
  refine X.seq ?_
  refine X.block ?_
  refine X.seq ?_
  refine X.still ?_
  refine O.pu (Pu.move (.tmp (v:=.int _ _) rfl)) ?_
  refine O.pu (Pu.bin (.tmp rfl) .int .lss) ?_
  refine O.pu (Pu.assign (.tmp (v:=.bool _) rfl)) ?_
  refine O.nil ?_
  refine X.condP (.tmp rfl) (fun c=>?_) (fun c=>?_)
  · rw [if_pos c] at h
    refine X.seq ?_
    refine X.still ?_
    refine O.pu (Pu.build rfl .nil) ?_
    refine O.ef0 (U.storeE (.tmp rfl) rfl rfl (.tmp (v:=.agg _) rfl) rfl rfl (.whole (notBad_ne rfl) rfl) .one) ?_
    refine O.pu (Pu.assign .int) ?_
    refine O.nil ?_
    refine X.ret ?_
    cases h
    exact E.fin [] (.cell rfl rfl (Mode.live_ne rfl) (U.whole rfl rfl) (.tmp (v:=.int _ _) rfl .nil)) (.cons (.cl (.aggL (.cons .fi .nil))) (.cons (.cl .int) .nil))
  · rw [if_neg c] at h
    refine X.seq ?_
    refine X.still ?_
    refine O.pu (Pu.move (.tmp (v:=.int _ _) rfl)) ?_
    refine O.pu (Pu.bin (.tmp rfl) .int .gtr) ?_
    refine O.pu (Pu.move (.tmp (v:=.bool _) rfl)) ?_
    refine O.splitP (fun c=>?_) (fun c=>?_)
    · rw [if_pos c] at h
      refine G.skip (W.f rfl rfl rfl) ?_
      refine G.skip (W.f rfl rfl rfl) ?_
      refine G.skip (W.f rfl rfl rfl) ?_
      refine G.skip (W.f rfl rfl rfl) ?_
      refine G.skip (W.f rfl rfl rfl) ?_
      refine O.pu (Pu.pickT (.tmp rfl) .bool) ?_
      refine O.pu (Pu.assign (.tmp (v:=.bool _) rfl)) ?_
      refine O.nil ?_
      refine X.condT (.tmp rfl) ?_
      refine X.seq ?_
      refine X.still ?_
      refine O.pu (Pu.build rfl .nil) ?_
      refine O.ef0 (U.storeE (.tmp rfl) rfl rfl (.tmp (v:=.agg _) rfl) rfl rfl (.whole (notBad_ne rfl) rfl) .one) ?_
      refine O.pu (Pu.assign .int) ?_
      refine O.nil ?_
      refine X.ret ?_
      cases h
      exact E.fin [] (.cell rfl rfl (Mode.live_ne rfl) (U.whole rfl rfl) (.tmp (v:=.int _ _) rfl .nil)) (.cons (.cl (.aggL (.cons .fi .nil))) (.cons (.cl .int) .nil))
    · rw [if_neg c] at h
      refine G.pu (W.t rfl rfl) (U.load (.tmp rfl) rfl rfl (U.whole rfl rfl)) ?_
      obtain ⟨q1,Hq1,h⟩:=Option.bind_eq_some_iff.1 h
      refine G.pu (W.t rfl rfl) (U.call (ss:=[]) (.cons (.tmp (v:=.agg _) rfl) .nil) (.cons (.cl (.aggL (.cons .fi .nil))) .nil) (nat_Nat_Bits.cs Hq1) (.inl rfl) (.int)) ?_
      refine G.pu (W.t rfl rfl) (Pu.move (.tmp (v:=.int _ _) rfl)) ?_
      refine G.pu (W.t rfl rfl) (Pu.bin (.tmp rfl) (.tmp rfl) U.mul64) ?_
      refine G.pu (W.t rfl rfl) (Pu.bin (.tmp rfl) .int .gtr) ?_
      refine O.pu (Pu.pickF (.tmp rfl) (.tmp (v:=.bool _) rfl)) ?_
      refine O.pu (Pu.assign (.tmp (v:=.bool _) rfl)) ?_
      refine O.nil ?_
      refine X.condP (.tmp rfl) (fun c=>?_) (fun c=>?_)
      · rw [if_pos c] at h
        refine X.seq ?_
        refine X.still ?_
        refine O.pu (Pu.build rfl .nil) ?_
        refine O.ef0 (U.storeE (.tmp rfl) rfl rfl (.tmp (v:=.agg _) rfl) rfl rfl (.whole (notBad_ne rfl) rfl) .one) ?_
        refine O.pu (Pu.assign .int) ?_
        refine O.nil ?_
        refine X.ret ?_
        cases h
        exact E.fin [] (.cell rfl rfl (Mode.live_ne rfl) (U.whole rfl rfl) (.tmp (v:=.int _ _) rfl .nil)) (.cons (.cl (.aggL (.cons .fi .nil))) (.cons (.cl .int) .nil))
      · rw [if_neg c] at h
        refine X.skip ?_
        refine X.seq ?_
        refine X.still ?_
        refine O.pu (U.load (.tmp rfl) rfl rfl (U.whole rfl rfl)) ?_
        refine O.pu (Pu.move (.tmp (v:=.int _ _) rfl)) ?_
        obtain ⟨q2,Hq2,h⟩:=Option.bind_eq_some_iff.1 h
        refine O.pu (U.call (ss:=[]) (.cons (.tmp (v:=.agg _) rfl) (.cons (.tmp (v:=.int _ _) rfl) .nil)) (.cons (.cl (.aggL (.cons .fi .nil))) (.cons (.cl .int) .nil)) (digits_power.cs Hq2) (.inl rfl) (.aggL (.cons .fi .nil))) ?_
        refine O.ef0 (U.storeE (.tmp rfl) rfl rfl (.tmp (v:=.agg _) rfl) rfl rfl (.whole (notBad_ne rfl) rfl) .one) ?_
        refine O.pu (Pu.assign .int) ?_
        refine O.nil ?_
        refine X.ret ?_
        cases h
        exact E.fin [] (.cell rfl rfl (Mode.live_ne rfl) (U.whole rfl rfl) (.tmp (v:=.int _ _) rfl .nil)) (.cons (.cl (.aggL (.cons .fi .nil))) (.cons (.cl .int) .nil))
noncomputable def c11:Code:=Try.f11.body.getD .skip
theorem fn11:FnOk Try.prog 11 Try.f11 c11:=⟨Try.func11,rfl,by kernel_rfl,by kernel_rfl,mixed⟩
theorem frac_Frac_Num.cs {l0_0:List Int} {a0_1:Bool} {l0_2:List Int} {r:List Int×Bool} (h:frac_Frac_Num.f l0_0 a0_1 l0_2=some r):CS Try.prog 11 [.agg [.fi .u64 l0_0, .bool a0_1, .fi .u64 l0_2]] .no [.agg [.fi .u64 r.1, .bool r.2]]:=by
  unfold frac_Frac_Num.f at h
  refine E.pure fn11 rfl ?_
  refine X.seq ?_
  refine X.still ?_
  refine O.puE (v':=.op 1 (1) 0 0) (b':=⟨1, .own,_,_⟩) (Pu.box (.tmp (v:=.agg _) rfl) rfl rfl) rfl rfl ?_
  refine O.puE (v':=.op 2 (1) 0 0) (b':=⟨1, .own,(.vals [.agg [.fi .u64 [], .bool false]]),_⟩) Pu.alloc rfl rfl ?_
  refine O.nil ?_
  refine X.seq ?_
  refine X.still ?_
  refine O.pu (U.fieldA rfl rfl rfl (.tmp rfl)) ?_
  refine O.pu (U.load (.tmp rfl) rfl rfl (U.sub rfl (.take (.take .done)))) ?_
  refine O.ef0 (U.storeE (.tmp rfl) rfl rfl (.tmp (v:=.agg _) rfl) rfl rfl (.whole (notBad_ne rfl) rfl) .one) ?_
  refine O.nil ?_
  refine X.ret ?_
  cases h
  exact E.fin [] (.cell rfl rfl (Mode.live_ne rfl) (U.whole rfl rfl) .nil) (.cons (.cl (.aggL (.cons .fi (.cons .bool .nil)))) .nil)
noncomputable def c34:Code:=Try.f34.body.getD .skip
theorem fn34:FnOk Try.prog 34 Try.f34 c34:=⟨Try.func34,rfl,by kernel_rfl,by kernel_rfl,mixed⟩
theorem nat_Nat_Add.cs {k:Nat} {l0_0:List Int} {l1_0:List Int} {r:List Int} (h:nat_Nat_Add.f k l0_0 l1_0=some r):CS Try.prog 34 [.agg [.fi .u64 l0_0], .agg [.fi .u64 l1_0]] .no [.agg [.fi .u64 r]]:=by
  unfold nat_Nat_Add.f at h
  refine E.pure fn34 rfl ?_
  refine X.seq ?_
  refine X.still ?_
  refine O.puE (v':=.op 2 (1) 0 0) (b':=⟨1, .own,_,_⟩) (Pu.box (.tmp (v:=.agg _) rfl) rfl rfl) rfl rfl ?_
  refine O.puE (v':=.op 3 (1) 0 0) (b':=⟨1, .own,_,_⟩) (Pu.box (.tmp (v:=.agg _) rfl) rfl rfl) rfl rfl ?_
  refine O.puE (v':=.op 4 (1) 0 0) (b':=⟨1, .own,(.vals [.agg [.fi .u64 []]]),_⟩) Pu.alloc rfl rfl ?_
  refine O.nil ?_
  refine X.seq ?_
  refine X.still ?_
  refine O.pu (U.fieldA rfl rfl rfl (.tmp rfl)) ?_
  refine O.pu (U.load (.tmp rfl) rfl rfl (U.cell rfl rfl rfl)) ?_
  refine O.pu (Pu.lenI rfl (.tmp rfl)) ?_
  refine O.pu (U.fieldA rfl rfl rfl (.tmp rfl)) ?_
  refine O.pu (U.load (.tmp rfl) rfl rfl (U.cell rfl rfl rfl)) ?_
  refine O.pu (Pu.lenI rfl (.tmp rfl)) ?_
  refine O.pu (U.mx (.tmp rfl) (.tmp rfl)) ?_
  refine O.pu (Pu.bin (.tmp rfl) .int U.add64) ?_
  repeat first|(rw [giff] at h;obtain ⟨_,h⟩:=h)|rw [bdff] at h
  refine O.puE (v':=.os 16 (1) 0 _ true) (b':=⟨1, .own,_,_⟩) (U.makeI rfl rfl (.tmp rfl) (.tmp rfl) (by omega) (by omega) rfl (by omega)) rfl rfl ?_
  refine O.pu (Pu.assign (.tmp (v:=.os _ _ _ _ _) rfl)) ?_
  refine O.nil ?_
  refine X.seq ?_
  refine X.still ?_
  refine O.pu (Pu.assign .int) ?_
  refine O.nil ?_
  refine X.seq ?_
  refine X.seq ?_
  refine X.still ?_
  refine O.pu (Pu.move (.tmp (v:=.os _ _ _ _ _) rfl)) ?_
  refine O.pu (Pu.lenO rfl (.tmp rfl)) ?_
  refine O.pu (Pu.move .int) ?_
  refine O.nil ?_
  refine X.block ?_
  refine X.inv (fun k s=>∃ x5 x6 x18 x19 x645000 x646000 n5 u16 u2 u3 u4,s.b 16=⟨u16, .own, .ints .u64 x5,77⟩∧s.t 5 = .os 16 u16 0 n5 true∧x5.length=n5∧s.t 6 = .int .u64 x6∧s.t 18 = .int .i64 x18∧s.t 19 = .int .i64 x19∧s.t 2 = .op 2 u2 0 0∧s.b 2=⟨u2, .own, .vals [.agg [.fi .u64 x645000]],24⟩∧s.t 3 = .op 3 u3 0 0∧s.b 3=⟨u3, .own, .vals [.agg [.fi .u64 x646000]],24⟩∧s.t 4 = .op 4 u4 0 0∧s.b 4=⟨u4, .own, .vals [.agg [.fi .u64 []]],24⟩∧nat_Nat_Add.l0 k x5 x6 x18 x19 x645000 x646000=some r) ?_ ?_ ⟨_,_,_,_,_,_,_,_,_,_,_,rfl,rfl,rfl,rfl,rfl,rfl,rfl,rfl,rfl,rfl,rfl,rfl,h⟩
  · rintro s ⟨_,_,_,_,_,_,_,_,_,_,_,_,_,_,_,_,_,_,_,_,_,_,_,h⟩;unfold nat_Nat_Add.l0 at h;cases h
  · rintro k1 s1 ⟨x5,x6,x18,x19,x645000,x646000,n5,u16,u2,u3,u4,e0,e1,rfl,e3,e4,e5,e6,e7,e8,e9,e10,e11,h⟩
    unfold nat_Nat_Add.l0 at h
    rw [St.fixB e0,St.fixT e1,St.fixT e3,St.fixT e4,St.fixT e5,St.fixT e6,St.fixB e7,St.fixT e8,St.fixB e9,St.fixT e10,St.fixB e11]
    refine X.seq ?_
    refine X.still ?_
    refine O.pu (Pu.bin (.tmp rfl) (.tmp rfl) .lss) ?_
    refine O.nil ?_
    refine X.seq ?_
    refine X.condP (.tmp rfl) (fun c=>?_) (fun c=>?_)
    · rw [if_pos c] at h
      refine X.skip ?_
      refine X.seq ?_
      refine X.block ?_
      refine X.seq ?_
      refine X.still ?_
      refine O.pu (Pu.move (.tmp (v:=.int _ _) rfl)) ?_
      refine O.pu (Pu.assign (.tmp (v:=.int _ _) rfl)) ?_
      refine O.nil ?_
      refine X.drawn ?_
      refine D.pu (Pu.move (.tmp (v:=.os _ _ _ _ _) rfl)) ?_
      refine D.pu (Pu.move (.tmp (v:=.int _ _) rfl)) ?_
      refine D.pu (U.load (.tmp rfl) rfl rfl (U.whole rfl rfl)) ?_
      refine D.pu (Pu.move (.tmp (v:=.int _ _) rfl)) ?_
      obtain ⟨q1,Hq1,h⟩:=Option.bind_eq_some_iff.1 h
      refine D.pu (U.call (ss:=[]) (.cons (.tmp (v:=.agg _) rfl) (.cons (.tmp (v:=.int _ _) rfl) .nil)) (.cons (.cl (.aggL (.cons .fi .nil))) (.cons (.cl .int) .nil)) (nat_Nat_limb.cs Hq1) (.inl rfl) (.int)) ?_
      refine D.pu (U.load (.tmp rfl) rfl rfl (U.whole rfl rfl)) ?_
      refine D.pu (Pu.move (.tmp (v:=.int _ _) rfl)) ?_
      obtain ⟨q2,Hq2,h⟩:=Option.bind_eq_some_iff.1 h
      refine D.pu (U.call (ss:=[]) (.cons (.tmp (v:=.agg _) rfl) (.cons (.tmp (v:=.int _ _) rfl) .nil)) (.cons (.cl (.aggL (.cons .fi .nil))) (.cons (.cl .int) .nil)) (nat_Nat_limb.cs Hq2) (.inl rfl) (.int)) ?_
      refine D.pu (Pu.move (.tmp (v:=.int _ _) rfl)) ?_
      repeat (rw [giff] at h;obtain ⟨_,h⟩:=h)
      refine D.pu (U.call (ss:=[]) (.cons (.tmp (v:=.int _ _) rfl) (.cons (.tmp (v:=.int _ _) rfl) (.cons (.tmp (v:=.int _ _) rfl) .nil))) (.cons (.cl .int) (.cons (.cl .int) (.cons (.cl .int) .nil))) (add64_cs (by omega)) (.inl rfl) (.tupL (.cons .int (.cons .int .nil)))) ?_
      refine D.pu (Pu.move (.tmp (v:=.tup _) rfl)) ?_
      refine D.pu (Pu.extract (.tmp rfl) rfl) ?_
      refine D.pu (Pu.extract (.tmp rfl) rfl) ?_
      refine D.pu (U.indexO0 rfl (.tmp rfl) rfl rfl (.tmp rfl) (by first|omega|(simp only [List.length_set] at *;omega)) (by first|omega|(simp only [List.length_set] at *;omega)) rfl rfl) ?_
      refine D.ef0 (C.storeE (.tmp rfl) rfl rfl (.tmp (v:=.int _ _) rfl) rfl rfl (.whole (notBad_ne rfl) rfl) .ints) ?_
      refine D.pu (Pu.assign (.tmp (v:=.int _ _) rfl)) ?_
      refine D.nil (by kernel_rfl) ?_
      refine X.still ?_
      refine O.pu (Pu.bin (.tmp rfl) .int U.add64) ?_
      refine O.pu (Pu.move (.tmp (v:=.int _ _) rfl)) ?_
      refine O.nil ?_
      exact ⟨_,(by omega),_,_,_,_,_,_,_,_,_,_,_,rfl,rfl,(by first|rfl|(simp only [List.length_set];done)|(simp only [List.length_drop,List.length_take,List.length_append,List.length_set] at *;omega)),rfl,rfl,rfl,rfl,rfl,rfl,rfl,rfl,rfl,h⟩
    · rw [if_neg c] at h
      refine X.exit (B.out ?_)
      refine X.seq ?_
      refine X.still ?_
      refine O.pu (Pu.move (.tmp (v:=.os _ _ _ _ _) rfl)) ?_
      obtain ⟨q4,Hq4,h⟩:=Option.bind_eq_some_iff.1 h
      refine O.ef (U.callZ (ss:=[16]) (.cons (.tmp (v:=.os _ _ _ _ _) rfl) .nil) (.cons (.osIf (by simp) rfl (Mode.live_ne rfl) rfl (by first|rfl|(simp only [List.length_set];done)|(simp only [List.length_drop,List.length_take,List.length_append,List.length_set] at *;omega))) .nil) (nat_trimmed.cs Hq4) (.aggL (.cons .fi .nil)) (nowin rfl)) ?_
      refine O.ef0 (U.storeE (.tmp rfl) rfl rfl (.tmp (v:=.agg _) rfl) rfl rfl (.whole (notBad_ne rfl) rfl) .one) ?_
      refine O.nil ?_
      refine X.ret ?_
      cases h
      exact E.fin [] (.cell rfl rfl (Mode.live_ne rfl) (U.whole rfl rfl) .nil) (.cons (.cl (.aggL (.cons .fi .nil))) .nil)
noncomputable def c13:Code:=Try.f13.body.getD .skip
theorem fn13:FnOk Try.prog 13 Try.f13 c13:=⟨Try.func13,rfl,by kernel_rfl,by kernel_rfl,mixed⟩
theorem frac_Frac_Den.cs {k:Nat} {l0_0:List Int} {a0_1:Bool} {l0_2:List Int} {r:List Int} (h:frac_Frac_Den.f k l0_0 a0_1 l0_2=some r):CS Try.prog 13 [.agg [.fi .u64 l0_0, .bool a0_1, .fi .u64 l0_2]] .no [.agg [.fi .u64 r]]:=by
  unfold frac_Frac_Den.f at h
  refine E.pure fn13 rfl ?_
  refine X.seq ?_
  refine X.still ?_
  refine O.puE (v':=.op 1 (1) 0 0) (b':=⟨1, .own,_,_⟩) (Pu.box (.tmp (v:=.agg _) rfl) rfl rfl) rfl rfl ?_
  refine O.puE (v':=.op 2 (1) 0 0) (b':=⟨1, .own,(.vals [.agg [.fi .u64 []]]),_⟩) Pu.alloc rfl rfl ?_
  refine O.nil ?_
  refine X.seq ?_
  refine X.drawn ?_
  refine D.pu (U.fieldA rfl rfl rfl (.tmp rfl)) ?_
  refine D.pu (U.load (.tmp rfl) rfl rfl (U.sub rfl (.skip (.skip (.take .done))))) ?_
  refine D.puE (v':=.os 5 (1) 0 _ true) (b':=⟨1, .own,_,_⟩) (U.litI rfl rfl (.cons .int .nil) rfl rfl) rfl rfl ?_
  obtain ⟨q1,Hq1,h⟩:=Option.bind_eq_some_iff.1 h
  refine D.ef (C.callZ (ss:=[5]) (.cons (.tmp (v:=.os _ _ _ _ _) rfl) .nil) (.cons (.osIf (by simp) rfl (Mode.live_ne rfl) rfl (by first|rfl|(simp only [List.length_set];done)|(simp only [List.length_drop,List.length_take,List.length_append,List.length_set] at *;omega))) .nil) (nat_Of.cs Hq1) (.aggL (.cons .fi .nil)) (nowin rfl)) ?_
  obtain ⟨q2,Hq2,h⟩:=Option.bind_eq_some_iff.1 h
  refine D.pu (U.call (ss:=[]) (.cons (.tmp (v:=.agg _) rfl) (.cons (.tmp (v:=.agg _) rfl) .nil)) (.cons (.cl (.aggL (.cons .fi .nil))) (.cons (.cl (.aggL (.cons .fi .nil))) .nil)) (nat_Nat_Add.cs Hq2) (.inl rfl) (.aggL (.cons .fi .nil))) ?_
  refine D.ef0 (C.storeE (.tmp rfl) rfl rfl (.tmp (v:=.agg _) rfl) rfl rfl (.whole (notBad_ne rfl) rfl) .one) ?_
  refine D.nil (by kernel_rfl) ?_
  refine X.ret ?_
  cases h
  exact E.fin [] (.cell rfl rfl (Mode.live_ne rfl) (U.whole rfl rfl) .nil) (.cons (.cl (.aggL (.cons .fi .nil))) .nil)
noncomputable def c14:Code:=Try.f14.body.getD .skip
theorem fn14:FnOk Try.prog 14 Try.f14 c14:=⟨Try.func14,rfl,by kernel_rfl,by kernel_rfl,mixed⟩
theorem frac_Frac_Sign.cs {l0_0:List Int} {a0_1:Bool} {l0_2:List Int} {r:Int} (h:frac_Frac_Sign.f l0_0 a0_1 l0_2=some r):CS Try.prog 14 [.agg [.fi .u64 l0_0, .bool a0_1, .fi .u64 l0_2]] .no [.int .i64 r]:=by
  unfold frac_Frac_Sign.f at h
  refine E.pure fn14 rfl ?_
  refine X.seq ?_
  refine X.still ?_
  refine O.puE (v':=.op 1 (1) 0 0) (b':=⟨1, .own,_,_⟩) (Pu.box (.tmp (v:=.agg _) rfl) rfl rfl) rfl rfl ?_
  refine O.pu (Pu.assign .int) ?_
  refine O.nil ?_
  refine X.seq ?_
  refine X.still ?_
  refine O.pu (U.fieldA rfl rfl rfl (.tmp rfl)) ?_
  refine O.pu (U.load (.tmp rfl) rfl rfl (U.sub rfl (.take (.take .done)))) ?_
  obtain ⟨q1,Hq1,h⟩:=Option.bind_eq_some_iff.1 h
  refine O.pu (U.call (ss:=[]) (.cons (.tmp (v:=.agg _) rfl) .nil) (.cons (.cl (.aggL (.cons .fi (.cons .bool .nil)))) .nil) (whole_Int_Sign.cs Hq1) (.inl rfl) (.int)) ?_
  refine O.pu (Pu.assign (.tmp (v:=.int _ _) rfl)) ?_
  refine O.nil ?_
  refine X.ret ?_
  cases h
  exact E.fin [] (.tmp (v:=.int _ _) rfl .nil) (.cons (.cl .int) .nil)
noncomputable def c9:Code:=Try.f9.body.getD .skip
theorem fn9:FnOk Try.prog 9 Try.f9 c9:=⟨Try.func9,rfl,by kernel_rfl,by kernel_rfl,mixed⟩
theorem power_Pow.cs {k:Nat} {l0_0:List Int} {a0_1:Bool} {l0_2:List Int} {a1:Int} {r:List Int×Bool×List Int×Int} (h:power_Pow.f k l0_0 a0_1 l0_2 a1=some r):CS Try.prog 9 [.agg [.fi .u64 l0_0, .bool a0_1, .fi .u64 l0_2], .int .i64 a1] .no [.agg [.fi .u64 r.1, .bool r.2.1, .fi .u64 r.2.2.1], .int .i64 r.2.2.2]:=by
  unfold power_Pow.f at h
  refine E.pure fn9 rfl ?_
  refine X.seq ?_
  refine X.still ?_
  refine O.puE (v':=.op 2 (1) 0 0) (b':=⟨1, .own,_,_⟩) (Pu.box (.tmp (v:=.agg _) rfl) rfl rfl) rfl rfl ?_
  refine O.puE (v':=.op 4 (1) 0 0) (b':=⟨1, .own,(.vals [.agg [.fi .u64 [], .bool false, .fi .u64 []]]),_⟩) Pu.alloc rfl rfl ?_
  refine O.pu (Pu.assign .int) ?_
  refine O.nil ?_
  refine X.seq ?_
  refine X.still ?_
  refine O.pu (U.load (.tmp rfl) rfl rfl (U.whole rfl rfl)) ?_
  obtain ⟨q1,Hq1,h⟩:=Option.bind_eq_some_iff.1 h
  refine O.pu (U.call (ss:=[]) (.cons (.tmp (v:=.agg _) rfl) .nil) (.cons (.cl (.aggL (.cons .fi (.cons .bool (.cons .fi .nil))))) .nil) (frac_Frac_Num.cs Hq1) (.inl rfl) (.aggL (.cons .fi (.cons .bool .nil)))) ?_
  obtain ⟨q2,Hq2,h⟩:=Option.bind_eq_some_iff.1 h
  refine O.pu (U.call (ss:=[]) (.cons (.tmp (v:=.agg _) rfl) .nil) (.cons (.cl (.aggL (.cons .fi (.cons .bool .nil)))) .nil) (whole_Int_Abs.cs Hq2) (.inl rfl) (.aggL (.cons .fi .nil))) ?_
  refine O.pu (Pu.move (.tmp (v:=.int _ _) rfl)) ?_
  obtain ⟨q3,Hq3,h⟩:=Option.bind_eq_some_iff.1 h
  refine O.pu (U.call (ss:=[]) (.cons (.tmp (v:=.agg _) rfl) (.cons (.tmp (v:=.int _ _) rfl) .nil)) (.cons (.cl (.aggL (.cons .fi .nil))) (.cons (.cl .int) .nil)) (digits_Pow.cs Hq3) (.inl rfl) (.tupL (.cons (.aggL (.cons .fi .nil)) (.cons .int .nil)))) ?_
  refine O.pu (Pu.move (.tmp (v:=.tup _) rfl)) ?_
  refine O.pu (Pu.extract (.tmp rfl) rfl) ?_
  refine O.pu (Pu.extract (.tmp rfl) rfl) ?_
  refine O.puE (v':=.op 6 (1) 0 0) (b':=⟨1, .own,(.vals [.agg [.fi .u64 []]]),_⟩) Pu.alloc rfl rfl ?_
  refine O.ef0 (U.storeE (.tmp rfl) rfl rfl (.tmp (v:=.agg _) rfl) rfl rfl (.whole (notBad_ne rfl) rfl) .one) ?_
  refine O.pu (Pu.assign (.tmp (v:=.int _ _) rfl)) ?_
  refine O.nil ?_
  refine X.seq ?_
  refine X.seq ?_
  refine X.still ?_
  refine O.pu (Pu.move (.tmp (v:=.int _ _) rfl)) ?_
  refine O.pu (Pu.bin (.tmp rfl) .int .neq) ?_
  refine O.nil ?_
  refine X.condN (.tmp rfl) (fun c=>?_) (fun c=>?_)
  · rw [if_neg c] at h
    refine X.seq ?_
    refine X.still ?_
    refine O.pu (Pu.build rfl .nil) ?_
    refine O.pu (Pu.move (.tmp (v:=.int _ _) rfl)) ?_
    refine O.ef0 (U.storeE (.tmp rfl) rfl rfl (.tmp (v:=.agg _) rfl) rfl rfl (.whole (notBad_ne rfl) rfl) .one) ?_
    refine O.pu (Pu.assign (.tmp (v:=.int _ _) rfl)) ?_
    refine O.nil ?_
    refine X.ret ?_
    cases h
    exact E.fin [] (.cell rfl rfl (Mode.live_ne rfl) (U.whole rfl rfl) (.tmp (v:=.int _ _) rfl .nil)) (.cons (.cl (.aggL (.cons .fi (.cons .bool (.cons .fi .nil))))) (.cons (.cl .int) .nil))
  · rw [if_pos c] at h
    refine X.skip ?_
    refine X.seq ?_
    refine X.still ?_
    refine O.pu (U.load (.tmp rfl) rfl rfl (U.whole rfl rfl)) ?_
    obtain ⟨q4,Hq4,h⟩:=Option.bind_eq_some_iff.1 h
    refine O.pu (U.call (ss:=[]) (.cons (.tmp (v:=.agg _) rfl) .nil) (.cons (.cl (.aggL (.cons .fi (.cons .bool (.cons .fi .nil))))) .nil) (frac_Frac_Den.cs Hq4) (.inl rfl) (.aggL (.cons .fi .nil))) ?_
    refine O.pu (Pu.move (.tmp (v:=.int _ _) rfl)) ?_
    obtain ⟨q5,Hq5,h⟩:=Option.bind_eq_some_iff.1 h
    refine O.pu (U.call (ss:=[]) (.cons (.tmp (v:=.agg _) rfl) (.cons (.tmp (v:=.int _ _) rfl) .nil)) (.cons (.cl (.aggL (.cons .fi .nil))) (.cons (.cl .int) .nil)) (digits_Pow.cs Hq5) (.inl rfl) (.tupL (.cons (.aggL (.cons .fi .nil)) (.cons .int .nil)))) ?_
    refine O.pu (Pu.move (.tmp (v:=.tup _) rfl)) ?_
    refine O.pu (Pu.extract (.tmp rfl) rfl) ?_
    refine O.pu (Pu.extract (.tmp rfl) rfl) ?_
    refine O.puE (v':=.op 8 (1) 0 0) (b':=⟨1, .own,(.vals [.agg [.fi .u64 []]]),_⟩) Pu.alloc rfl rfl ?_
    refine O.ef0 (U.storeE (.tmp rfl) rfl rfl (.tmp (v:=.agg _) rfl) rfl rfl (.whole (notBad_ne rfl) rfl) .one) ?_
    refine O.pu (Pu.assign (.tmp (v:=.int _ _) rfl)) ?_
    refine O.nil ?_
    refine X.seq ?_
    refine X.seq ?_
    refine X.still ?_
    refine O.pu (Pu.move (.tmp (v:=.int _ _) rfl)) ?_
    refine O.pu (Pu.bin (.tmp rfl) .int .neq) ?_
    refine O.nil ?_
    refine X.condN (.tmp rfl) (fun c=>?_) (fun c=>?_)
    · rw [if_neg c] at h
      refine X.seq ?_
      refine X.still ?_
      refine O.pu (Pu.build rfl .nil) ?_
      refine O.pu (Pu.move (.tmp (v:=.int _ _) rfl)) ?_
      refine O.ef0 (U.storeE (.tmp rfl) rfl rfl (.tmp (v:=.agg _) rfl) rfl rfl (.whole (notBad_ne rfl) rfl) .one) ?_
      refine O.pu (Pu.assign (.tmp (v:=.int _ _) rfl)) ?_
      refine O.nil ?_
      refine X.ret ?_
      cases h
      exact E.fin [] (.cell rfl rfl (Mode.live_ne rfl) (U.whole rfl rfl) (.tmp (v:=.int _ _) rfl .nil)) (.cons (.cl (.aggL (.cons .fi (.cons .bool (.cons .fi .nil))))) (.cons (.cl .int) .nil))
    · rw [if_pos c] at h
      refine X.skip ?_
      refine X.seq ?_
      refine X.drawn ?_
      refine D.pu (U.load (.tmp rfl) rfl rfl (U.whole rfl rfl)) ?_
      refine D.pu (U.load (.tmp rfl) rfl rfl (U.whole rfl rfl)) ?_
      obtain ⟨q6,Hq6,h⟩:=Option.bind_eq_some_iff.1 h
      refine D.pu (U.call (ss:=[]) (.cons (.tmp (v:=.agg _) rfl) .nil) (.cons (.cl (.aggL (.cons .fi (.cons .bool (.cons .fi .nil))))) .nil) (frac_Frac_Sign.cs Hq6) (.inl rfl) (.int)) ?_
      refine D.pu (Pu.bin (.tmp rfl) .int .lss) ?_
      refine D.pu (Pu.move (.tmp (v:=.bool _) rfl)) ?_
      refine D.splitP (fun c=>?_) (fun c=>?_)
      · rw [if_pos c] at h
        refine D.gpu (W.t rfl rfl) (Pu.move (.tmp (v:=.int _ _) rfl)) ?_
        refine D.gpu (W.t rfl rfl) (Pu.bin (.tmp rfl) .int (.rem (by omega))) ?_
        refine D.gpu (W.t rfl rfl) (Pu.bin (.tmp rfl) .int .eql) ?_
        refine D.pu (Pu.pickT (.tmp rfl) (.tmp (v:=.bool _) rfl)) ?_
        obtain ⟨q7,Hq7,h⟩:=Option.bind_eq_some_iff.1 h
        refine D.pu (U.call (ss:=[]) (.cons (.tmp (v:=.agg _) rfl) (.cons (.tmp (v:=.bool _) rfl) .nil)) (.cons (.cl (.aggL (.cons .fi .nil))) (.cons (.cl .bool) .nil)) (whole_Of.cs Hq7) (.inl rfl) (.aggL (.cons .fi (.cons .bool .nil)))) ?_
        refine D.pu (U.load (.tmp rfl) rfl rfl (U.whole rfl rfl)) ?_
        obtain ⟨q8,Hq8,h⟩:=Option.bind_eq_some_iff.1 h
        refine D.pu (U.call (ss:=[]) (.cons (.tmp (v:=.agg _) rfl) (.cons .bool .nil)) (.cons (.cl (.aggL (.cons .fi .nil))) (.cons (.cl .bool) .nil)) (whole_Of.cs Hq8) (.inl rfl) (.aggL (.cons .fi (.cons .bool .nil)))) ?_
        obtain ⟨q9,Hq9,h⟩:=Option.bind_eq_some_iff.1 h
        refine D.pu (U.call (ss:=[]) (.cons (.tmp (v:=.agg _) rfl) (.cons (.tmp (v:=.agg _) rfl) .nil)) (.cons (.cl (.aggL (.cons .fi (.cons .bool .nil)))) (.cons (.cl (.aggL (.cons .fi (.cons .bool .nil)))) .nil)) (frac_Of.cs Hq9) (.inl rfl) (.tupL (.cons (.aggL (.cons .fi (.cons .bool (.cons .fi .nil)))) (.cons .int .nil)))) ?_
        refine D.pu (Pu.extract (.tmp rfl) rfl) ?_
        refine D.pu (Pu.extract (.tmp rfl) rfl) ?_
        refine D.ef0 (C.storeE (.tmp rfl) rfl rfl (.tmp (v:=.agg _) rfl) rfl rfl (.whole (notBad_ne rfl) rfl) .one) ?_
        refine D.pu (Pu.assign (.tmp (v:=.int _ _) rfl)) ?_
        refine D.nil (by kernel_rfl) ?_
        refine X.ret ?_
        cases h
        exact E.fin [] (.cell rfl rfl (Mode.live_ne rfl) (U.whole rfl rfl) (.tmp (v:=.int _ _) rfl .nil)) (.cons (.cl (.aggL (.cons .fi (.cons .bool (.cons .fi .nil))))) (.cons (.cl .int) .nil))
      · rw [if_neg c] at h
        refine D.gskip (W.f rfl rfl rfl) ?_
        refine D.gskip (W.f rfl rfl rfl) ?_
        refine D.gskip (W.f rfl rfl rfl) ?_
        refine D.pu (Pu.pickF (.tmp rfl) .bool) ?_
        obtain ⟨q10,Hq10,h⟩:=Option.bind_eq_some_iff.1 h
        refine D.pu (U.call (ss:=[]) (.cons (.tmp (v:=.agg _) rfl) (.cons (.tmp (v:=.bool _) rfl) .nil)) (.cons (.cl (.aggL (.cons .fi .nil))) (.cons (.cl .bool) .nil)) (whole_Of.cs Hq10) (.inl rfl) (.aggL (.cons .fi (.cons .bool .nil)))) ?_
        refine D.pu (U.load (.tmp rfl) rfl rfl (U.whole rfl rfl)) ?_
        obtain ⟨q11,Hq11,h⟩:=Option.bind_eq_some_iff.1 h
        refine D.pu (U.call (ss:=[]) (.cons (.tmp (v:=.agg _) rfl) (.cons .bool .nil)) (.cons (.cl (.aggL (.cons .fi .nil))) (.cons (.cl .bool) .nil)) (whole_Of.cs Hq11) (.inl rfl) (.aggL (.cons .fi (.cons .bool .nil)))) ?_
        obtain ⟨q12,Hq12,h⟩:=Option.bind_eq_some_iff.1 h
        refine D.pu (U.call (ss:=[]) (.cons (.tmp (v:=.agg _) rfl) (.cons (.tmp (v:=.agg _) rfl) .nil)) (.cons (.cl (.aggL (.cons .fi (.cons .bool .nil)))) (.cons (.cl (.aggL (.cons .fi (.cons .bool .nil)))) .nil)) (frac_Of.cs Hq12) (.inl rfl) (.tupL (.cons (.aggL (.cons .fi (.cons .bool (.cons .fi .nil)))) (.cons .int .nil)))) ?_
        refine D.pu (Pu.extract (.tmp rfl) rfl) ?_
        refine D.pu (Pu.extract (.tmp rfl) rfl) ?_
        refine D.ef0 (C.storeE (.tmp rfl) rfl rfl (.tmp (v:=.agg _) rfl) rfl rfl (.whole (notBad_ne rfl) rfl) .one) ?_
        refine D.pu (Pu.assign (.tmp (v:=.int _ _) rfl)) ?_
        refine D.nil (by kernel_rfl) ?_
        refine X.ret ?_
        cases h
        exact E.fin [] (.cell rfl rfl (Mode.live_ne rfl) (U.whole rfl rfl) (.tmp (v:=.int _ _) rfl .nil)) (.cons (.cl (.aggL (.cons .fi (.cons .bool (.cons .fi .nil))))) (.cons (.cl .int) .nil))
end Go.Proofs.Ytiikhhemgplocaa
end

section
namespace Go.AVL
open Go.RowKit
set_option linter.unusedVariables false
section
variable {P : Program} {c : Ctx P} {I : Nat → Prop} {m : Nat → Reg} {w w' : World} {st : St} {a : Act} {ops : Array Oper} {K : Act → World → Prop} {Q : Exit → Act → World → Prop}
def keeps (ds:List Nat) (a a':Act):Prop:=a'.defers=a.defers∧a'.tmps.size=a.tmps.size∧∀ x,x ∉ ds→a'.tmps.getD x undef=a.tmps.getD x undef
theorem keeps.refl {ds:List Nat} (a:Act):keeps ds a a:=⟨rfl,rfl,fun _ _=>rfl⟩
theorem keeps.trans {ds:List Nat} {a b d:Act} (h:keeps ds a b) (h':keeps ds b d):keeps ds a d:=⟨h'.1.trans h.1,h'.2.1.trans h.2.1,fun x hx=>(h'.2.2 x hx).trans (h.2.2 x hx)⟩
theorem keeps.put {ds:List Nat} {a:Act} {d:Nat} {V:Value} (hd:d ∈ ds):keeps ds a (a.put (some d) V):=by
  refine ⟨rfl,by rw [Act.put_tmps,Array.size_setIfInBounds],fun x hx=>?_⟩
  have hne:d≠x:=fun e=>hx (e ▸ hd)
  rw [Act.put_tmps]
  simp only [Array.getD_eq_getD_getElem?]
  rw [Array.getElem?_setIfInBounds_ne hne]
theorem put_at {a:Act} {d:Nat} {V:Value} (hd:d < a.tmps.size):(a.put (some d) V).tmps.getD d undef=V:=by rw [Act.put_tmps,getD_set hd,if_pos rfl]
theorem T.step {i:Nat} {rest:List Nat} {o:Oper} (hi:ops[i]?=some o) (hg:o.guard=none) (h:o.wp P a w (wpOps P ops Q rest) Q):wpOps P ops Q (i :: rest) a w:=by
  unfold wpOps
  simp only [hi]
  rw [if_pos (by simp [Region.wanted,hg])]
  exact .inl h
theorem T.pu {i:Nat} {rest:List Nat} {o:Oper} {d:Nat} {v:AV} {R:List Nat} {ds:List Nat} (hx:SRx c I m st a w) (hi:ops[i]?=some o) (hg:o.guard=none) (hd:o.dst=some d) (hn:d < c.n) (hds:d ∈ ds) (hp:Pu P st d o.op v none R)
    (hk : ∀ a' w' I' m',keeps ds a a'→SRx c I' m' (st.put d v) a' w'→wpOps P ops Q rest a' w'):wpOps P ops Q (i :: rest) a w:=by
  refine T.step hi hg (Pu.sound hx hp _ _ fun V w' I' m' h1 h2=>?_)
  rw [hd]
  exact hk _ w' I' m' (.put hds) (h1.put h2 (some d) (fun x hx=>by cases hx;exact hn))
theorem T.call {i:Nat} {rest:List Nat} {o:Oper} {f:FuncId} {fn:Func} {code:Code} {args:Array Operand} {ats:Array TypeId} {V:Array Value} {G:Ending→World→Prop} (hi:ops[i]?=some o) (hg:o.guard=none) (ho:o.op = .call ⟨.value (.func f),args,ats⟩) (hf:FnOk P f fn code)
    (hv:args.map a.eval=V) (hc:Calls P f V w G) (hk : ∀ e w',G e w'→∃ v,e = .returned v∧wpOps P ops Q rest (a.put o.dst v) w'):wpOps P ops Q (i :: rest) a w:=by
  refine T.step hi hg (wp_call (f:=f) (V:=V) ?_ (callW_of_calls hf (hc.mono fun e w' he=>?_)))
  · rw [exec_call (f:=f) (cv:=#[]) ho rfl,hv,Array.append_empty]
  · obtain ⟨v,rfl,h⟩:=hk e w' he
    exact h
theorem T.enter {n:Nat} (hs:a.tmps.size=n) (hd:a.defers = []) (hst : ∀ x,VR (fun k=>k < w.heap.size) w noB m (st.t x) (a.tmps.getD x undef)) (hb:st.b=noB) :
    SRx (⟨n,w,fun k=>k < w.heap.size,none⟩:Ctx P) (fun k=>k < w.heap.size) m st a w:=by
  refine ⟨?_,hd,hs,by rw [hb];exact hst⟩
  rw [hb]
  have h:=WR.fresh (P:=P) (fun k=>k < w.heap.size) w m fun k hk=>hk
  exact ⟨h.os,h.tape,h.output,h.size,h.frame,h.frameW,h.imm,h.blk,h.inj⟩
theorem T.below {n:Nat} {w0:World} {A:Nat→Prop} (hx:SRx (⟨n,w0,A,none⟩:Ctx P) I m st a w):Below w0.heap.size w0 w :=
  ⟨hx.wr.os,hx.wr.tape,hx.wr.output,hx.wr.size,fun k hk=>hx.wr.frame k hk (by simp)⟩
end
end Go.AVL
end

section
namespace Go.Proofs.Ytiikhhemgplocaa
open Go.AVL Go.RowKit Go.Proofs.Ytiikhhemgplocaa.F Go.Proofs.YtiikhhemgplocaaX Go.Proofs.YtiikhhemgplocaaW.PrintWords Go.Proofs.YtiikhhemgplocaaW.PrintLast Go.Proofs.YtiikhhemgplocaaW.PrintMore
set_option linter.unusedVariables false
set_option maxRecDepth 100000
noncomputable def c39:Code:=Try.f39.body.getD .skip
theorem fn39:FnOk Try.prog 39 Try.f39 c39:=⟨Try.func39,rfl,by kernel_rfl,by kernel_rfl,mixed⟩
noncomputable def tl32:Code:=match c39 with | .seq _ (.seq _ (.seq _ (.seq _ t)))=>t|_=>.skip
theorem info107:(Try.prog.info? 107).map (fun i=>(i.zero,i.size,i.bytes))=some (some (.agg #[.pointer none, .slice none 0 0]),2,32):=by kernel_rfl
theorem bgrow {B b:Nat} {bs:List Value} {w w':World} (h:Lib.IsBuilder 107 5 B b bs w) (hb:Below w.heap.size w w'):Lib.IsBuilder 107 5 B b bs w':=by
  have one : ∀ p,Lib.BuilderAt 107 5 B b p bs w→Lib.BuilderAt 107 5 B b p bs w':=by
    rintro p ⟨h1,v,h2,⟨h3,h4⟩,h5⟩
    refine ⟨h1,v,(hb.block b (lt_of_some h2)).trans h2,⟨h3,h4.imp (fun h=>h) ?_⟩,h5⟩
    rintro ⟨g,cap,cur,e1,e2,e3,e4⟩
    exact ⟨g,cap,cur,e1,e2,(hb.block g (lt_of_some e3)).trans e3,e4⟩
  exact h.imp (one _) (one _)
theorem bjoin {w w1 w2:World} (h:Below w.heap.size w w1) (h':Below w1.heap.size w1 w2):Below w.heap.size w w2 :=
  h.trans ⟨h'.os,h'.tape,h'.output,h'.size,fun k hk=>h'.block k (Nat.lt_of_lt_of_le hk h.size)⟩
noncomputable def c67:Code:=Try.f67.body.getD .skip
theorem fn67:FnOk Try.prog 67 Try.f67 c67:=⟨Try.func67,rfl,by kernel_rfl,by kernel_rfl,mixed⟩
noncomputable def c68:Code:=Try.f68.body.getD .skip
theorem fn68:FnOk Try.prog 68 Try.f68 c68:=⟨Try.func68,rfl,by kernel_rfl,by kernel_rfl,mixed⟩
theorem and_r {x y:Bool} (h:(x && y)=true):y=true:=(Bool.and_eq_true_iff.1 h).2
theorem and_l {x y:Bool} (h:(x && y)=true):x=true:=(Bool.and_eq_true_iff.1 h).1
def grp (l:List ByteArray):Nat→AV:=upd (fun _=>.bad) 3 (.fv (l.map .str))
def grp2 (l:List ByteArray) (i:Int):Nat→AV:=upd (grp l) 12 (.int .i64 i)
theorem grp_vr {l:List ByteArray} {w0 w:World} {m:Nat→Reg} {V3:Value} {f:Nat→Value} (hv:VR (fun k=>k < w0.heap.size) w0 noB m (.fv (l.map .str)) V3) (hb:Below w0.heap.size w0 w) (h3:f 3=V3) (x:Nat) :
    VR (fun k=>k < w.heap.size) w noB m (grp l x) (f x):=by
  unfold grp
  by_cases hx:x=3
  · subst hx
    rw [upd_same,h3]
    exact hv.grow (fun k hk=>Nat.lt_of_lt_of_le hk hb.size) fun k hk=>hb.block k hk
  · rw [upd_ne _ _ hx];exact .bad _
theorem grp2_vr {l:List ByteArray} {i:Int} {w0 w:World} {m:Nat→Reg} {V3:Value} {f:Nat→Value} (hv:VR (fun k=>k < w0.heap.size) w0 noB m (.fv (l.map .str)) V3) (hb:Below w0.heap.size w0 w) (h3:f 3=V3) (h12:f 12 = .int .i64 i) (x:Nat) :
    VR (fun k=>k < w.heap.size) w noB m (grp2 l i x) (f x):=by
  unfold grp2
  by_cases hx:x=12
  · subst hx
    rw [upd_same,h12]
    exact .int _ _
  · rw [upd_ne _ _ hx];exact grp_vr hv hb h3 x
def ds32:List Nat:=[12,44,45,46,47,48,49,50,51,52,53,54,55]
theorem tail32 {st:St} {Q:Out→St→Prop} {l:List ByteArray} {r:ByteArray} {u n e:Nat} (h3:st.t 3 = .os 3 u 0 n true) (hb:st.b 3=⟨u, .own, .vals (l.map .str),e⟩) (hn:l.length=n)
    (h:digits_joined.f l=some r) (hQ : ∀ s,s.t 2 = .str r→Q .ret s):ByHand Try.prog tl32 st Q:=by
  intro c Qc hd hq a w ⟨I,m,hx⟩
  obtain ⟨hl1,hl2,rfl⟩:=digits_joined.told h
  have hsz:57≤c.n:=by
    have h1:(Nat.blt 56 c.n && _)=true:=and_l (and_r (and_r hd))
    exact Nat.le_of_ble_eq_true (and_l h1)
  have hv3:VR (fun k=>k < w.heap.size) w noB m (.fv (l.map .str)) (a.tmps.getD 3 undef):=by
    have h1:=hx.tmp 3
    rw [h3] at h1
    have h2:=os_vals (B':=noB) (m':=m) hx.wr h1 (by rw [hb]) (by rw [hb];simp) (by rw [hb]) (fun i hi=>by
      rw [List.length_map] at hi
      rw [List.getD_eq_getElem?_getD,List.getElem?_map,List.getElem?_eq_getElem hi]
      exact .str) (J:=fun k=>k < w.heap.size) (fun k hk=>(hx.wr.imm k hk).1) (fun hz=>by
        rcases hx.wr.blk 3 (by rw [hb];simp) with h0|⟨cur,h3,_⟩
        · exact absurd h0 hz
        · exact lt_of_some h3)
    rwa [List.drop_zero,List.take_of_length_le (by rw [List.length_map];omega)] at h2
  generalize hV3:a.tmps.getD 3 undef=V3 at hv3
  have hs0:a.tmps.size=c.n:=hx.sz
  refine wp_seq ?_
  refine wp_region ?_
  refine T.step rfl rfl ?_
  unfold Oper.wp
  have he : ∀ o:Oper,o.op = .alloc 107→(execOp a.eval o).run Try.prog w = .ok (.value (.pointer (some ⟨w.heap.size,0,none⟩))) (w.alloc (.cells #[.pointer none, .slice none 0 0] 107)):=by
    intro o ho
    obtain ⟨i0,hi,h1,h2,_⟩:=info_parts info107
    simp [execOp,ho,Instr.alloc,zeroValue,typeInfo,hi,h1,run_newVar,Value.cells]
  rw [he _ rfl]
  have hg:(a.put (some 11) (.pointer (some ⟨w.heap.size,0,none⟩))).tmps.getD 11 undef = .pointer (some ⟨w.heap.size,0,none⟩):=put_at (by omega)
  have hk:=keeps.put (ds:=[11]) (a:=a) (V:=.pointer (some ⟨w.heap.size,0,none⟩)) (List.mem_singleton.2 rfl)
  have hBu:=bfresh w
  have hBe:=below_alloc (Below.refl w.heap.size w) (.cells #[.pointer none, .slice none 0 0] 107)
  show Code.wp Try.prog _ _ (a.put (some 11) (.pointer (some ⟨w.heap.size,0,none⟩))) (w.alloc (.cells #[.pointer none, .slice none 0 0] 107))
  generalize a.put (some 11) (.pointer (some ⟨w.heap.size,0,none⟩))=a1 at hg hk ⊢
  generalize (w.alloc (.cells #[.pointer none, .slice none 0 0] 107))=w1 at hBu hBe ⊢
  refine wp_seq (wp_seq (wp_region ?_))
  have hx1:=T.enter (P:=Try.prog) (st:=⟨grp l,noB⟩) (hk.2.1.trans hs0) (hk.1.trans hx.def0) (grp_vr hv3 hBe ((hk.2.2 3 (by simp)).trans hV3)) rfl
  have hlt : ∀ d,d≤56→d < c.n:=fun d hd=>by omega
  have hkk : ∀ {a':Act} (x:Nat),keeps ds32 a1 a'→x ∉ ds32→a'.tmps.getD x undef=a1.tmps.getD x undef:=fun x h hx=>h.2.2 x hx
  refine T.pu (ds:=ds32) hx1 rfl rfl rfl (hlt _ (by decide)) (by simp [ds32]) (.move (.tmp (v:=.fv _) rfl)) fun a2 w2 I2 m2 k2 hx2=>?_
  refine T.pu (ds:=ds32) hx2 rfl rfl rfl (hlt _ (by decide)) (by simp [ds32]) (.lenV rfl (.tmp rfl)) fun a3 w3 I3 m3 k3 hx3=>?_
  refine T.pu (ds:=ds32) hx3 rfl rfl rfl (hlt _ (by decide)) (by simp [ds32]) (.bin (.tmp rfl) .int U.sub64) fun a4 w4 I4 m4 k4 hx4=>?_
  refine T.pu (ds:=ds32) hx4 rfl rfl rfl (hlt _ (by decide)) (by simp [ds32]) (.assign (.tmp (v:=.int _ _) rfl)) fun a5 w5 I5 m5 k5 hx5=>?_
  have hk5:=((k2.trans k3).trans k4).trans k5
  have h12:a5.tmps.getD 12 undef = .int .i64 ((l.length:Int) - 1):=by
    have h1:=(show VR I5 w5 noB m5 (.int .i64 (wrap64 (((l.map AV.str).length:Int) - 1))) (a5.tmps.getD 12 undef) from hx5.tmp 12).int_inv
    rw [h1,List.length_map]
    congr 1
    unfold wrap64
    omega
  have hb5:=T.below hx5
  have hB5:=bgrow hBu hb5
  have hbb5:=bjoin hBe hb5
  clear hx1 hx2 hx3 hx4 hx5 k2 k3 k4 k5
  show Code.wp Try.prog _ _ a5 w5
  refine wp_block (wp_loop (fun a' w'=>keeps ds32 a1 a'∧Below w.heap.size w w'∧∃ k:Nat,k≤l.length∧a'.tmps.getD 12 undef = .int .i64 ((k:Int) - 1)∧Lib.IsBuilder 107 5 w.heap.size w.heap.size (Lib.byteCells (digits_joined.go l k)) w')
    (fun a' _=>match a'.tmps.getD 12 undef with | .int _ i=>(i + 1).toNat|_=>0) ?_ ?_)
  · exact ⟨hk5,hbb5,l.length,Nat.le_refl _,h12,by rw [digits_joined.end_];exact hB5⟩
  · clear h12 hB5 hb5 hbb5 hk5
    rintro a6 w6 ⟨k6,hb6,k,hkl,h12,hB6⟩
    have hx6:=T.enter (P:=Try.prog) (st:=⟨grp2 l ((k:Int) - 1),noB⟩) (w:=w6) (m:=m) ((k6.2.1.trans hk.2.1).trans hs0) ((k6.1.trans hk.1).trans hx.def0) (grp2_vr hv3 hb6 (((hkk 3 k6 (by simp [ds32])).trans (hk.2.2 3 (by simp))).trans hV3) h12) rfl
    rw [h12]
    refine wp_seq (wp_seq (wp_region ?_))
    refine T.pu (ds:=ds32) hx6 rfl rfl rfl (hlt _ (by decide)) (by simp [ds32]) (.move (.tmp (v:=.int _ _) rfl)) fun a7 w7 I7 m7 k7 hx7=>?_
    refine T.pu (ds:=ds32) hx7 rfl rfl rfl (hlt _ (by decide)) (by simp [ds32]) (.bin (.tmp rfl) .int .geq) fun a8 w8 I8 m8 k8 hx8=>?_
    show Code.wp Try.prog _ _ a8 w8
    have k68:=(k6.trans k7).trans k8
    have hB8:=bgrow hB6 (T.below hx8)
    refine wp_cond_split (hx8.tmp 48).bool_inv (fun hc=>?_) fun hc=>?_
    · have hc:=of_decide_eq_true hc
      obtain ⟨k,rfl⟩ : ∃ j,k=j + 1:=⟨k - 1,by omega⟩
      have hn:(((k + 1:Nat):Int) - 1).toNat=k:=by omega
      have hes:(l.map AV.str).getD (((k + 1:Nat):Int) - 1).toNat .bad = .str (rdOf ByteArray.empty l (k:Int)):=by
        rw [hn]
        unfold rdOf
        rw [Int.toNat_natCast,List.getD_eq_getElem?_getD,List.getElem?_map,List.getD_eq_getElem?_getD,List.getElem?_eq_getElem (show k < l.length by omega)]
        rfl
      refine wp_skip ?_
      show Code.wp Try.prog _ _ a8 w8
      refine wp_seq (wp_block (wp_region ?_))
      refine T.pu (ds:=ds32) hx8 rfl rfl rfl (hlt _ (by decide)) (by simp [ds32]) (.move (.tmp (v:=.fv _) rfl)) fun a9 w9 I9 m9 k9 hx9=>?_
      refine T.pu (ds:=ds32) hx9 rfl rfl rfl (hlt _ (by decide)) (by simp [ds32]) (.move (.tmp (v:=.int _ _) rfl)) fun a10 w10 I10 m10 k10 hx10=>?_
      refine T.pu (ds:=ds32) hx10 rfl rfl rfl (hlt _ (by decide)) (by simp [ds32]) (.indexV rfl (by rw [hes];exact ⟨rfl,rfl⟩) (.tmp rfl) (.tmp rfl) hc (by rw [List.length_map];omega)) fun a11 w11 I11 m11 k11 hx11=>?_
      refine T.pu (ds:=ds32) hx11 rfl rfl rfl (hlt _ (by decide)) (by simp [ds32]) (.loadR (r:=.str (rdOf ByteArray.empty l (k:Int))) (.tmp rfl) (by rw [hes];exact U.self rfl rfl rfl)) fun a12 w12 I12 m12 k12 hx12=>?_
      have k912:=((k9.trans k10).trans k11).trans k12
      have hb12:=T.below hx12
      have hB12:=bgrow hB6 hb12
      have h54:=(show VR I12 w12 noB m12 (.str (rdOf ByteArray.empty l (k:Int))) (a12.tmps.getD 54 undef) from hx12.tmp 54).str_inv
      have h11:a12.tmps.getD 11 undef = .pointer (some ⟨w.heap.size,0,none⟩):=(hkk 11 (k68.trans k912) (by simp [ds32])).trans hg
      have hb612:=bjoin hb6 hb12
      refine T.call rfl rfl rfl fn67 (V:=#[.pointer (some ⟨w.heap.size,0,none⟩), .string (rdOf ByteArray.empty l (k:Int))]) (by have e1:a12.eval (.tmp 11)=_:=h11;have e2:a12.eval (.tmp 54)=_:=h54;simp only [List.map_toArray,List.map_cons,List.map_nil,e1,e2]) (bwrite _ _ _ _ _ hB12 (digits_joined.fits (by omega) hl2) hb612.size) ?_
      rintro e w13 ⟨rfl,hB13,hb13⟩
      refine ⟨_,rfl,?_⟩
      rw [← digits_joined.step l k (by omega)] at hB13
      have k13:keeps ds32 a1 (a12.put (some 55) (.tuple #[.int .i64 (rdOf ByteArray.empty l (k:Int)).size, .nilIface])):=(k68.trans k912).trans (.put (by simp [ds32]))
      have h12':(a12.put (some 55) (.tuple #[.int .i64 (rdOf ByteArray.empty l (k:Int)).size, .nilIface])).tmps.getD 12 undef = .int .i64 (((k + 1:Nat):Int) - 1):=by
        rw [(keeps.put (ds:=[55]) (a:=a12) (List.mem_singleton.2 rfl)).2.2 12 (by simp)]
        exact (show VR I12 w12 noB m12 (.int .i64 (((k + 1:Nat):Int) - 1)) (a12.tmps.getD 12 undef) from hx12.tmp 12).int_inv
      show Code.wp Try.prog _ _ (a12.put (some 55) (.tuple #[.int .i64 (rdOf ByteArray.empty l (k:Int)).size, .nilIface])) w13
      generalize a12.put (some 55) (.tuple #[.int .i64 (rdOf ByteArray.empty l (k:Int)).size, .nilIface])=a13 at k13 h12'
      have hb1:Below w.heap.size w w13:=hb612.trans hb13
      clear hx12 hx11 hx10 hx9 hx8 hx7 hx6
      have hx13:=T.enter (P:=Try.prog) (st:=⟨grp2 l (((k + 1:Nat):Int) - 1),noB⟩) (w:=w13) (m:=m) ((k13.2.1.trans hk.2.1).trans hs0) ((k13.1.trans hk.1).trans hx.def0) (grp2_vr hv3 hb1 (((hkk 3 k13 (by simp [ds32])).trans (hk.2.2 3 (by simp))).trans hV3) h12') rfl
      refine wp_region ?_
      refine T.pu (ds:=ds32) hx13 rfl rfl rfl (hlt _ (by decide)) (by simp [ds32]) (.move (.tmp (v:=.int _ _) rfl)) fun a14 w14 I14 m14 k14 hx14=>?_
      refine T.pu (ds:=ds32) hx14 rfl rfl rfl (hlt _ (by decide)) (by simp [ds32]) (.bin (.tmp rfl) .int U.sub64) fun a15 w15 I15 m15 k15 hx15=>?_
      refine T.pu (ds:=ds32) hx15 rfl rfl rfl (hlt _ (by decide)) (by simp [ds32]) (.assign (.tmp (v:=.int _ _) rfl)) fun a16 w16 I16 m16 k16 hx16=>?_
      have h12'':a16.tmps.getD 12 undef = .int .i64 ((k:Int) - 1):=by
        have h1:=(show VR I16 w16 noB m16 (.int .i64 (wrap64 (((k + 1:Nat):Int) - 1 - 1))) (a16.tmps.getD 12 undef) from hx16.tmp 12).int_inv
        rw [h1]
        congr 1
        unfold wrap64
        omega
      refine ⟨⟨((k13.trans k14).trans k15).trans k16,bjoin hb1 (T.below hx16),k,by omega,h12'',bgrow hB13 (T.below hx16)⟩,?_⟩
      rw [h12'']
      show ((k:Int) - 1 + 1).toNat < (((k + 1:Nat):Int) - 1 + 1).toNat
      omega
    · have hc:=of_decide_eq_false hc
      obtain rfl:k=0:=by omega
      refine wp_exit ?_
      show Code.wp Try.prog _ _ a8 w8
      have hb8:=bjoin hb6 (T.below hx8)
      have h11:a8.tmps.getD 11 undef = .pointer (some ⟨w.heap.size,0,none⟩):=(hkk 11 k68 (by simp [ds32])).trans hg
      refine wp_seq (wp_region ?_)
      refine T.call rfl rfl rfl fn68 (V:=#[.pointer (some ⟨w.heap.size,0,none⟩)]) (by have e1:a8.eval (.tmp 11)=_:=h11;simp only [List.map_toArray,List.map_cons,List.map_nil,e1]) (bstring _ _ _ _ hB8 hb8.size) ?_
      rintro e w9 ⟨rfl,hb9⟩
      refine ⟨_,rfl,?_⟩
      have hb:=hb8.trans hb9
      have hx9:=hx.grow (a:=a) hb
      have hz:((a8.put (some 56) (.string ⟨(digits_joined.go l 0).toArray⟩))).tmps.size=c.n:=by rw [Act.put_tmps,Array.size_setIfInBounds];exact (k68.2.1.trans hk.2.1).trans hs0
      have hd8:(a8.put (some 56) (.string ⟨(digits_joined.go l 0).toArray⟩)).defers = []:=(k68.1.trans hk.1).trans hx.def0
      have hv:(a8.put (some 56) (.string ⟨(digits_joined.go l 0).toArray⟩)).tmps.getD 56 undef = .string ⟨(digits_joined.go l 0).toArray⟩:=put_at (by have:=(k68.2.1.trans hk.2.1).trans hs0;omega)
      have hx10:SRx c I m ⟨upd (fun _=>.bad) 56 (.str ⟨(digits_joined.go l 0).toArray⟩),st.b⟩ (a8.put (some 56) (.string ⟨(digits_joined.go l 0).toArray⟩)) w9:=by
        refine ⟨hx9.wr,hd8,hz,fun x=>?_⟩
        show VR I w9 st.b m (upd (fun _=>.bad) 56 (.str _) x) _
        by_cases hx:x=56
        · subst hx;rw [upd_same,hv];exact .str _
        · rw [upd_ne _ _ hx];exact .bad _
      refine T.pu (ds:=[2]) hx10 rfl rfl rfl (hlt _ (by decide)) (by simp) (.assign (.tmp (v:=.str _) rfl)) fun a11 w11 I11 m11 k11 hx11=>?_
      show Code.wp Try.prog _ _ a11 w11
      exact wp_ret (hq .ret _ a11 w11 (hQ _ rfl) ⟨I11,m11,hx11⟩)
end Go.Proofs.Ytiikhhemgplocaa
end

section
namespace Go.Proofs.Ytiikhhemgplocaa.F
open Go.RowKit Go.Proofs.YtiikhhemgplocaaW.PrintWords Go.Proofs.YtiikhhemgplocaaW.PrintLast Go.Proofs.YtiikhhemgplocaaW.PrintMore Go.Proofs.YtiikhhemgplocaaX
attribute [local go_sem] max2_int cell_some xrun_add64 xrun_sub64
attribute [local go_sem] max2_int min2_int max_two min_two max_three min_three max_four min_four
set_option linter.unusedVariables false
set_option linter.unusedSimpArgs false
theorem digits_small.cells_at (acc:List Int) (h:acc.length < 20):(digits_small.cells acc)[19 - acc.length]?=some (Value.int .u8 0):=by
  unfold digits_small.cells
  rw [List.getElem?_toArray,List.getElem?_append_left (by simp;omega),List.getElem?_replicate,if_pos (by omega)]
theorem digits_small.cells_put (acc:List Int) (h:acc.length < 20) (x:Int):(digits_small.cells acc).setIfInBounds (19 - acc.length) (Value.int .u8 x)=digits_small.cells (x :: acc):=by
  unfold digits_small.cells
  rw [List.setIfInBounds_toArray]
  congr 1
  have e1:20 - acc.length=(19 - acc.length) + 1:=by omega
  have e2:20 - (x :: acc).length=19 - acc.length:=by simp
  rw [e2,e1,List.replicate_succ',List.append_assoc,List.set_append_right _ _ (by simp)]
  simp
theorem digits_small.step {n:Int} (h0:0≤n) (h1:n < 18446744073709551616):IntKind.u64.wrap (n.tdiv 10)=n / 10:=by
  rw [Int.tdiv_eq_ediv_of_nonneg h0]
  simp only [IntKind.wrap,IntKind.bits,IntKind.signed]
  simp
  omega
theorem digits_small.digit {n:Int} (h0:0≤n):IntKind.u64.wrap (48 + n.tmod 10) % 256=48 + n % 10:=by
  rw [Int.tmod_eq_emod_of_nonneg h0]
  simp only [IntKind.wrap,IntKind.bits,IntKind.signed]
  simp
  omega
theorem info5:(Try.prog.info? 5).map (fun i=>(i.zero,i.size,i.bytes))=some (some (.int .u8 0),1,1):=by kernel_rfl
theorem m0 {p:Prop} (h:p):Aside0 p:=⟨h⟩
set_option maxHeartbeats 1000000 in
set_option maxRecDepth 100000 in
theorem digits_small.calls (a0 a1:Int) (r:ByteArray) (w:World) (h:digits_small.f a0 a1=some r) :
    Calls Try.prog 66 #[.int .u64 a0, .int .i64 a1] w fun e w'=>e = .returned (.string r)∧Below w.heap.size w w':=by
  unfold digits_small.f at h
  by_cases hc:0≤a0∧a0 < 18446744073709551616
  rotate_left
  · rw [if_neg hc] at h
    cases h
  rw [if_pos hc] at h
  obtain ⟨R,hR,hr⟩:=Option.map_eq_some_iff.mp h
  clear h
  have HB:=m0 (Below.refl w.heap.size w)
  have HR:=m0 hR
  have HC:=m0 hc
  have HS:=m0 hr
  clear hR hc hr
  go_enter Try.func66,Try.ntmps66
  go_wp2
  go_loopg [0,6] 21 (fun kq v0 v6 w'=>∃ (n i:Int) (acc:List Int),v0 = .int .u64 n∧v6 = .int .i64 i∧Aside0 (i=20 - acc.length∧acc.length≤20∧0≤n∧n < 18446744073709551616)∧Aside0 (digits_small.l0 kq n a1 acc=some R)∧Aside0 (kq≤21)∧Aside0 (w'.heap[w.heap.size]?=some (.cells (digits_small.cells acc) 127 (0,0)))∧Aside0 (Below w.heap.size w w'))
  case atStart=>exact ⟨a0,20,[],rfl,rfl,⟨rfl,by simp,HC.out.1,HC.out.2⟩,HR,⟨Nat.le_refl _⟩,⟨blk_new w (.cells (digits_small.cells []) 127 (0,0))⟩,⟨below_alloc HB.out _⟩⟩
  case round =>
    clear HR HC
    obtain ⟨n,i,acc,rfl,rfl,HI,HA,HK1,BK,HB⟩:=hrel
    cases gk with
    | zero=>exact absurd HA.out (by simp [digits_small.l0])
    | succ k1 =>
      have H:=HA.out
      clear HA
      simp only [digits_small.l0] at H
      by_cases c:0 < n∨(acc.length:Int) < a1
      · rw [if_pos c] at H
        by_cases c3:acc.length < 20
        rotate_left
        · rw [if_neg c3] at H
          cases H
        rw [if_pos c3] at H
        have hw:wrap64 (i - 1)=((19 - acc.length:Nat):Int):=by have:=HI.out;unfold wrap64;omega
        have hw2:wrap64 (20 - i)=(acc.length:Int):=by have:=HI.out;unfold wrap64;omega
        have hb:0≤wrap64 (i - 1)∧wrap64 (i - 1) < 20:=by rw [hw];omega
        have hn:(wrap64 (i - 1)).toNat=19 - acc.length:=by rw [hw];simp
        have hcell:wr.cell? ⟨w.heap.size,(wrap64 (i - 1)).toNat,none⟩=some (.int .u8 0):=by rw [hn,blk_cell BK.out];exact digits_small.cells_at acc c3
        have hfro:wr.frozen? ⟨w.heap.size,(wrap64 (i - 1)).toNat,none⟩=false:=blk_frozen BK.out _
        have hput:(wr.setCell ⟨w.heap.size,(wrap64 (i - 1)).toNat,none⟩ (.int .u8 (IntKind.u64.wrap (48 + n.tmod 10) % 256))).heap[w.heap.size]?=some (.cells (digits_small.cells ((48 + n % 10) :: acc)) 127 (0,0)):=by
          rw [hn,digits_small.digit HI.out.2.2.1]
          exact blk_put BK.out _ _ (digits_small.cells_put acc c3 _)
        have hout:Below w.heap.size w (wr.setCell ⟨w.heap.size,(wrap64 (i - 1)).toNat,none⟩ (.int .u8 (IntKind.u64.wrap (48 + n.tmod 10) % 256))):=below_set HB.out (Nat.le_refl _)
        have HP:=m0 hput
        have HO:=m0 hout
        have HH:=m0 H
        have HN:=m0 hn
        clear hput hout H hn
        have hq:=digits_small.step HI.out.2.2.1 HI.out.2.2.2
        have HT:=m0 c
        have rel : ∀ W:World,W=wr.setCell ⟨w.heap.size,(wrap64 (i - 1)).toNat,none⟩ (.int .u8 (IntKind.u64.wrap (48 + n.tmod 10) % 256))→∃ (n' i':Int) (acc':List Int),Value.int .u64 (n / 10) = .int .u64 n'∧Value.int .i64 (wrap64 (i - 1)) = .int .i64 i'∧Aside0 (i'=20 - acc'.length∧acc'.length≤20∧0≤n'∧n' < 18446744073709551616)∧Aside0 (digits_small.l0 k1 n' a1 acc'=some R)∧Aside0 (k1≤21)∧Aside0 (W.heap[w.heap.size]?=some (.cells (digits_small.cells acc') 127 (0,0)))∧Aside0 (Below w.heap.size w W):=by
          rintro W rfl
          have h1:=HI.out
          exact ⟨n / 10,wrap64 (i - 1),(48 + n % 10) :: acc,rfl,rfl,⟨by rw [hw,List.length_cons];omega,by rw [List.length_cons];omega,by omega,by omega⟩,HH,⟨by have:=HK1.out;omega⟩,HP,HO⟩
        have HREL:=m0 rel
        clear rel hw c
        by_cases c1:0 < n
        · have c1b:decide (0 < n)=true:=decide_eq_true c1
          clear c1 hw2
          go_wp2
          go_roundg k1
          case measure=>have:=HK1.out;omega
          case rel=>exact HREL.out _ rfl
        · have c1b:decide (0 < n)=false:=decide_eq_false c1
          have c2b:decide (wrap64 (20 - i) < a1)=true:=decide_eq_true (by rw [hw2];exact HT.out.resolve_left c1)
          clear c1 hw2
          go_wp2
          go_roundg k1
          case measure=>have:=HK1.out;omega
          case rel=>exact HREL.out _ rfl
      · rw [if_neg c] at H
        obtain rfl:=Option.some.inj H
        have c1b:decide (0 < n)=false:=decide_eq_false (fun h=>c (Or.inl h))
        have hw2:wrap64 (20 - i)=(acc.length:Int):=by have:=HI.out;unfold wrap64;omega
        have c2b:decide (wrap64 (20 - i) < a1)=false:=decide_eq_false (fun h=>c (Or.inr (by rw [← hw2];exact h)))
        have hi0:i.toNat=20 - acc.length:=by have:=HI.out;omega
        have hi1:0≤i∧i≤20:=by have:=HI.out;omega
        have hlen:acc.length≤20:=HI.out.2.1
        have hal:Try.prog.arrayLen 127=20:=by kernel_rfl
        have hel:Try.prog.elem 127=5:=by kernel_rfl
        have hut:Try.prog.underlying 127=some (.array (Try.prog.arrayLen 127) (Try.prog.elem 127)):=by kernel_rfl
        obtain ⟨ad,hsl,had⟩ : ∃ ad:Addr,(∀ W:World,(Instr.sliceAt 127 (.pointer (some ⟨w.heap.size,0,none⟩)) (some (.int .i64 i)) none none).run Try.prog W = .ok (.slice (some ad) acc.length acc.length) W)∧(0 < acc.length→ad=⟨w.heap.size,20 - acc.length,none⟩):=by
          refine ⟨if 20=i.toNat then ⟨w.heap.size,0,none⟩ else (⟨w.heap.size,0,none⟩:Addr).add (i.toNat * 1),fun W=>?_,fun h=>?_⟩
          · rw [Go.run_sliceAt_array_l W 127 _ hut .i64 i hi1.1 (by rw [hal];exact hi1.2),hal,hel]
            obtain ⟨i0,hi,_,hsz,_⟩:=info_parts info5
            simp [sizeOf,typeInfo,hi,hsz,Result.andThen,Go.slicedAt]
            omega
          · rw [if_neg (by omega),hi0]
            simp [add_plain]
        have hrd:ReadsInt wr .u8 (some ad) acc.length acc:=by
          refine ⟨rfl,by omega,fun h=>⟨ad,rfl,fun j hj=>?_⟩⟩
          rw [had h,show (⟨w.heap.size,20 - acc.length,none⟩:Addr).add j=⟨w.heap.size,20 - acc.length + j,none⟩ by unfold Addr.add;split <;> simp_all,blk_cell BK.out]
          unfold digits_small.cells
          rw [List.getElem?_toArray,List.getElem?_append_right (by simp)]
          simp [hj]
        have hconv:=string_of_reads (P:=Try.prog) (src:=105) (dst:=9) (e:=5) (c:=acc.length) Try.underlying105 Try.underlying5 Try.underlying9 hrd
        obtain rfl:=HS.out
        clear HS
        clear hw2 c H hi0 hi1 hlen hal hel hut hrd had
        go_wp2
        go_ret
        exact ⟨rfl,HB.out⟩
end Go.Proofs.Ytiikhhemgplocaa.F
namespace Go.Proofs.Ytiikhhemgplocaa
open Go.AVL Go.RowKit Go.Proofs.Ytiikhhemgplocaa.F
theorem int2_args {A:Nat→Prop} {w:World} {B:Nat→Blk} {m:Nat→Reg} {V:Array Value} {k k':IntKind} {a b:Int} (hs:V.size=2) (hv : ∀ i,i < 2→VR A w B m ([AV.int k a,AV.int k' b].getD i .bad) (V.getD i undef)):V = #[.int k a, .int k' b]:=by
  have h0:=(hv 0 (by omega)).int_inv
  have h1:=(hv 1 (by omega)).int_inv
  apply Array.ext
  · exact hs
  · intro i hi1 hi2
    rw [hs] at hi1
    rcases i with _|_|i
    · simpa [Array.getD,hs] using h0
    · simpa [Array.getD,hs] using h1
    · omega
noncomputable def c66:Code:=Try.f66.body.getD .skip
set_option maxRecDepth 100000
theorem fn66:FnOk Try.prog 66 Try.f66 c66:=⟨Try.func66,rfl,by kernel_rfl,by kernel_rfl,mixed⟩
theorem digits_small.cs {a0:Int} {a1:Int} {r:ByteArray} (h:digits_small.f a0 a1=some r):CS Try.prog 66 [.int .u64 a0, .int .i64 a1] .no [.str r]:=by
  intro A wg w m V hwg hw hs hv
  rw [int2_args hs hv]
  refine callW_of_calls fn66 ((digits_small.calls a0 a1 r w h).mono ?_)
  rintro e w' ⟨rfl,hb⟩
  exact ⟨A,m,hw.grow hb,(fun p r1 r2 e h=>by cases h), .str r⟩
end Go.Proofs.Ytiikhhemgplocaa
end

section
namespace Go.Proofs.Ytiikhhemgplocaa
open Go.AVL Go.RowKit Go.Proofs.Ytiikhhemgplocaa.F Go.Proofs.YtiikhhemgplocaaX Go.Proofs.YtiikhhemgplocaaW.PrintWords Go.Proofs.YtiikhhemgplocaaW.PrintLast Go.Proofs.YtiikhhemgplocaaW.PrintMore
set_option linter.unusedVariables false
set_option linter.unusedSimpArgs false
set_option maxRecDepth 100000
set_option maxHeartbeats 16000000
theorem digits_Print.cs {k:Nat} {l0_0:List Int} {r:ByteArray} (h:digits_Print.f k l0_0=some r):CS Try.prog 39 [.agg [.fi .u64 l0_0]] .no [.str r]:=by
  unfold digits_Print.f at h
  refine E.pure fn39 rfl ?_
  refine X.seq ?_
  refine X.still ?_
  refine O.puE (v':=.op 1 (1) 0 0) (b':=⟨1, .own,_,_⟩) (Pu.box (.tmp (v:=.agg _) rfl) rfl rfl) rfl rfl ?_
  refine O.pu (Pu.assign .str) ?_
  refine O.nil ?_
  refine X.seq ?_
  refine X.seq ?_
  refine X.still ?_
  refine O.pu (U.load (.tmp rfl) rfl rfl (U.whole rfl rfl)) ?_
  obtain ⟨q1,Hq1,h⟩:=Option.bind_eq_some_iff.1 h
  refine O.pu (U.call (ss:=[]) (.cons (.tmp (v:=.agg _) rfl) .nil) (.cons (.cl (.aggL (.cons .fi .nil))) .nil) (nat_Nat_Zero.cs Hq1) (.inl rfl) (.bool)) ?_
  refine O.nil ?_
  refine X.cond (.tmp rfl) (fun c=>?_) (fun c=>?_)
  · rw [if_pos c] at h
    refine X.seq ?_
    refine X.still ?_
    refine O.pu (Pu.assign .str) ?_
    refine O.nil ?_
    refine X.ret ?_
    cases h
    exact E.fin [] (.tmp (v:=.str _) rfl .nil) (.cons (.cl .str) .nil)
  · rw [if_neg (bf c)] at h
    refine X.skip ?_
    refine X.seq ?_
    refine X.still ?_
    refine O.ef (U.nilOE (u:=1) (row:=.vals (List.map AV.str [])) (e:=9) rfl rfl) ?_
    refine O.nil ?_
    refine X.seq ?_
    refine X.block ?_
    refine X.inv (fun k s=>∃ x3 x725000 n3 u1 u3,s.b 3=⟨u3, .own, .vals (List.map AV.str x3),9⟩∧s.t 3 = .os 3 u3 0 n3 true∧x3.length=n3∧s.t 1 = .op 1 u1 0 0∧s.b 1=⟨u1, .own, .vals [.agg [.fi .u64 x725000]],24⟩∧digits_Print.l0 k x3 x725000=some r) ?_ ?_ ⟨_,_,_,_,_,rfl,rfl,rfl,rfl,rfl,h⟩
    · rintro s ⟨_,_,_,_,_,_,_,_,_,_,h⟩;unfold digits_Print.l0 at h;cases h
    · rintro k1 s1 ⟨x3,x725000,n3,u1,u3,e0,e1,rfl,e3,e4,h⟩
      unfold digits_Print.l0 at h
      rw [St.fixB e0,St.fixT e1,St.fixT e3,St.fixB e4]
      refine X.seq ?_
      refine X.seq ?_
      refine X.still ?_
      refine O.pu (U.load (.tmp rfl) rfl rfl (U.whole rfl rfl)) ?_
      obtain ⟨q2,Hq2,h⟩:=Option.bind_eq_some_iff.1 h
      refine O.pu (U.call (ss:=[]) (.cons (.tmp (v:=.agg _) rfl) .nil) (.cons (.cl (.aggL (.cons .fi .nil))) .nil) (nat_Nat_Zero.cs Hq2) (.inl rfl) (.bool)) ?_
      refine O.pu (Pu.un (.tmp rfl) .not) ?_
      refine O.nil ?_
      refine X.condNot (.tmp rfl) (fun c=>?_) (fun c=>?_)
      · rw [if_neg (bf c)] at h
        refine X.skip ?_
        refine X.block ?_
        refine X.seq ?_
        refine X.drawn ?_
        refine D.pu (U.load (.tmp rfl) rfl rfl (U.whole rfl rfl)) ?_
        refine D.puE (v':=.os 20 ((s1.b 20).ver + 1) 0 _ true) (b':=⟨(s1.b 20).ver + 1, .own,_,_⟩) (U.litI rfl rfl (.cons .int .nil) rfl rfl) rfl rfl ?_
        obtain ⟨q3,Hq3,h⟩:=Option.bind_eq_some_iff.1 h
        refine D.ef (C.callZ (ss:=[20]) (.cons (.tmp (v:=.os _ _ _ _ _) rfl) .nil) (.cons (.osIf (by simp) rfl (Mode.live_ne rfl) rfl (by first|rfl|(simp only [List.length_set];done)|(simp only [List.length_drop,List.length_take,List.length_append,List.length_set] at *;omega))) .nil) (nat_Of.cs Hq3) (.aggL (.cons .fi .nil)) (nowin rfl)) ?_
        obtain ⟨q4,Hq4,h⟩:=Option.bind_eq_some_iff.1 h
        refine D.pu (U.call (ss:=[]) (.cons (.tmp (v:=.agg _) rfl) (.cons (.tmp (v:=.agg _) rfl) .nil)) (.cons (.cl (.aggL (.cons .fi .nil))) (.cons (.cl (.aggL (.cons .fi .nil))) .nil)) (quot_Div.cs Hq4) (.inl rfl) (.tupL (.cons (.aggL (.cons .fi .nil)) (.cons (.aggL (.cons .fi .nil)) (.cons .int .nil))))) ?_
        refine D.pu (Pu.move (.tmp (v:=.tup _) rfl)) ?_
        refine D.pu (Pu.extract (.tmp rfl) rfl) ?_
        refine D.pu (Pu.extract (.tmp rfl) rfl) ?_
        refine D.pu (Pu.extract (.tmp rfl) rfl) ?_
        refine D.puE (v':=.op 4 ((s1.b 4).ver + 1) 0 0) (b':=⟨(s1.b 4).ver + 1, .own,(.vals [.agg [.fi .u64 []]]),_⟩) Pu.alloc rfl rfl ?_
        refine D.puE (v':=.op 5 ((s1.b 5).ver + 1) 0 0) (b':=⟨(s1.b 5).ver + 1, .own,(.vals [.agg [.fi .u64 []]]),_⟩) Pu.alloc rfl rfl ?_
        refine D.ef0 (C.storeE (.tmp rfl) rfl rfl (.tmp (v:=.agg _) rfl) rfl rfl (.whole (notBad_ne rfl) rfl) .one) ?_
        refine D.ef0 (C.storeE (.tmp rfl) rfl rfl (.tmp (v:=.agg _) rfl) rfl rfl (.whole (notBad_ne rfl) rfl) .one) ?_
        refine D.pu (Pu.assign (.tmp (v:=.int _ _) rfl)) ?_
        refine D.nil (by kernel_rfl) ?_
        refine X.seq ?_
        refine X.still ?_
        refine O.pu (Pu.assign .int) ?_
        refine O.nil ?_
        refine X.seq ?_
        refine X.seq ?_
        refine X.still ?_
        refine O.pu (U.load (.tmp rfl) rfl rfl (U.whole rfl rfl)) ?_
        obtain ⟨q5,Hq5,h⟩:=Option.bind_eq_some_iff.1 h
        refine O.puE (v':=.os 27 ((s1.b 27).ver + 1) 0 _ true) (b':=⟨(s1.b 27).ver + 1, .own,_,_⟩) (U.callF (ss:=[]) (.cons (.tmp (v:=.agg _) rfl) .nil) (.cons (.cl (.aggL (.cons .fi .nil))) .nil) (nat_Nat_Limbs.cs Hq5)) rfl rfl ?_
        refine O.pu (Pu.lenO rfl (.tmp rfl)) ?_
        refine O.pu (Pu.move .int) ?_
        refine O.nil ?_
        refine X.block ?_
        refine X.inv (fun k s=>k≤k1∧∃ x3 x7 x27 x28 x29 x742000 n27 n3 u1 u27 u3 u4 u5 z1_0 z5_0,s.b 3=⟨u3, .own, .vals (List.map AV.str x3),9⟩∧s.t 3 = .os 3 u3 0 n3 true∧x3.length=n3∧s.t 7 = .int .u64 x7∧s.b 27=⟨u27, .own, .ints .u64 x27,77⟩∧s.t 27 = .os 27 u27 0 n27 true∧x27.length=n27∧s.t 28 = .int .i64 x28∧s.t 29 = .int .i64 x29∧s.t 1 = .op 1 u1 0 0∧s.b 1=⟨u1, .own, .vals [.agg [.fi .u64 z1_0]],24⟩∧s.t 4 = .op 4 u4 0 0∧s.b 4=⟨u4, .own, .vals [.agg [.fi .u64 x742000]],24⟩∧s.t 5 = .op 5 u5 0 0∧s.b 5=⟨u5, .own, .vals [.agg [.fi .u64 z5_0]],24⟩∧digits_Print.l1 k x3 x7 x27 x28 x29 x742000=some r) ?_ ?_ ⟨(by omega),_,_,_,_,_,_,_,_,_,_,_,_,_,_,_,rfl,rfl,(by first|rfl|(simp only [List.length_set];done)|(simp only [List.length_drop,List.length_take,List.length_append,List.length_set] at *;omega)),rfl,rfl,rfl,(by first|rfl|(simp only [List.length_set];done)|(simp only [List.length_drop,List.length_take,List.length_append,List.length_set] at *;omega)),rfl,rfl,rfl,rfl,rfl,rfl,rfl,rfl,h⟩
        · rintro s ⟨_,_,_,_,_,_,_,_,_,_,_,_,_,_,_,_,_,_,_,_,_,_,_,_,_,_,_,_,_,_,_,h⟩;unfold digits_Print.l1 at h;cases h
        · rintro k2 s2 ⟨kl2,x3,x7,x27,x28,x29,x742000,n27,n3,u1,u27,u3,u4,u5,z1_0,z5_0,e0,e1,rfl,e3,e4,e5,rfl,e7,e8,e9,e10,e11,e12,e13,e14,h⟩
          unfold digits_Print.l1 at h
          rw [St.fixB e0,St.fixT e1,St.fixT e3,St.fixB e4,St.fixT e5,St.fixT e7,St.fixT e8,St.fixT e9,St.fixB e10,St.fixT e11,St.fixB e12,St.fixT e13,St.fixB e14]
          refine X.seq ?_
          refine X.still ?_
          refine O.pu (Pu.bin (.tmp rfl) (.tmp rfl) .lss) ?_
          refine O.nil ?_
          refine X.seq ?_
          refine X.condP (.tmp rfl) (fun c=>?_) (fun c=>?_)
          · rw [if_pos c] at h
            refine X.skip ?_
            refine X.seq ?_
            refine X.block ?_
            refine X.seq ?_
            refine X.still ?_
            repeat (rw [giff] at h;obtain ⟨_,h⟩:=h)
            refine O.pu (U.indexO0 rfl (.tmp rfl) rfl rfl (.tmp rfl) (by first|omega|(simp only [List.length_set] at *;omega)) (by first|omega|(simp only [List.length_set] at *;omega)) rfl rfl) ?_
            refine O.pu (U.rdO (.tmp rfl) rfl rfl rfl rfl rfl) ?_
            refine O.pu (Pu.assign (.tmp (v:=.int _ _) rfl)) ?_
            refine O.nil ?_
            refine X.still ?_
            refine O.pu (Pu.move (.tmp (v:=.int _ _) rfl)) ?_
            refine O.pu (Pu.assign (.tmp (v:=.int _ _) rfl)) ?_
            refine O.nil ?_
            refine X.still ?_
            refine O.pu (Pu.bin (.tmp rfl) .int U.add64) ?_
            refine O.pu (Pu.move (.tmp (v:=.int _ _) rfl)) ?_
            refine O.nil ?_
            exact ⟨_,(by omega),(by omega),_,_,_,_,_,_,_,_,_,_,_,_,_,_,_,rfl,rfl,(by first|rfl|(simp only [List.length_set];done)|(simp only [List.length_drop,List.length_take,List.length_append,List.length_set] at *;omega)),rfl,rfl,rfl,(by first|rfl|(simp only [List.length_set];done)|(simp only [List.length_drop,List.length_take,List.length_append,List.length_set] at *;omega)),rfl,rfl,rfl,rfl,rfl,rfl,rfl,rfl,h⟩
          · rw [if_neg c] at h
            refine X.exit (B.out ?_)
            refine X.seq ?_
            refine X.still ?_
            refine O.pu (Pu.assign .int) ?_
            refine O.nil ?_
            refine X.seq ?_
            refine X.seq ?_
            refine X.still ?_
            refine O.pu (U.load (.tmp rfl) rfl rfl (U.whole rfl rfl)) ?_
            obtain ⟨q6,Hq6,h⟩:=Option.bind_eq_some_iff.1 h
            refine O.pu (U.call (ss:=[]) (.cons (.tmp (v:=.agg _) rfl) .nil) (.cons (.cl (.aggL (.cons .fi .nil))) .nil) (nat_Nat_Zero.cs Hq6) (.inl rfl) (.bool)) ?_
            refine O.nil ?_
            refine X.cond (.tmp rfl) (fun c=>?_) (fun c=>?_)
            · rw [if_pos c] at h
              refine X.still ?_
              refine O.pu (Pu.assign .int) ?_
              refine O.nil ?_
              refine X.seq ?_
              refine X.still ?_
              refine O.pu (Pu.move (.tmp (v:=.os _ _ _ _ _) rfl)) ?_
              refine O.pu (Pu.move (.tmp (v:=.int _ _) rfl)) ?_
              refine O.pu (Pu.move (.tmp (v:=.int _ _) rfl)) ?_
              obtain ⟨q7,Hq7,h⟩:=Option.bind_eq_some_iff.1 h
              refine O.pu (U.call (ss:=[]) (.cons (.tmp (v:=.int _ _) rfl) (.cons (.tmp (v:=.int _ _) rfl) .nil)) (.cons (.cl .int) (.cons (.cl .int) .nil)) (digits_small.cs Hq7) (.inl rfl) (.str)) ?_
              refine O.puE (v':=.os 41 ((s2.b 41).ver + 1) 0 _ true) (b':=⟨(s2.b 41).ver + 1, .own,_,_⟩) (U.litS (en:=AV.str) (l:=[_]) rfl (.cons (.tmp (v:=.str _) rfl) rfl .nil) rfl rfl rfl (fun _=>rfl)) rfl rfl ?_
              repeat (rw [giff] at h;obtain ⟨_,h⟩:=h)
              refine O.ef (U.appendSE (en:=AV.str) (u':=(s2.b 42).ver + 1) rfl (.tmp rfl) rfl (by first|rfl|(simp only [List.length_append,List.length_cons,List.length_nil] at *;omega)) (.tmp rfl) (.osVf (List.mem_singleton.2 rfl) rfl (Mode.live_ne rfl) rfl (ClL.map fun _=>.str) (by simp)) rfl (fun _=>⟨rfl,rfl⟩) (by simp only [maxLen,List.length_cons,List.length_nil];omega) (by simp only [List.length_cons,List.length_nil];omega) rfl) ?_
              refine O.ef (U.takeE (u':=u3 + 1) (.tmp rfl) rfl (ne_of_beq rfl) rfl) ?_
              refine O.nil ?_
              refine X.still ?_
              refine O.pu (U.load (.tmp rfl) rfl rfl (U.whole rfl rfl)) ?_
              refine O.ef0 (U.storeE (.tmp rfl) rfl rfl (.tmp (v:=.agg _) rfl) rfl rfl (.whole (notBad_ne rfl) rfl) .one) ?_
              refine O.nil ?_
              exact ⟨_,(by omega),_,_,_,_,_,rfl,rfl,(by first|rfl|(simp only [List.length_set];done)|(simp only [List.length_drop,List.length_take,List.length_append,List.length_set] at *;omega)),rfl,rfl,h⟩
            · rw [if_neg (bf c)] at h
              refine X.skip ?_
              refine X.seq ?_
              refine X.still ?_
              refine O.pu (Pu.move (.tmp (v:=.os _ _ _ _ _) rfl)) ?_
              refine O.pu (Pu.move (.tmp (v:=.int _ _) rfl)) ?_
              refine O.pu (Pu.move (.tmp (v:=.int _ _) rfl)) ?_
              obtain ⟨q8,Hq8,h⟩:=Option.bind_eq_some_iff.1 h
              refine O.pu (U.call (ss:=[]) (.cons (.tmp (v:=.int _ _) rfl) (.cons (.tmp (v:=.int _ _) rfl) .nil)) (.cons (.cl .int) (.cons (.cl .int) .nil)) (digits_small.cs Hq8) (.inl rfl) (.str)) ?_
              refine O.puE (v':=.os 41 ((s2.b 41).ver + 1) 0 _ true) (b':=⟨(s2.b 41).ver + 1, .own,_,_⟩) (U.litS (en:=AV.str) (l:=[_]) rfl (.cons (.tmp (v:=.str _) rfl) rfl .nil) rfl rfl rfl (fun _=>rfl)) rfl rfl ?_
              repeat (rw [giff] at h;obtain ⟨_,h⟩:=h)
              refine O.ef (U.appendSE (en:=AV.str) (u':=(s2.b 42).ver + 1) rfl (.tmp rfl) rfl (by first|rfl|(simp only [List.length_append,List.length_cons,List.length_nil] at *;omega)) (.tmp rfl) (.osVf (List.mem_singleton.2 rfl) rfl (Mode.live_ne rfl) rfl (ClL.map fun _=>.str) (by simp)) rfl (fun _=>⟨rfl,rfl⟩) (by simp only [maxLen,List.length_cons,List.length_nil];omega) (by simp only [List.length_cons,List.length_nil];omega) rfl) ?_
              refine O.ef (U.takeE (u':=u3 + 1) (.tmp rfl) rfl (ne_of_beq rfl) rfl) ?_
              refine O.nil ?_
              refine X.still ?_
              refine O.pu (U.load (.tmp rfl) rfl rfl (U.whole rfl rfl)) ?_
              refine O.ef0 (U.storeE (.tmp rfl) rfl rfl (.tmp (v:=.agg _) rfl) rfl rfl (.whole (notBad_ne rfl) rfl) .one) ?_
              refine O.nil ?_
              exact ⟨_,(by omega),_,_,_,_,_,rfl,rfl,(by first|rfl|(simp only [List.length_set];done)|(simp only [List.length_drop,List.length_take,List.length_append,List.length_set] at *;omega)),rfl,rfl,h⟩
      · rw [if_pos c] at h
        refine X.exit (B.out ?_)
        obtain ⟨qt,Hqt,h⟩:=Option.bind_eq_some_iff.1 h
        cases h
        exact X.sem (tail32 rfl rfl rfl Hqt fun s hs=>E.fin [] (.tmp (v:=.str _) hs .nil) (.cons (.cl .str) .nil))
noncomputable def c38:Code:=Try.f38.body.getD .skip
theorem fn38:FnOk Try.prog 38 Try.f38 c38:=⟨Try.func38,rfl,by kernel_rfl,by kernel_rfl,mixed⟩
theorem whole_Int_Print.cs {k:Nat} {l0_0:List Int} {a0_1:Bool} {r:ByteArray} (h:whole_Int_Print.f k l0_0 a0_1=some r):CS Try.prog 38 [.agg [.fi .u64 l0_0, .bool a0_1]] .no [.str r]:=by
  unfold whole_Int_Print.f at h
  refine E.pure fn38 rfl ?_
  refine X.seq ?_
  refine X.still ?_
  refine O.puE (v':=.op 1 (1) 0 0) (b':=⟨1, .own,_,_⟩) (Pu.box (.tmp (v:=.agg _) rfl) rfl rfl) rfl rfl ?_
  refine O.pu (Pu.assign .str) ?_
  refine O.nil ?_
  refine X.seq ?_
  refine X.seq ?_
  refine X.still ?_
  refine O.pu (U.fieldA rfl rfl rfl (.tmp rfl)) ?_
  refine O.pu (U.load (.tmp rfl) rfl rfl (U.cell rfl rfl rfl)) ?_
  refine O.nil ?_
  refine X.cond (.tmp rfl) (fun c=>?_) (fun c=>?_)
  · rw [if_pos c] at h
    refine X.seq ?_
    refine X.still ?_
    refine O.pu (U.fieldA rfl rfl rfl (.tmp rfl)) ?_
    refine O.pu (U.load (.tmp rfl) rfl rfl (U.sub rfl (.take .done))) ?_
    obtain ⟨q1,Hq1,h⟩:=Option.bind_eq_some_iff.1 h
    refine O.pu (U.call (ss:=[]) (.cons (.tmp (v:=.agg _) rfl) .nil) (.cons (.cl (.aggL (.cons .fi .nil))) .nil) (digits_Print.cs Hq1) (.inl rfl) (.str)) ?_
    repeat (rw [giff] at h;obtain ⟨_,h⟩:=h)
    refine O.pu (Pu.bin .str (.tmp rfl) (U.sadd (by first|assumption|omega))) ?_
    refine O.pu (Pu.assign (.tmp (v:=.str _) rfl)) ?_
    refine O.nil ?_
    refine X.ret ?_
    cases h
    exact E.fin [] (.tmp (v:=.str _) rfl .nil) (.cons (.cl .str) .nil)
  · rw [if_neg (bf c)] at h
    refine X.skip ?_
    refine X.seq ?_
    refine X.still ?_
    refine O.pu (U.fieldA rfl rfl rfl (.tmp rfl)) ?_
    refine O.pu (U.load (.tmp rfl) rfl rfl (U.sub rfl (.take .done))) ?_
    obtain ⟨q2,Hq2,h⟩:=Option.bind_eq_some_iff.1 h
    refine O.pu (U.call (ss:=[]) (.cons (.tmp (v:=.agg _) rfl) .nil) (.cons (.cl (.aggL (.cons .fi .nil))) .nil) (digits_Print.cs Hq2) (.inl rfl) (.str)) ?_
    refine O.pu (Pu.assign (.tmp (v:=.str _) rfl)) ?_
    refine O.nil ?_
    refine X.ret ?_
    cases h
    exact E.fin [] (.tmp (v:=.str _) rfl .nil) (.cons (.cl .str) .nil)
noncomputable def c15:Code:=Try.f15.body.getD .skip
theorem fn15:FnOk Try.prog 15 Try.f15 c15:=⟨Try.func15,rfl,by kernel_rfl,by kernel_rfl,mixed⟩
theorem frac_Frac_Print.cs {k:Nat} {l0_0:List Int} {a0_1:Bool} {l0_2:List Int} {r:ByteArray} (h:frac_Frac_Print.f k l0_0 a0_1 l0_2=some r):CS Try.prog 15 [.agg [.fi .u64 l0_0, .bool a0_1, .fi .u64 l0_2]] .no [.str r]:=by
  unfold frac_Frac_Print.f at h
  refine E.pure fn15 rfl ?_
  refine X.seq ?_
  refine X.still ?_
  refine O.puE (v':=.op 1 (1) 0 0) (b':=⟨1, .own,_,_⟩) (Pu.box (.tmp (v:=.agg _) rfl) rfl rfl) rfl rfl ?_
  refine O.pu (Pu.assign .str) ?_
  refine O.nil ?_
  refine X.seq ?_
  refine X.seq ?_
  refine X.still ?_
  refine O.pu (U.fieldA rfl rfl rfl (.tmp rfl)) ?_
  refine O.pu (U.load (.tmp rfl) rfl rfl (U.sub rfl (.skip (.skip (.take .done))))) ?_
  obtain ⟨q1,Hq1,h⟩:=Option.bind_eq_some_iff.1 h
  refine O.pu (U.call (ss:=[]) (.cons (.tmp (v:=.agg _) rfl) .nil) (.cons (.cl (.aggL (.cons .fi .nil))) .nil) (nat_Nat_Zero.cs Hq1) (.inl rfl) (.bool)) ?_
  refine O.nil ?_
  refine X.cond (.tmp rfl) (fun c=>?_) (fun c=>?_)
  · rw [if_pos c] at h
    refine X.seq ?_
    refine X.still ?_
    refine O.pu (U.fieldA rfl rfl rfl (.tmp rfl)) ?_
    refine O.pu (U.load (.tmp rfl) rfl rfl (U.sub rfl (.take (.take .done)))) ?_
    obtain ⟨q2,Hq2,h⟩:=Option.bind_eq_some_iff.1 h
    refine O.pu (U.call (ss:=[]) (.cons (.tmp (v:=.agg _) rfl) .nil) (.cons (.cl (.aggL (.cons .fi (.cons .bool .nil)))) .nil) (whole_Int_Print.cs Hq2) (.inl rfl) (.str)) ?_
    refine O.pu (Pu.assign (.tmp (v:=.str _) rfl)) ?_
    refine O.nil ?_
    refine X.ret ?_
    cases h
    exact E.fin [] (.tmp (v:=.str _) rfl .nil) (.cons (.cl .str) .nil)
  · rw [if_neg (bf c)] at h
    refine X.skip ?_
    refine X.seq ?_
    refine X.drawn ?_
    refine D.pu (U.fieldA rfl rfl rfl (.tmp rfl)) ?_
    refine D.pu (U.load (.tmp rfl) rfl rfl (U.sub rfl (.take (.take .done)))) ?_
    obtain ⟨q3,Hq3,h⟩:=Option.bind_eq_some_iff.1 h
    refine D.pu (U.call (ss:=[]) (.cons (.tmp (v:=.agg _) rfl) .nil) (.cons (.cl (.aggL (.cons .fi (.cons .bool .nil)))) .nil) (whole_Int_Print.cs Hq3) (.inl rfl) (.str)) ?_
    repeat (rw [giff] at h;obtain ⟨_,h⟩:=h)
    refine D.pu (Pu.bin (.tmp rfl) .str (U.sadd (by first|assumption|omega))) ?_
    refine D.pu (U.load (.tmp rfl) rfl rfl (U.whole rfl rfl)) ?_
    obtain ⟨q4,Hq4,h⟩:=Option.bind_eq_some_iff.1 h
    refine D.pu (U.call (ss:=[]) (.cons (.tmp (v:=.agg _) rfl) .nil) (.cons (.cl (.aggL (.cons .fi (.cons .bool (.cons .fi .nil))))) .nil) (frac_Frac_Den.cs Hq4) (.inl rfl) (.aggL (.cons .fi .nil))) ?_
    obtain ⟨q5,Hq5,h⟩:=Option.bind_eq_some_iff.1 h
    refine D.pu (U.call (ss:=[]) (.cons (.tmp (v:=.agg _) rfl) .nil) (.cons (.cl (.aggL (.cons .fi .nil))) .nil) (digits_Print.cs Hq5) (.inl rfl) (.str)) ?_
    repeat (rw [giff] at h;obtain ⟨_,h⟩:=h)
    refine D.pu (Pu.bin (.tmp rfl) (.tmp rfl) (U.sadd (by first|assumption|omega))) ?_
    refine D.pu (Pu.assign (.tmp (v:=.str _) rfl)) ?_
    refine D.nil (by kernel_rfl) ?_
    refine X.ret ?_
    cases h
    exact E.fin [] (.tmp (v:=.str _) rfl .nil) (.cons (.cl .str) .nil)
noncomputable def c46:Code:=Try.f46.body.getD .skip
theorem fn46:FnOk Try.prog 46 Try.f46 c46:=⟨Try.func46,rfl,by kernel_rfl,by kernel_rfl,mixed⟩
theorem whole_Int_Mul.cs {k:Nat} {l0_0:List Int} {a0_1:Bool} {l1_0:List Int} {a1_1:Bool} {r:List Int×Bool} (h:whole_Int_Mul.f k l0_0 a0_1 l1_0 a1_1=some r):CS Try.prog 46 [.agg [.fi .u64 l0_0, .bool a0_1], .agg [.fi .u64 l1_0, .bool a1_1]] .no [.agg [.fi .u64 r.1, .bool r.2]]:=by
  unfold whole_Int_Mul.f at h
  refine E.pure fn46 rfl ?_
  refine X.seq ?_
  refine X.still ?_
  refine O.puE (v':=.op 2 (1) 0 0) (b':=⟨1, .own,_,_⟩) (Pu.box (.tmp (v:=.agg _) rfl) rfl rfl) rfl rfl ?_
  refine O.puE (v':=.op 3 (1) 0 0) (b':=⟨1, .own,_,_⟩) (Pu.box (.tmp (v:=.agg _) rfl) rfl rfl) rfl rfl ?_
  refine O.puE (v':=.op 4 (1) 0 0) (b':=⟨1, .own,(.vals [.agg [.fi .u64 [], .bool false]]),_⟩) Pu.alloc rfl rfl ?_
  refine O.nil ?_
  refine X.seq ?_
  refine X.drawn ?_
  refine D.pu (U.fieldA rfl rfl rfl (.tmp rfl)) ?_
  refine D.pu (U.load (.tmp rfl) rfl rfl (U.sub rfl (.take .done))) ?_
  refine D.pu (U.fieldA rfl rfl rfl (.tmp rfl)) ?_
  refine D.pu (U.load (.tmp rfl) rfl rfl (U.sub rfl (.take .done))) ?_
  obtain ⟨q1,Hq1,h⟩:=Option.bind_eq_some_iff.1 h
  refine D.pu (U.call (ss:=[]) (.cons (.tmp (v:=.agg _) rfl) (.cons (.tmp (v:=.agg _) rfl) .nil)) (.cons (.cl (.aggL (.cons .fi .nil))) (.cons (.cl (.aggL (.cons .fi .nil))) .nil)) (nat_Nat_Mul.cs Hq1) (.inl rfl) (.aggL (.cons .fi .nil))) ?_
  refine D.pu (U.fieldA rfl rfl rfl (.tmp rfl)) ?_
  refine D.pu (U.load (.tmp rfl) rfl rfl (U.cell rfl rfl rfl)) ?_
  refine D.pu (U.fieldA rfl rfl rfl (.tmp rfl)) ?_
  refine D.pu (U.load (.tmp rfl) rfl rfl (U.cell rfl rfl rfl)) ?_
  refine D.pu (Pu.bin (.tmp rfl) (.tmp rfl) (U.bneq rfl)) ?_
  obtain ⟨q2,Hq2,h⟩:=Option.bind_eq_some_iff.1 h
  refine D.pu (U.call (ss:=[]) (.cons (.tmp (v:=.agg _) rfl) (.cons (.tmp (v:=.bool _) rfl) .nil)) (.cons (.cl (.aggL (.cons .fi .nil))) (.cons (.cl .bool) .nil)) (whole_Of.cs Hq2) (.inl rfl) (.aggL (.cons .fi (.cons .bool .nil)))) ?_
  refine D.ef0 (C.storeE (.tmp rfl) rfl rfl (.tmp (v:=.agg _) rfl) rfl rfl (.whole (notBad_ne rfl) rfl) .one) ?_
  refine D.nil (by kernel_rfl) ?_
  refine X.ret ?_
  cases h
  exact E.fin [] (.cell rfl rfl (Mode.live_ne rfl) (U.whole rfl rfl) .nil) (.cons (.cl (.aggL (.cons .fi (.cons .bool .nil)))) .nil)
noncomputable def c52:Code:=Try.f52.body.getD .skip
theorem fn52:FnOk Try.prog 52 Try.f52 c52:=⟨Try.func52,rfl,by kernel_rfl,by kernel_rfl,mixed⟩
theorem frac_Frac_den.cs {k:Nat} {l0_0:List Int} {a0_1:Bool} {l0_2:List Int} {r:List Int×Bool} (h:frac_Frac_den.f k l0_0 a0_1 l0_2=some r):CS Try.prog 52 [.agg [.fi .u64 l0_0, .bool a0_1, .fi .u64 l0_2]] .no [.agg [.fi .u64 r.1, .bool r.2]]:=by
  unfold frac_Frac_den.f at h
  refine E.pure fn52 rfl ?_
  refine X.seq ?_
  refine X.still ?_
  refine O.puE (v':=.op 1 (1) 0 0) (b':=⟨1, .own,_,_⟩) (Pu.box (.tmp (v:=.agg _) rfl) rfl rfl) rfl rfl ?_
  refine O.puE (v':=.op 2 (1) 0 0) (b':=⟨1, .own,(.vals [.agg [.fi .u64 [], .bool false]]),_⟩) Pu.alloc rfl rfl ?_
  refine O.nil ?_
  refine X.seq ?_
  refine X.still ?_
  refine O.pu (U.load (.tmp rfl) rfl rfl (U.whole rfl rfl)) ?_
  obtain ⟨q1,Hq1,h⟩:=Option.bind_eq_some_iff.1 h
  refine O.pu (U.call (ss:=[]) (.cons (.tmp (v:=.agg _) rfl) .nil) (.cons (.cl (.aggL (.cons .fi (.cons .bool (.cons .fi .nil))))) .nil) (frac_Frac_Den.cs Hq1) (.inl rfl) (.aggL (.cons .fi .nil))) ?_
  obtain ⟨q2,Hq2,h⟩:=Option.bind_eq_some_iff.1 h
  refine O.pu (U.call (ss:=[]) (.cons (.tmp (v:=.agg _) rfl) (.cons .bool .nil)) (.cons (.cl (.aggL (.cons .fi .nil))) (.cons (.cl .bool) .nil)) (whole_Of.cs Hq2) (.inl rfl) (.aggL (.cons .fi (.cons .bool .nil)))) ?_
  refine O.ef0 (U.storeE (.tmp rfl) rfl rfl (.tmp (v:=.agg _) rfl) rfl rfl (.whole (notBad_ne rfl) rfl) .one) ?_
  refine O.nil ?_
  refine X.ret ?_
  cases h
  exact E.fin [] (.cell rfl rfl (Mode.live_ne rfl) (U.whole rfl rfl) .nil) (.cons (.cl (.aggL (.cons .fi (.cons .bool .nil)))) .nil)
noncomputable def c43:Code:=Try.f43.body.getD .skip
theorem fn43:FnOk Try.prog 43 Try.f43 c43:=⟨Try.func43,rfl,by kernel_rfl,by kernel_rfl,mixed⟩
theorem frac_Frac_Quo.cs {k:Nat} {l0_0:List Int} {a0_1:Bool} {l0_2:List Int} {l1_0:List Int} {a1_1:Bool} {l1_2:List Int} {r:List Int×Bool×List Int×Int} (h:frac_Frac_Quo.f k l0_0 a0_1 l0_2 l1_0 a1_1 l1_2=some r):CS Try.prog 43 [.agg [.fi .u64 l0_0, .bool a0_1, .fi .u64 l0_2], .agg [.fi .u64 l1_0, .bool a1_1, .fi .u64 l1_2]] .no [.agg [.fi .u64 r.1, .bool r.2.1, .fi .u64 r.2.2.1], .int .i64 r.2.2.2]:=by
  unfold frac_Frac_Quo.f at h
  refine E.pure fn43 rfl ?_
  refine X.seq ?_
  refine X.still ?_
  refine O.puE (v':=.op 2 (1) 0 0) (b':=⟨1, .own,_,_⟩) (Pu.box (.tmp (v:=.agg _) rfl) rfl rfl) rfl rfl ?_
  refine O.puE (v':=.op 3 (1) 0 0) (b':=⟨1, .own,_,_⟩) (Pu.box (.tmp (v:=.agg _) rfl) rfl rfl) rfl rfl ?_
  refine O.puE (v':=.op 4 (1) 0 0) (b':=⟨1, .own,(.vals [.agg [.fi .u64 [], .bool false, .fi .u64 []]]),_⟩) Pu.alloc rfl rfl ?_
  refine O.pu (Pu.assign .int) ?_
  refine O.nil ?_
  refine X.seq ?_
  refine X.drawn ?_
  refine D.pu (U.fieldA rfl rfl rfl (.tmp rfl)) ?_
  refine D.pu (U.load (.tmp rfl) rfl rfl (U.sub rfl (.take (.take .done)))) ?_
  refine D.pu (U.load (.tmp rfl) rfl rfl (U.whole rfl rfl)) ?_
  obtain ⟨q1,Hq1,h⟩:=Option.bind_eq_some_iff.1 h
  refine D.pu (U.call (ss:=[]) (.cons (.tmp (v:=.agg _) rfl) .nil) (.cons (.cl (.aggL (.cons .fi (.cons .bool (.cons .fi .nil))))) .nil) (frac_Frac_den.cs Hq1) (.inl rfl) (.aggL (.cons .fi (.cons .bool .nil)))) ?_
  obtain ⟨q2,Hq2,h⟩:=Option.bind_eq_some_iff.1 h
  refine D.pu (U.call (ss:=[]) (.cons (.tmp (v:=.agg _) rfl) (.cons (.tmp (v:=.agg _) rfl) .nil)) (.cons (.cl (.aggL (.cons .fi (.cons .bool .nil)))) (.cons (.cl (.aggL (.cons .fi (.cons .bool .nil)))) .nil)) (whole_Int_Mul.cs Hq2) (.inl rfl) (.aggL (.cons .fi (.cons .bool .nil)))) ?_
  refine D.pu (U.load (.tmp rfl) rfl rfl (U.whole rfl rfl)) ?_
  obtain ⟨q3,Hq3,h⟩:=Option.bind_eq_some_iff.1 h
  refine D.pu (U.call (ss:=[]) (.cons (.tmp (v:=.agg _) rfl) .nil) (.cons (.cl (.aggL (.cons .fi (.cons .bool (.cons .fi .nil))))) .nil) (frac_Frac_den.cs Hq3) (.inl rfl) (.aggL (.cons .fi (.cons .bool .nil)))) ?_
  refine D.pu (U.fieldA rfl rfl rfl (.tmp rfl)) ?_
  refine D.pu (U.load (.tmp rfl) rfl rfl (U.sub rfl (.take (.take .done)))) ?_
  obtain ⟨q4,Hq4,h⟩:=Option.bind_eq_some_iff.1 h
  refine D.pu (U.call (ss:=[]) (.cons (.tmp (v:=.agg _) rfl) (.cons (.tmp (v:=.agg _) rfl) .nil)) (.cons (.cl (.aggL (.cons .fi (.cons .bool .nil)))) (.cons (.cl (.aggL (.cons .fi (.cons .bool .nil)))) .nil)) (whole_Int_Mul.cs Hq4) (.inl rfl) (.aggL (.cons .fi (.cons .bool .nil)))) ?_
  obtain ⟨q5,Hq5,h⟩:=Option.bind_eq_some_iff.1 h
  refine D.pu (U.call (ss:=[]) (.cons (.tmp (v:=.agg _) rfl) (.cons (.tmp (v:=.agg _) rfl) .nil)) (.cons (.cl (.aggL (.cons .fi (.cons .bool .nil)))) (.cons (.cl (.aggL (.cons .fi (.cons .bool .nil)))) .nil)) (frac_Of.cs Hq5) (.inl rfl) (.tupL (.cons (.aggL (.cons .fi (.cons .bool (.cons .fi .nil)))) (.cons .int .nil)))) ?_
  refine D.pu (Pu.extract (.tmp rfl) rfl) ?_
  refine D.pu (Pu.extract (.tmp rfl) rfl) ?_
  refine D.ef0 (C.storeE (.tmp rfl) rfl rfl (.tmp (v:=.agg _) rfl) rfl rfl (.whole (notBad_ne rfl) rfl) .one) ?_
  refine D.pu (Pu.assign (.tmp (v:=.int _ _) rfl)) ?_
  refine D.nil (by kernel_rfl) ?_
  refine X.ret ?_
  cases h
  exact E.fin [] (.cell rfl rfl (Mode.live_ne rfl) (U.whole rfl rfl) (.tmp (v:=.int _ _) rfl .nil)) (.cons (.cl (.aggL (.cons .fi (.cons .bool (.cons .fi .nil))))) (.cons (.cl .int) .nil))
noncomputable def c44:Code:=Try.f44.body.getD .skip
theorem fn44:FnOk Try.prog 44 Try.f44 c44:=⟨Try.func44,rfl,by kernel_rfl,by kernel_rfl,mixed⟩
theorem frac_From.cs {l0_0:List Int} {a0_1:Bool} {r:List Int×Bool×List Int} (h:frac_From.f l0_0 a0_1=some r):CS Try.prog 44 [.agg [.fi .u64 l0_0, .bool a0_1]] .no [.agg [.fi .u64 r.1, .bool r.2.1, .fi .u64 r.2.2]]:=by
  unfold frac_From.f at h
  refine E.pure fn44 rfl ?_
  refine X.seq ?_
  refine X.still ?_
  refine O.puE (v':=.op 1 (1) 0 0) (b':=⟨1, .own,_,_⟩) (Pu.box (.tmp (v:=.agg _) rfl) rfl rfl) rfl rfl ?_
  refine O.puE (v':=.op 2 (1) 0 0) (b':=⟨1, .own,(.vals [.agg [.fi .u64 [], .bool false, .fi .u64 []]]),_⟩) Pu.alloc rfl rfl ?_
  refine O.nil ?_
  refine X.seq ?_
  refine X.still ?_
  refine O.pu (U.load (.tmp rfl) rfl rfl (U.whole rfl rfl)) ?_
  refine O.pu (Pu.build rfl (.cons (.tmp (v:=.agg _) rfl) rfl rfl rfl (.put (.put .done)) .nil)) ?_
  refine O.ef0 (U.storeE (.tmp rfl) rfl rfl (.tmp (v:=.agg _) rfl) rfl rfl (.whole (notBad_ne rfl) rfl) .one) ?_
  refine O.nil ?_
  refine X.ret ?_
  cases h
  exact E.fin [] (.cell rfl rfl (Mode.live_ne rfl) (U.whole rfl rfl) .nil) (.cons (.cl (.aggL (.cons .fi (.cons .bool (.cons .fi .nil))))) .nil)
noncomputable def c47:Code:=Try.f47.body.getD .skip
theorem fn47:FnOk Try.prog 47 Try.f47 c47:=⟨Try.func47,rfl,by kernel_rfl,by kernel_rfl,mixed⟩
theorem power_plain.cs {l0_0:List Int} {r:List Int×Bool} (h:power_plain.f l0_0=some r):CS Try.prog 47 [.agg [.fi .u64 l0_0]] .no [.agg [.fi .u64 r.1, .bool r.2]]:=by
  unfold power_plain.f at h
  refine E.pure fn47 rfl ?_
  refine X.seq ?_
  refine X.still ?_
  refine O.puE (v':=.op 1 (1) 0 0) (b':=⟨1, .own,_,_⟩) (Pu.box (.tmp (v:=.agg _) rfl) rfl rfl) rfl rfl ?_
  refine O.puE (v':=.op 2 (1) 0 0) (b':=⟨1, .own,(.vals [.agg [.fi .u64 [], .bool false]]),_⟩) Pu.alloc rfl rfl ?_
  refine O.nil ?_
  refine X.seq ?_
  refine X.still ?_
  refine O.pu (U.load (.tmp rfl) rfl rfl (U.whole rfl rfl)) ?_
  obtain ⟨q1,Hq1,h⟩:=Option.bind_eq_some_iff.1 h
  refine O.pu (U.call (ss:=[]) (.cons (.tmp (v:=.agg _) rfl) (.cons .bool .nil)) (.cons (.cl (.aggL (.cons .fi .nil))) (.cons (.cl .bool) .nil)) (whole_Of.cs Hq1) (.inl rfl) (.aggL (.cons .fi (.cons .bool .nil)))) ?_
  refine O.ef0 (U.storeE (.tmp rfl) rfl rfl (.tmp (v:=.agg _) rfl) rfl rfl (.whole (notBad_ne rfl) rfl) .one) ?_
  refine O.nil ?_
  refine X.ret ?_
  cases h
  exact E.fin [] (.cell rfl rfl (Mode.live_ne rfl) (U.whole rfl rfl) .nil) (.cons (.cl (.aggL (.cons .fi (.cons .bool .nil)))) .nil)
theorem power_Level.j0_e {k y0 y1 y2 y3 y4 y5 y6 y7 r}:(power_Level.j0 k y0 y1 y2 y3 y4 y5 y6 y7=some r) = ∃ j,k=j + 1∧power_Level.j0 (j + 1) y0 y1 y2 y3 y4 y5 y6 y7=some r:=propext ⟨fun h=>by cases k with|zero=>(unfold power_Level.j0 at h;cases h)|succ k=>exact ⟨k,rfl,h⟩,fun ⟨j,hj,h⟩=>by subst hj;exact h⟩
theorem power_Level.j1_e {k y0 y1 y2 y3 y4 y5 y6 y7 y8 y9 r}:(power_Level.j1 k y0 y1 y2 y3 y4 y5 y6 y7 y8 y9=some r) = ∃ j,k=j + 1∧power_Level.j1 (j + 1) y0 y1 y2 y3 y4 y5 y6 y7 y8 y9=some r:=propext ⟨fun h=>by cases k with|zero=>(unfold power_Level.j1 at h;cases h)|succ k=>exact ⟨k,rfl,h⟩,fun ⟨j,hj,h⟩=>by subst hj;exact h⟩
noncomputable def c19:Code:=Try.f19.body.getD .skip
theorem fn19:FnOk Try.prog 19 Try.f19 c19:=⟨Try.func19,rfl,by kernel_rfl,by kernel_rfl,mixed⟩
theorem power_Level.cs {k:Nat} {l0_0:List Int} {a0_1:Bool} {l0_2:List Int} {l1_0:List Int} {a1_1:Bool} {l1_2:List Int} {a2:Int} {r:List Int×Bool×List Int×Int} (h:power_Level.f k l0_0 a0_1 l0_2 l1_0 a1_1 l1_2 a2=some r):CS Try.prog 19 [.agg [.fi .u64 l0_0, .bool a0_1, .fi .u64 l0_2], .agg [.fi .u64 l1_0, .bool a1_1, .fi .u64 l1_2], .int .i64 a2] .no [.agg [.fi .u64 r.1, .bool r.2.1, .fi .u64 r.2.2.1], .int .i64 r.2.2.2]:=by
  unfold power_Level.f at h
  refine E.pure fn19 rfl ?_
  refine X.seq ?_
  refine X.still ?_
  refine O.puE (v':=.op 3 (1) 0 0) (b':=⟨1, .own,_,_⟩) (Pu.box (.tmp (v:=.agg _) rfl) rfl rfl) rfl rfl ?_
  refine O.puE (v':=.op 4 (1) 0 0) (b':=⟨1, .own,_,_⟩) (Pu.box (.tmp (v:=.agg _) rfl) rfl rfl) rfl rfl ?_
  refine O.puE (v':=.op 6 (1) 0 0) (b':=⟨1, .own,(.vals [.agg [.fi .u64 [], .bool false, .fi .u64 []]]),_⟩) Pu.alloc rfl rfl ?_
  refine O.pu (Pu.assign .int) ?_
  refine O.nil ?_
  refine X.seq ?_
  refine X.block ?_
  refine X.seq ?_
  refine X.still ?_
  refine O.pu (Pu.move (.tmp (v:=.int _ _) rfl)) ?_
  refine O.pu (Pu.bin (.tmp rfl) .int .lss) ?_
  refine O.pu (Pu.move (.tmp (v:=.bool _) rfl)) ?_
  refine O.splitP (fun c=>?_) (fun c=>?_)
  · rw [if_pos c] at h
    refine G.skip (W.f rfl rfl rfl) ?_
    refine G.skip (W.f rfl rfl rfl) ?_
    refine O.pu (Pu.pickT (.tmp rfl) .bool) ?_
    refine O.pu (Pu.assign (.tmp (v:=.bool _) rfl)) ?_
    refine O.nil ?_
    repeat (rw [power_Level.j0_e] at h;obtain ⟨k,_,h⟩:=h;unfold power_Level.j0 at h;try dsimp only at h)
    rw [if_pos rfl] at h
    refine X.condT (.tmp rfl) ?_
    refine X.seq ?_
    refine X.still ?_
    refine O.pu (Pu.build rfl .nil) ?_
    refine O.ef0 (U.storeE (.tmp rfl) rfl rfl (.tmp (v:=.agg _) rfl) rfl rfl (.whole (notBad_ne rfl) rfl) .one) ?_
    refine O.pu (Pu.assign .int) ?_
    refine O.nil ?_
    refine X.ret ?_
    cases h
    exact E.fin [] (.cell rfl rfl (Mode.live_ne rfl) (U.whole rfl rfl) (.tmp (v:=.int _ _) rfl .nil)) (.cons (.cl (.aggL (.cons .fi (.cons .bool (.cons .fi .nil))))) (.cons (.cl .int) .nil))
  · rw [if_neg c] at h
    refine G.pu (W.t rfl rfl) (Pu.move (.tmp (v:=.int _ _) rfl)) ?_
    refine G.pu (W.t rfl rfl) (Pu.bin (.tmp rfl) .int .gtr) ?_
    refine O.pu (Pu.pickF (.tmp rfl) (.tmp (v:=.bool _) rfl)) ?_
    refine O.pu (Pu.assign (.tmp (v:=.bool _) rfl)) ?_
    refine O.nil ?_
    repeat (rw [power_Level.j0_e] at h;obtain ⟨k,_,h⟩:=h;unfold power_Level.j0 at h;try dsimp only at h)
    refine X.condP (.tmp rfl) (fun c=>?_) (fun c=>?_)
    · rw [if_pos (decide_eq_true c)] at h
      refine X.seq ?_
      refine X.still ?_
      refine O.pu (Pu.build rfl .nil) ?_
      refine O.ef0 (U.storeE (.tmp rfl) rfl rfl (.tmp (v:=.agg _) rfl) rfl rfl (.whole (notBad_ne rfl) rfl) .one) ?_
      refine O.pu (Pu.assign .int) ?_
      refine O.nil ?_
      refine X.ret ?_
      cases h
      exact E.fin [] (.cell rfl rfl (Mode.live_ne rfl) (U.whole rfl rfl) (.tmp (v:=.int _ _) rfl .nil)) (.cons (.cl (.aggL (.cons .fi (.cons .bool (.cons .fi .nil))))) (.cons (.cl .int) .nil))
    · rw [if_neg (nd c)] at h
      refine X.seq ?_
      refine X.still ?_
      refine O.pu (U.load (.tmp rfl) rfl rfl (U.whole rfl rfl)) ?_
      obtain ⟨q1,Hq1,h⟩:=Option.bind_eq_some_iff.1 h
      refine O.pu (U.call (ss:=[]) (.cons (.tmp (v:=.agg _) rfl) .nil) (.cons (.cl (.aggL (.cons .fi (.cons .bool (.cons .fi .nil))))) .nil) (frac_Frac_Sign.cs Hq1) (.inl rfl) (.int)) ?_
      refine O.pu (Pu.bin (.tmp rfl) .int .lss) ?_
      refine O.pu (Pu.assign (.tmp (v:=.bool _) rfl)) ?_
      refine O.nil ?_
      refine X.condP (.tmp rfl) (fun c=>?_) (fun c=>?_)
      · rw [if_pos c] at h
        refine X.seq ?_
        refine X.still ?_
        refine O.pu (Pu.build rfl .nil) ?_
        refine O.ef0 (U.storeE (.tmp rfl) rfl rfl (.tmp (v:=.agg _) rfl) rfl rfl (.whole (notBad_ne rfl) rfl) .one) ?_
        refine O.pu (Pu.assign .int) ?_
        refine O.nil ?_
        refine X.ret ?_
        cases h
        exact E.fin [] (.cell rfl rfl (Mode.live_ne rfl) (U.whole rfl rfl) (.tmp (v:=.int _ _) rfl .nil)) (.cons (.cl (.aggL (.cons .fi (.cons .bool (.cons .fi .nil))))) (.cons (.cl .int) .nil))
      · rw [if_neg c] at h
        refine X.seq ?_
        refine X.still ?_
        refine O.pu (U.load (.tmp rfl) rfl rfl (U.whole rfl rfl)) ?_
        obtain ⟨q2,Hq2,h⟩:=Option.bind_eq_some_iff.1 h
        refine O.pu (U.call (ss:=[]) (.cons (.tmp (v:=.agg _) rfl) .nil) (.cons (.cl (.aggL (.cons .fi (.cons .bool (.cons .fi .nil))))) .nil) (frac_Frac_Sign.cs Hq2) (.inl rfl) (.int)) ?_
        refine O.pu (Pu.bin (.tmp rfl) .int .eql) ?_
        refine O.pu (Pu.assign (.tmp (v:=.bool _) rfl)) ?_
        refine O.nil ?_
        refine X.condE (.tmp rfl) (fun c=>?_) (fun c=>?_)
        · rw [if_pos c] at h
          refine X.seq ?_
          refine X.drawn ?_
          refine D.pu (U.load (.tmp rfl) rfl rfl (U.whole rfl rfl)) ?_
          refine D.pu (Pu.move (.tmp (v:=.int _ _) rfl)) ?_
          obtain ⟨q3,Hq3,h⟩:=Option.bind_eq_some_iff.1 h
          refine D.pu (U.call (ss:=[]) (.cons (.tmp (v:=.int _ _) rfl) .nil) (.cons (.cl .int) .nil) (whole_From.cs Hq3) (.inl rfl) (.aggL (.cons .fi (.cons .bool .nil)))) ?_
          obtain ⟨q4,Hq4,h⟩:=Option.bind_eq_some_iff.1 h
          refine D.pu (U.call (ss:=[]) (.cons (.tmp (v:=.agg _) rfl) .nil) (.cons (.cl (.aggL (.cons .fi (.cons .bool .nil)))) .nil) (frac_From.cs Hq4) (.inl rfl) (.aggL (.cons .fi (.cons .bool (.cons .fi .nil))))) ?_
          obtain ⟨q5,Hq5,h⟩:=Option.bind_eq_some_iff.1 h
          refine D.pu (U.call (ss:=[]) (.cons (.tmp (v:=.agg _) rfl) (.cons (.tmp (v:=.agg _) rfl) .nil)) (.cons (.cl (.aggL (.cons .fi (.cons .bool (.cons .fi .nil))))) (.cons (.cl (.aggL (.cons .fi (.cons .bool (.cons .fi .nil))))) .nil)) (frac_Frac_Quo.cs Hq5) (.inl rfl) (.tupL (.cons (.aggL (.cons .fi (.cons .bool (.cons .fi .nil)))) (.cons .int .nil)))) ?_
          refine D.pu (Pu.extract (.tmp rfl) rfl) ?_
          refine D.pu (Pu.extract (.tmp rfl) rfl) ?_
          refine D.ef0 (C.storeE (.tmp rfl) rfl rfl (.tmp (v:=.agg _) rfl) rfl rfl (.whole (notBad_ne rfl) rfl) .one) ?_
          refine D.pu (Pu.assign (.tmp (v:=.int _ _) rfl)) ?_
          refine D.nil (by kernel_rfl) ?_
          refine X.ret ?_
          cases h
          exact E.fin [] (.cell rfl rfl (Mode.live_ne rfl) (U.whole rfl rfl) (.tmp (v:=.int _ _) rfl .nil)) (.cons (.cl (.aggL (.cons .fi (.cons .bool (.cons .fi .nil))))) (.cons (.cl .int) .nil))
        · rw [if_neg c] at h
          refine X.skip ?_
          refine X.seq ?_
          refine X.still ?_
          refine O.pu (U.load (.tmp rfl) rfl rfl (U.whole rfl rfl)) ?_
          obtain ⟨q6,Hq6,h⟩:=Option.bind_eq_some_iff.1 h
          refine O.pu (U.call (ss:=[]) (.cons (.tmp (v:=.agg _) rfl) .nil) (.cons (.cl (.aggL (.cons .fi (.cons .bool (.cons .fi .nil))))) .nil) (frac_Frac_Den.cs Hq6) (.inl rfl) (.aggL (.cons .fi .nil))) ?_
          refine O.puE (v':=.op 8 (1) 0 0) (b':=⟨1, .own,(.vals [.agg [.fi .u64 []]]),_⟩) Pu.alloc rfl rfl ?_
          refine O.ef0 (U.storeE (.tmp rfl) rfl rfl (.tmp (v:=.agg _) rfl) rfl rfl (.whole (notBad_ne rfl) rfl) .one) ?_
          refine O.nil ?_
          refine X.seq ?_
          refine X.drawn ?_
          refine D.pu (U.load (.tmp rfl) rfl rfl (U.whole rfl rfl)) ?_
          obtain ⟨q7,Hq7,h⟩:=Option.bind_eq_some_iff.1 h
          refine D.pu (U.call (ss:=[]) (.cons (.tmp (v:=.agg _) rfl) .nil) (.cons (.cl (.aggL (.cons .fi (.cons .bool (.cons .fi .nil))))) .nil) (frac_Frac_Num.cs Hq7) (.inl rfl) (.aggL (.cons .fi (.cons .bool .nil)))) ?_
          obtain ⟨q8,Hq8,h⟩:=Option.bind_eq_some_iff.1 h
          refine D.pu (U.call (ss:=[]) (.cons (.tmp (v:=.agg _) rfl) .nil) (.cons (.cl (.aggL (.cons .fi (.cons .bool .nil)))) .nil) (whole_Int_Abs.cs Hq8) (.inl rfl) (.aggL (.cons .fi .nil))) ?_
          refine D.pu (U.load (.tmp rfl) rfl rfl (U.whole rfl rfl)) ?_
          obtain ⟨q9,Hq9,h⟩:=Option.bind_eq_some_iff.1 h
          refine D.pu (U.call (ss:=[]) (.cons (.tmp (v:=.agg _) rfl) (.cons (.tmp (v:=.agg _) rfl) .nil)) (.cons (.cl (.aggL (.cons .fi .nil))) (.cons (.cl (.aggL (.cons .fi .nil))) .nil)) (nat_Nat_Add.cs Hq9) (.inl rfl) (.aggL (.cons .fi .nil))) ?_
          refine D.puE (v':=.op 9 (1) 0 0) (b':=⟨1, .own,(.vals [.agg [.fi .u64 []]]),_⟩) Pu.alloc rfl rfl ?_
          refine D.ef0 (C.storeE (.tmp rfl) rfl rfl (.tmp (v:=.agg _) rfl) rfl rfl (.whole (notBad_ne rfl) rfl) .one) ?_
          refine D.nil (by kernel_rfl) ?_
          refine X.seq ?_
          refine X.still ?_
          refine O.pu (U.load (.tmp rfl) rfl rfl (U.whole rfl rfl)) ?_
          refine O.pu (Pu.move (.tmp (v:=.int _ _) rfl)) ?_
          obtain ⟨q10,Hq10,h⟩:=Option.bind_eq_some_iff.1 h
          refine O.pu (U.call (ss:=[]) (.cons (.tmp (v:=.agg _) rfl) (.cons (.tmp (v:=.int _ _) rfl) .nil)) (.cons (.cl (.aggL (.cons .fi .nil))) (.cons (.cl .int) .nil)) (digits_Pow.cs Hq10) (.inl rfl) (.tupL (.cons (.aggL (.cons .fi .nil)) (.cons .int .nil)))) ?_
          refine O.pu (Pu.move (.tmp (v:=.tup _) rfl)) ?_
          refine O.pu (Pu.extract (.tmp rfl) rfl) ?_
          refine O.pu (Pu.extract (.tmp rfl) rfl) ?_
          refine O.puE (v':=.op 10 (1) 0 0) (b':=⟨1, .own,(.vals [.agg [.fi .u64 []]]),_⟩) Pu.alloc rfl rfl ?_
          refine O.ef0 (U.storeE (.tmp rfl) rfl rfl (.tmp (v:=.agg _) rfl) rfl rfl (.whole (notBad_ne rfl) rfl) .one) ?_
          refine O.pu (Pu.assign (.tmp (v:=.int _ _) rfl)) ?_
          refine O.nil ?_
          refine X.seq ?_
          refine X.still ?_
          refine O.pu (U.load (.tmp rfl) rfl rfl (U.whole rfl rfl)) ?_
          refine O.pu (Pu.move (.tmp (v:=.int _ _) rfl)) ?_
          obtain ⟨q11,Hq11,h⟩:=Option.bind_eq_some_iff.1 h
          refine O.pu (U.call (ss:=[]) (.cons (.tmp (v:=.agg _) rfl) (.cons (.tmp (v:=.int _ _) rfl) .nil)) (.cons (.cl (.aggL (.cons .fi .nil))) (.cons (.cl .int) .nil)) (digits_Pow.cs Hq11) (.inl rfl) (.tupL (.cons (.aggL (.cons .fi .nil)) (.cons .int .nil)))) ?_
          refine O.pu (Pu.move (.tmp (v:=.tup _) rfl)) ?_
          refine O.pu (Pu.extract (.tmp rfl) rfl) ?_
          refine O.pu (Pu.extract (.tmp rfl) rfl) ?_
          refine O.puE (v':=.op 12 (1) 0 0) (b':=⟨1, .own,(.vals [.agg [.fi .u64 []]]),_⟩) Pu.alloc rfl rfl ?_
          refine O.ef0 (U.storeE (.tmp rfl) rfl rfl (.tmp (v:=.agg _) rfl) rfl rfl (.whole (notBad_ne rfl) rfl) .one) ?_
          refine O.pu (Pu.assign (.tmp (v:=.int _ _) rfl)) ?_
          refine O.nil ?_
          refine X.seq ?_
          refine X.seq ?_
          refine X.still ?_
          refine O.pu (Pu.move (.tmp (v:=.int _ _) rfl)) ?_
          refine O.pu (Pu.bin (.tmp rfl) .int .neq) ?_
          refine O.pu (Pu.move (.tmp (v:=.bool _) rfl)) ?_
          refine O.splitN (fun c=>?_) (fun c=>?_)
          · rw [if_neg c] at h
            refine G.skip (W.f rfl rfl rfl) ?_
            refine G.skip (W.f rfl rfl rfl) ?_
            refine O.pu (Pu.pickT (.tmp rfl) .bool) ?_
            refine O.nil ?_
            repeat (rw [power_Level.j1_e] at h;obtain ⟨k,_,h⟩:=h;unfold power_Level.j1 at h;try dsimp only at h)
            rw [if_pos rfl] at h
            refine X.condT (.tmp rfl) ?_
            refine X.seq ?_
            refine X.still ?_
            refine O.pu (Pu.build rfl .nil) ?_
            refine O.ef0 (U.storeE (.tmp rfl) rfl rfl (.tmp (v:=.agg _) rfl) rfl rfl (.whole (notBad_ne rfl) rfl) .one) ?_
            refine O.pu (Pu.assign .int) ?_
            refine O.nil ?_
            refine X.ret ?_
            cases h
            exact E.fin [] (.cell rfl rfl (Mode.live_ne rfl) (U.whole rfl rfl) (.tmp (v:=.int _ _) rfl .nil)) (.cons (.cl (.aggL (.cons .fi (.cons .bool (.cons .fi .nil))))) (.cons (.cl .int) .nil))
          · rw [if_pos c] at h
            refine G.pu (W.t rfl rfl) (Pu.move (.tmp (v:=.int _ _) rfl)) ?_
            refine G.pu (W.t rfl rfl) (Pu.bin (.tmp rfl) .int .neq) ?_
            refine O.pu (Pu.pickF (.tmp rfl) (.tmp (v:=.bool _) rfl)) ?_
            refine O.nil ?_
            repeat (rw [power_Level.j1_e] at h;obtain ⟨k,_,h⟩:=h;unfold power_Level.j1 at h;try dsimp only at h)
            refine X.condN (.tmp rfl) (fun c=>?_) (fun c=>?_)
            · rw [if_pos (ne1 c)] at h
              refine X.seq ?_
              refine X.still ?_
              refine O.pu (Pu.build rfl .nil) ?_
              refine O.ef0 (U.storeE (.tmp rfl) rfl rfl (.tmp (v:=.agg _) rfl) rfl rfl (.whole (notBad_ne rfl) rfl) .one) ?_
              refine O.pu (Pu.assign .int) ?_
              refine O.nil ?_
              refine X.ret ?_
              cases h
              exact E.fin [] (.cell rfl rfl (Mode.live_ne rfl) (U.whole rfl rfl) (.tmp (v:=.int _ _) rfl .nil)) (.cons (.cl (.aggL (.cons .fi (.cons .bool (.cons .fi .nil))))) (.cons (.cl .int) .nil))
            · rw [if_neg (ne0 c)] at h
              refine X.skip ?_
              refine X.seq ?_
              refine X.still ?_
              refine O.pu (U.load (.tmp rfl) rfl rfl (U.whole rfl rfl)) ?_
              refine O.pu (U.load (.tmp rfl) rfl rfl (U.whole rfl rfl)) ?_
              obtain ⟨q12,Hq12,h⟩:=Option.bind_eq_some_iff.1 h
              refine O.pu (U.call (ss:=[]) (.cons (.tmp (v:=.agg _) rfl) (.cons (.tmp (v:=.agg _) rfl) .nil)) (.cons (.cl (.aggL (.cons .fi .nil))) (.cons (.cl (.aggL (.cons .fi .nil))) .nil)) (nat_Nat_Sub.cs Hq12) (.inl rfl) (.tupL (.cons (.aggL (.cons .fi .nil)) (.cons .bool .nil)))) ?_
              refine O.pu (Pu.move (.tmp (v:=.tup _) rfl)) ?_
              refine O.pu (Pu.extract (.tmp rfl) rfl) ?_
              refine O.pu (Pu.extract (.tmp rfl) rfl) ?_
              refine O.puE (v':=.op 14 (1) 0 0) (b':=⟨1, .own,(.vals [.agg [.fi .u64 []]]),_⟩) Pu.alloc rfl rfl ?_
              refine O.ef0 (U.storeE (.tmp rfl) rfl rfl (.tmp (v:=.agg _) rfl) rfl rfl (.whole (notBad_ne rfl) rfl) .one) ?_
              refine O.pu (Pu.assign (.tmp (v:=.bool _) rfl)) ?_
              refine O.nil ?_
              refine X.seq ?_
              refine X.drawn ?_
              refine D.pu (U.load (.tmp rfl) rfl rfl (U.whole rfl rfl)) ?_
              obtain ⟨q13,Hq13,h⟩:=Option.bind_eq_some_iff.1 h
              refine D.pu (U.call (ss:=[]) (.cons (.tmp (v:=.agg _) rfl) .nil) (.cons (.cl (.aggL (.cons .fi (.cons .bool (.cons .fi .nil))))) .nil) (frac_Frac_Num.cs Hq13) (.inl rfl) (.aggL (.cons .fi (.cons .bool .nil)))) ?_
              refine D.pu (U.load (.tmp rfl) rfl rfl (U.whole rfl rfl)) ?_
              obtain ⟨q14,Hq14,h⟩:=Option.bind_eq_some_iff.1 h
              refine D.pu (U.call (ss:=[]) (.cons (.tmp (v:=.agg _) rfl) .nil) (.cons (.cl (.aggL (.cons .fi (.cons .bool (.cons .fi .nil))))) .nil) (frac_Frac_Num.cs Hq14) (.inl rfl) (.aggL (.cons .fi (.cons .bool .nil)))) ?_
              obtain ⟨q15,Hq15,h⟩:=Option.bind_eq_some_iff.1 h
              refine D.pu (U.call (ss:=[]) (.cons (.tmp (v:=.agg _) rfl) (.cons (.tmp (v:=.agg _) rfl) .nil)) (.cons (.cl (.aggL (.cons .fi (.cons .bool .nil)))) (.cons (.cl (.aggL (.cons .fi (.cons .bool .nil)))) .nil)) (whole_Int_Mul.cs Hq15) (.inl rfl) (.aggL (.cons .fi (.cons .bool .nil)))) ?_
              refine D.pu (U.load (.tmp rfl) rfl rfl (U.whole rfl rfl)) ?_
              obtain ⟨q16,Hq16,h⟩:=Option.bind_eq_some_iff.1 h
              refine D.pu (U.call (ss:=[]) (.cons (.tmp (v:=.agg _) rfl) .nil) (.cons (.cl (.aggL (.cons .fi .nil))) .nil) (power_plain.cs Hq16) (.inl rfl) (.aggL (.cons .fi (.cons .bool .nil)))) ?_
              obtain ⟨q17,Hq17,h⟩:=Option.bind_eq_some_iff.1 h
              refine D.pu (U.call (ss:=[]) (.cons (.tmp (v:=.agg _) rfl) (.cons (.tmp (v:=.agg _) rfl) .nil)) (.cons (.cl (.aggL (.cons .fi (.cons .bool .nil)))) (.cons (.cl (.aggL (.cons .fi (.cons .bool .nil)))) .nil)) (whole_Int_Mul.cs Hq17) (.inl rfl) (.aggL (.cons .fi (.cons .bool .nil)))) ?_
              refine D.puE (v':=.op 16 (1) 0 0) (b':=⟨1, .own,(.vals [.agg [.fi .u64 [], .bool false]]),_⟩) Pu.alloc rfl rfl ?_
              refine D.ef0 (C.storeE (.tmp rfl) rfl rfl (.tmp (v:=.agg _) rfl) rfl rfl (.whole (notBad_ne rfl) rfl) .one) ?_
              refine D.nil (by kernel_rfl) ?_
              refine X.seq ?_
              refine X.drawn ?_
              refine D.pu (U.load (.tmp rfl) rfl rfl (U.whole rfl rfl)) ?_
              refine D.pu (U.load (.tmp rfl) rfl rfl (U.whole rfl rfl)) ?_
              obtain ⟨q18,Hq18,h⟩:=Option.bind_eq_some_iff.1 h
              refine D.pu (U.call (ss:=[]) (.cons (.tmp (v:=.agg _) rfl) .nil) (.cons (.cl (.aggL (.cons .fi (.cons .bool (.cons .fi .nil))))) .nil) (frac_Frac_Den.cs Hq18) (.inl rfl) (.aggL (.cons .fi .nil))) ?_
              refine D.pu (U.load (.tmp rfl) rfl rfl (U.whole rfl rfl)) ?_
              obtain ⟨q19,Hq19,h⟩:=Option.bind_eq_some_iff.1 h
              refine D.pu (U.call (ss:=[]) (.cons (.tmp (v:=.agg _) rfl) (.cons (.tmp (v:=.agg _) rfl) .nil)) (.cons (.cl (.aggL (.cons .fi .nil))) (.cons (.cl (.aggL (.cons .fi .nil))) .nil)) (nat_Nat_Mul.cs Hq19) (.inl rfl) (.aggL (.cons .fi .nil))) ?_
              refine D.pu (U.load (.tmp rfl) rfl rfl (U.whole rfl rfl)) ?_
              obtain ⟨q20,Hq20,h⟩:=Option.bind_eq_some_iff.1 h
              refine D.pu (U.call (ss:=[]) (.cons (.tmp (v:=.agg _) rfl) (.cons (.tmp (v:=.agg _) rfl) .nil)) (.cons (.cl (.aggL (.cons .fi .nil))) (.cons (.cl (.aggL (.cons .fi .nil))) .nil)) (nat_Nat_Mul.cs Hq20) (.inl rfl) (.aggL (.cons .fi .nil))) ?_
              obtain ⟨q21,Hq21,h⟩:=Option.bind_eq_some_iff.1 h
              refine D.pu (U.call (ss:=[]) (.cons (.tmp (v:=.agg _) rfl) .nil) (.cons (.cl (.aggL (.cons .fi .nil))) .nil) (power_plain.cs Hq21) (.inl rfl) (.aggL (.cons .fi (.cons .bool .nil)))) ?_
              obtain ⟨q22,Hq22,h⟩:=Option.bind_eq_some_iff.1 h
              refine D.pu (U.call (ss:=[]) (.cons (.tmp (v:=.agg _) rfl) (.cons (.tmp (v:=.agg _) rfl) .nil)) (.cons (.cl (.aggL (.cons .fi (.cons .bool .nil)))) (.cons (.cl (.aggL (.cons .fi (.cons .bool .nil)))) .nil)) (frac_Of.cs Hq22) (.inl rfl) (.tupL (.cons (.aggL (.cons .fi (.cons .bool (.cons .fi .nil)))) (.cons .int .nil)))) ?_
              refine D.pu (Pu.extract (.tmp rfl) rfl) ?_
              refine D.pu (Pu.extract (.tmp rfl) rfl) ?_
              refine D.ef0 (C.storeE (.tmp rfl) rfl rfl (.tmp (v:=.agg _) rfl) rfl rfl (.whole (notBad_ne rfl) rfl) .one) ?_
              refine D.pu (Pu.assign (.tmp (v:=.int _ _) rfl)) ?_
              refine D.nil (by kernel_rfl) ?_
              refine X.ret ?_
              cases h
              exact E.fin [] (.cell rfl rfl (Mode.live_ne rfl) (U.whole rfl rfl) (.tmp (v:=.int _ _) rfl .nil)) (.cons (.cl (.aggL (.cons .fi (.cons .bool (.cons .fi .nil))))) (.cons (.cl .int) .nil))
noncomputable def c24:Code:=Try.f24.body.getD .skip
theorem fn24:FnOk Try.prog 24 Try.f24 c24:=⟨Try.func24,rfl,by kernel_rfl,by kernel_rfl,mixed⟩
theorem frac_Frac_Mul.cs {k:Nat} {l0_0:List Int} {a0_1:Bool} {l0_2:List Int} {l1_0:List Int} {a1_1:Bool} {l1_2:List Int} {r:List Int×Bool×List Int} (h:frac_Frac_Mul.f k l0_0 a0_1 l0_2 l1_0 a1_1 l1_2=some r):CS Try.prog 24 [.agg [.fi .u64 l0_0, .bool a0_1, .fi .u64 l0_2], .agg [.fi .u64 l1_0, .bool a1_1, .fi .u64 l1_2]] .no [.agg [.fi .u64 r.1, .bool r.2.1, .fi .u64 r.2.2]]:=by
  unfold frac_Frac_Mul.f at h
  refine E.pure fn24 rfl ?_
  refine X.seq ?_
  refine X.still ?_
  refine O.puE (v':=.op 2 (1) 0 0) (b':=⟨1, .own,_,_⟩) (Pu.box (.tmp (v:=.agg _) rfl) rfl rfl) rfl rfl ?_
  refine O.puE (v':=.op 3 (1) 0 0) (b':=⟨1, .own,_,_⟩) (Pu.box (.tmp (v:=.agg _) rfl) rfl rfl) rfl rfl ?_
  refine O.puE (v':=.op 4 (1) 0 0) (b':=⟨1, .own,(.vals [.agg [.fi .u64 [], .bool false, .fi .u64 []]]),_⟩) Pu.alloc rfl rfl ?_
  refine O.nil ?_
  refine X.seq ?_
  refine X.drawn ?_
  refine D.pu (U.fieldA rfl rfl rfl (.tmp rfl)) ?_
  refine D.pu (U.load (.tmp rfl) rfl rfl (U.sub rfl (.take (.take .done)))) ?_
  refine D.pu (U.fieldA rfl rfl rfl (.tmp rfl)) ?_
  refine D.pu (U.load (.tmp rfl) rfl rfl (U.sub rfl (.take (.take .done)))) ?_
  obtain ⟨q1,Hq1,h⟩:=Option.bind_eq_some_iff.1 h
  refine D.pu (U.call (ss:=[]) (.cons (.tmp (v:=.agg _) rfl) (.cons (.tmp (v:=.agg _) rfl) .nil)) (.cons (.cl (.aggL (.cons .fi (.cons .bool .nil)))) (.cons (.cl (.aggL (.cons .fi (.cons .bool .nil)))) .nil)) (whole_Int_Mul.cs Hq1) (.inl rfl) (.aggL (.cons .fi (.cons .bool .nil)))) ?_
  refine D.pu (U.load (.tmp rfl) rfl rfl (U.whole rfl rfl)) ?_
  obtain ⟨q2,Hq2,h⟩:=Option.bind_eq_some_iff.1 h
  refine D.pu (U.call (ss:=[]) (.cons (.tmp (v:=.agg _) rfl) .nil) (.cons (.cl (.aggL (.cons .fi (.cons .bool (.cons .fi .nil))))) .nil) (frac_Frac_Den.cs Hq2) (.inl rfl) (.aggL (.cons .fi .nil))) ?_
  refine D.pu (U.load (.tmp rfl) rfl rfl (U.whole rfl rfl)) ?_
  obtain ⟨q3,Hq3,h⟩:=Option.bind_eq_some_iff.1 h
  refine D.pu (U.call (ss:=[]) (.cons (.tmp (v:=.agg _) rfl) .nil) (.cons (.cl (.aggL (.cons .fi (.cons .bool (.cons .fi .nil))))) .nil) (frac_Frac_Den.cs Hq3) (.inl rfl) (.aggL (.cons .fi .nil))) ?_
  obtain ⟨q4,Hq4,h⟩:=Option.bind_eq_some_iff.1 h
  refine D.pu (U.call (ss:=[]) (.cons (.tmp (v:=.agg _) rfl) (.cons (.tmp (v:=.agg _) rfl) .nil)) (.cons (.cl (.aggL (.cons .fi .nil))) (.cons (.cl (.aggL (.cons .fi .nil))) .nil)) (nat_Nat_Mul.cs Hq4) (.inl rfl) (.aggL (.cons .fi .nil))) ?_
  obtain ⟨q5,Hq5,h⟩:=Option.bind_eq_some_iff.1 h
  refine D.pu (U.call (ss:=[]) (.cons (.tmp (v:=.agg _) rfl) (.cons (.tmp (v:=.agg _) rfl) .nil)) (.cons (.cl (.aggL (.cons .fi (.cons .bool .nil)))) (.cons (.cl (.aggL (.cons .fi .nil))) .nil)) (frac_made.cs Hq5) (.inl rfl) (.aggL (.cons .fi (.cons .bool (.cons .fi .nil))))) ?_
  refine D.ef0 (C.storeE (.tmp rfl) rfl rfl (.tmp (v:=.agg _) rfl) rfl rfl (.whole (notBad_ne rfl) rfl) .one) ?_
  refine D.nil (by kernel_rfl) ?_
  refine X.ret ?_
  cases h
  exact E.fin [] (.cell rfl rfl (Mode.live_ne rfl) (U.whole rfl rfl) .nil) (.cons (.cl (.aggL (.cons .fi (.cons .bool (.cons .fi .nil))))) .nil)
noncomputable def c56:Code:=Try.f56.body.getD .skip
theorem fn56:FnOk Try.prog 56 Try.f56 c56:=⟨Try.func56,rfl,by kernel_rfl,by kernel_rfl,mixed⟩
theorem whole_Int_Add.cs {k:Nat} {l0_0:List Int} {a0_1:Bool} {l1_0:List Int} {a1_1:Bool} {r:List Int×Bool} (h:whole_Int_Add.f k l0_0 a0_1 l1_0 a1_1=some r):CS Try.prog 56 [.agg [.fi .u64 l0_0, .bool a0_1], .agg [.fi .u64 l1_0, .bool a1_1]] .no [.agg [.fi .u64 r.1, .bool r.2]]:=by
  unfold whole_Int_Add.f at h
  refine E.pure fn56 rfl ?_
  refine X.seq ?_
  refine X.still ?_
  refine O.puE (v':=.op 2 (1) 0 0) (b':=⟨1, .own,_,_⟩) (Pu.box (.tmp (v:=.agg _) rfl) rfl rfl) rfl rfl ?_
  refine O.puE (v':=.op 3 (1) 0 0) (b':=⟨1, .own,_,_⟩) (Pu.box (.tmp (v:=.agg _) rfl) rfl rfl) rfl rfl ?_
  refine O.puE (v':=.op 4 (1) 0 0) (b':=⟨1, .own,(.vals [.agg [.fi .u64 [], .bool false]]),_⟩) Pu.alloc rfl rfl ?_
  refine O.nil ?_
  refine X.seq ?_
  refine X.seq ?_
  refine X.still ?_
  refine O.pu (U.fieldA rfl rfl rfl (.tmp rfl)) ?_
  refine O.pu (U.load (.tmp rfl) rfl rfl (U.cell rfl rfl rfl)) ?_
  refine O.pu (U.fieldA rfl rfl rfl (.tmp rfl)) ?_
  refine O.pu (U.load (.tmp rfl) rfl rfl (U.cell rfl rfl rfl)) ?_
  refine O.pu (Pu.bin (.tmp rfl) (.tmp rfl) (.beql rfl)) ?_
  refine O.nil ?_
  refine X.cond (.tmp rfl) (fun c=>?_) (fun c=>?_)
  · rw [if_pos c] at h
    refine X.seq ?_
    refine X.drawn ?_
    refine D.pu (U.fieldA rfl rfl rfl (.tmp rfl)) ?_
    refine D.pu (U.load (.tmp rfl) rfl rfl (U.sub rfl (.take .done))) ?_
    refine D.pu (U.fieldA rfl rfl rfl (.tmp rfl)) ?_
    refine D.pu (U.load (.tmp rfl) rfl rfl (U.sub rfl (.take .done))) ?_
    obtain ⟨q1,Hq1,h⟩:=Option.bind_eq_some_iff.1 h
    refine D.pu (U.call (ss:=[]) (.cons (.tmp (v:=.agg _) rfl) (.cons (.tmp (v:=.agg _) rfl) .nil)) (.cons (.cl (.aggL (.cons .fi .nil))) (.cons (.cl (.aggL (.cons .fi .nil))) .nil)) (nat_Nat_Add.cs Hq1) (.inl rfl) (.aggL (.cons .fi .nil))) ?_
    refine D.pu (U.fieldA rfl rfl rfl (.tmp rfl)) ?_
    refine D.pu (U.load (.tmp rfl) rfl rfl (U.cell rfl rfl rfl)) ?_
    obtain ⟨q2,Hq2,h⟩:=Option.bind_eq_some_iff.1 h
    refine D.pu (U.call (ss:=[]) (.cons (.tmp (v:=.agg _) rfl) (.cons (.tmp (v:=.bool _) rfl) .nil)) (.cons (.cl (.aggL (.cons .fi .nil))) (.cons (.cl .bool) .nil)) (whole_Of.cs Hq2) (.inl rfl) (.aggL (.cons .fi (.cons .bool .nil)))) ?_
    refine D.ef0 (C.storeE (.tmp rfl) rfl rfl (.tmp (v:=.agg _) rfl) rfl rfl (.whole (notBad_ne rfl) rfl) .one) ?_
    refine D.nil (by kernel_rfl) ?_
    refine X.ret ?_
    cases h
    exact E.fin [] (.cell rfl rfl (Mode.live_ne rfl) (U.whole rfl rfl) .nil) (.cons (.cl (.aggL (.cons .fi (.cons .bool .nil)))) .nil)
  · rw [if_neg (bf c)] at h
    refine X.skip ?_
    refine X.seq ?_
    refine X.seq ?_
    refine X.still ?_
    refine O.pu (U.fieldA rfl rfl rfl (.tmp rfl)) ?_
    refine O.pu (U.load (.tmp rfl) rfl rfl (U.sub rfl (.take .done))) ?_
    refine O.pu (U.fieldA rfl rfl rfl (.tmp rfl)) ?_
    refine O.pu (U.load (.tmp rfl) rfl rfl (U.sub rfl (.take .done))) ?_
    obtain ⟨q3,Hq3,h⟩:=Option.bind_eq_some_iff.1 h
    refine O.pu (U.call (ss:=[]) (.cons (.tmp (v:=.agg _) rfl) (.cons (.tmp (v:=.agg _) rfl) .nil)) (.cons (.cl (.aggL (.cons .fi .nil))) (.cons (.cl (.aggL (.cons .fi .nil))) .nil)) (nat_Nat_Sub.cs Hq3) (.inl rfl) (.tupL (.cons (.aggL (.cons .fi .nil)) (.cons .bool .nil)))) ?_
    refine O.pu (Pu.move (.tmp (v:=.tup _) rfl)) ?_
    refine O.pu (Pu.extract (.tmp rfl) rfl) ?_
    refine O.pu (Pu.extract (.tmp rfl) rfl) ?_
    refine O.puE (v':=.op 5 (1) 0 0) (b':=⟨1, .own,(.vals [.agg [.fi .u64 []]]),_⟩) Pu.alloc rfl rfl ?_
    refine O.ef0 (U.storeE (.tmp rfl) rfl rfl (.tmp (v:=.agg _) rfl) rfl rfl (.whole (notBad_ne rfl) rfl) .one) ?_
    refine O.pu (Pu.assign (.tmp (v:=.bool _) rfl)) ?_
    refine O.nil ?_
    refine X.seq ?_
    refine X.still ?_
    refine O.pu (Pu.move (.tmp (v:=.bool _) rfl)) ?_
    refine O.nil ?_
    refine X.cond (.tmp rfl) (fun c=>?_) (fun c=>?_)
    · rw [if_pos c] at h
      refine X.seq ?_
      refine X.still ?_
      refine O.pu (U.load (.tmp rfl) rfl rfl (U.whole rfl rfl)) ?_
      refine O.pu (U.fieldA rfl rfl rfl (.tmp rfl)) ?_
      refine O.pu (U.load (.tmp rfl) rfl rfl (U.cell rfl rfl rfl)) ?_
      obtain ⟨q4,Hq4,h⟩:=Option.bind_eq_some_iff.1 h
      refine O.pu (U.call (ss:=[]) (.cons (.tmp (v:=.agg _) rfl) (.cons (.tmp (v:=.bool _) rfl) .nil)) (.cons (.cl (.aggL (.cons .fi .nil))) (.cons (.cl .bool) .nil)) (whole_Of.cs Hq4) (.inl rfl) (.aggL (.cons .fi (.cons .bool .nil)))) ?_
      refine O.ef0 (U.storeE (.tmp rfl) rfl rfl (.tmp (v:=.agg _) rfl) rfl rfl (.whole (notBad_ne rfl) rfl) .one) ?_
      refine O.nil ?_
      refine X.ret ?_
      cases h
      exact E.fin [] (.cell rfl rfl (Mode.live_ne rfl) (U.whole rfl rfl) .nil) (.cons (.cl (.aggL (.cons .fi (.cons .bool .nil)))) .nil)
    · rw [if_neg (bf c)] at h
      refine X.skip ?_
      refine X.seq ?_
      refine X.still ?_
      refine O.pu (U.fieldA rfl rfl rfl (.tmp rfl)) ?_
      refine O.pu (U.load (.tmp rfl) rfl rfl (U.sub rfl (.take .done))) ?_
      refine O.pu (U.fieldA rfl rfl rfl (.tmp rfl)) ?_
      refine O.pu (U.load (.tmp rfl) rfl rfl (U.sub rfl (.take .done))) ?_
      obtain ⟨q5,Hq5,h⟩:=Option.bind_eq_some_iff.1 h
      refine O.pu (U.call (ss:=[]) (.cons (.tmp (v:=.agg _) rfl) (.cons (.tmp (v:=.agg _) rfl) .nil)) (.cons (.cl (.aggL (.cons .fi .nil))) (.cons (.cl (.aggL (.cons .fi .nil))) .nil)) (nat_Nat_Sub.cs Hq5) (.inl rfl) (.tupL (.cons (.aggL (.cons .fi .nil)) (.cons .bool .nil)))) ?_
      refine O.pu (Pu.move (.tmp (v:=.tup _) rfl)) ?_
      refine O.pu (Pu.extract (.tmp rfl) rfl) ?_
      refine O.pu (Pu.extract (.tmp rfl) rfl) ?_
      refine O.puE (v':=.op 7 (1) 0 0) (b':=⟨1, .own,(.vals [.agg [.fi .u64 []]]),_⟩) Pu.alloc rfl rfl ?_
      refine O.ef0 (U.storeE (.tmp rfl) rfl rfl (.tmp (v:=.agg _) rfl) rfl rfl (.whole (notBad_ne rfl) rfl) .one) ?_
      refine O.pu (Pu.assign (.tmp (v:=.bool _) rfl)) ?_
      refine O.nil ?_
      refine X.seq ?_
      refine X.still ?_
      refine O.pu (U.load (.tmp rfl) rfl rfl (U.whole rfl rfl)) ?_
      refine O.pu (U.fieldA rfl rfl rfl (.tmp rfl)) ?_
      refine O.pu (U.load (.tmp rfl) rfl rfl (U.cell rfl rfl rfl)) ?_
      obtain ⟨q6,Hq6,h⟩:=Option.bind_eq_some_iff.1 h
      refine O.pu (U.call (ss:=[]) (.cons (.tmp (v:=.agg _) rfl) (.cons (.tmp (v:=.bool _) rfl) .nil)) (.cons (.cl (.aggL (.cons .fi .nil))) (.cons (.cl .bool) .nil)) (whole_Of.cs Hq6) (.inl rfl) (.aggL (.cons .fi (.cons .bool .nil)))) ?_
      refine O.ef0 (U.storeE (.tmp rfl) rfl rfl (.tmp (v:=.agg _) rfl) rfl rfl (.whole (notBad_ne rfl) rfl) .one) ?_
      refine O.nil ?_
      refine X.ret ?_
      cases h
      exact E.fin [] (.cell rfl rfl (Mode.live_ne rfl) (U.whole rfl rfl) .nil) (.cons (.cl (.aggL (.cons .fi (.cons .bool .nil)))) .nil)
noncomputable def c26:Code:=Try.f26.body.getD .skip
theorem fn26:FnOk Try.prog 26 Try.f26 c26:=⟨Try.func26,rfl,by kernel_rfl,by kernel_rfl,mixed⟩
theorem frac_Frac_Add.cs {k:Nat} {l0_0:List Int} {a0_1:Bool} {l0_2:List Int} {l1_0:List Int} {a1_1:Bool} {l1_2:List Int} {r:List Int×Bool×List Int} (h:frac_Frac_Add.f k l0_0 a0_1 l0_2 l1_0 a1_1 l1_2=some r):CS Try.prog 26 [.agg [.fi .u64 l0_0, .bool a0_1, .fi .u64 l0_2], .agg [.fi .u64 l1_0, .bool a1_1, .fi .u64 l1_2]] .no [.agg [.fi .u64 r.1, .bool r.2.1, .fi .u64 r.2.2]]:=by
  unfold frac_Frac_Add.f at h
  refine E.pure fn26 rfl ?_
  refine X.seq ?_
  refine X.still ?_
  refine O.puE (v':=.op 2 (1) 0 0) (b':=⟨1, .own,_,_⟩) (Pu.box (.tmp (v:=.agg _) rfl) rfl rfl) rfl rfl ?_
  refine O.puE (v':=.op 3 (1) 0 0) (b':=⟨1, .own,_,_⟩) (Pu.box (.tmp (v:=.agg _) rfl) rfl rfl) rfl rfl ?_
  refine O.puE (v':=.op 4 (1) 0 0) (b':=⟨1, .own,(.vals [.agg [.fi .u64 [], .bool false, .fi .u64 []]]),_⟩) Pu.alloc rfl rfl ?_
  refine O.nil ?_
  refine X.seq ?_
  refine X.drawn ?_
  refine D.pu (U.fieldA rfl rfl rfl (.tmp rfl)) ?_
  refine D.pu (U.load (.tmp rfl) rfl rfl (U.sub rfl (.take (.take .done)))) ?_
  refine D.pu (U.load (.tmp rfl) rfl rfl (U.whole rfl rfl)) ?_
  obtain ⟨q1,Hq1,h⟩:=Option.bind_eq_some_iff.1 h
  refine D.pu (U.call (ss:=[]) (.cons (.tmp (v:=.agg _) rfl) .nil) (.cons (.cl (.aggL (.cons .fi (.cons .bool (.cons .fi .nil))))) .nil) (frac_Frac_den.cs Hq1) (.inl rfl) (.aggL (.cons .fi (.cons .bool .nil)))) ?_
  obtain ⟨q2,Hq2,h⟩:=Option.bind_eq_some_iff.1 h
  refine D.pu (U.call (ss:=[]) (.cons (.tmp (v:=.agg _) rfl) (.cons (.tmp (v:=.agg _) rfl) .nil)) (.cons (.cl (.aggL (.cons .fi (.cons .bool .nil)))) (.cons (.cl (.aggL (.cons .fi (.cons .bool .nil)))) .nil)) (whole_Int_Mul.cs Hq2) (.inl rfl) (.aggL (.cons .fi (.cons .bool .nil)))) ?_
  refine D.pu (U.fieldA rfl rfl rfl (.tmp rfl)) ?_
  refine D.pu (U.load (.tmp rfl) rfl rfl (U.sub rfl (.take (.take .done)))) ?_
  refine D.pu (U.load (.tmp rfl) rfl rfl (U.whole rfl rfl)) ?_
  obtain ⟨q3,Hq3,h⟩:=Option.bind_eq_some_iff.1 h
  refine D.pu (U.call (ss:=[]) (.cons (.tmp (v:=.agg _) rfl) .nil) (.cons (.cl (.aggL (.cons .fi (.cons .bool (.cons .fi .nil))))) .nil) (frac_Frac_den.cs Hq3) (.inl rfl) (.aggL (.cons .fi (.cons .bool .nil)))) ?_
  obtain ⟨q4,Hq4,h⟩:=Option.bind_eq_some_iff.1 h
  refine D.pu (U.call (ss:=[]) (.cons (.tmp (v:=.agg _) rfl) (.cons (.tmp (v:=.agg _) rfl) .nil)) (.cons (.cl (.aggL (.cons .fi (.cons .bool .nil)))) (.cons (.cl (.aggL (.cons .fi (.cons .bool .nil)))) .nil)) (whole_Int_Mul.cs Hq4) (.inl rfl) (.aggL (.cons .fi (.cons .bool .nil)))) ?_
  obtain ⟨q5,Hq5,h⟩:=Option.bind_eq_some_iff.1 h
  refine D.pu (U.call (ss:=[]) (.cons (.tmp (v:=.agg _) rfl) (.cons (.tmp (v:=.agg _) rfl) .nil)) (.cons (.cl (.aggL (.cons .fi (.cons .bool .nil)))) (.cons (.cl (.aggL (.cons .fi (.cons .bool .nil)))) .nil)) (whole_Int_Add.cs Hq5) (.inl rfl) (.aggL (.cons .fi (.cons .bool .nil)))) ?_
  refine D.pu (U.load (.tmp rfl) rfl rfl (U.whole rfl rfl)) ?_
  obtain ⟨q6,Hq6,h⟩:=Option.bind_eq_some_iff.1 h
  refine D.pu (U.call (ss:=[]) (.cons (.tmp (v:=.agg _) rfl) .nil) (.cons (.cl (.aggL (.cons .fi (.cons .bool (.cons .fi .nil))))) .nil) (frac_Frac_Den.cs Hq6) (.inl rfl) (.aggL (.cons .fi .nil))) ?_
  refine D.pu (U.load (.tmp rfl) rfl rfl (U.whole rfl rfl)) ?_
  obtain ⟨q7,Hq7,h⟩:=Option.bind_eq_some_iff.1 h
  refine D.pu (U.call (ss:=[]) (.cons (.tmp (v:=.agg _) rfl) .nil) (.cons (.cl (.aggL (.cons .fi (.cons .bool (.cons .fi .nil))))) .nil) (frac_Frac_Den.cs Hq7) (.inl rfl) (.aggL (.cons .fi .nil))) ?_
  obtain ⟨q8,Hq8,h⟩:=Option.bind_eq_some_iff.1 h
  refine D.pu (U.call (ss:=[]) (.cons (.tmp (v:=.agg _) rfl) (.cons (.tmp (v:=.agg _) rfl) .nil)) (.cons (.cl (.aggL (.cons .fi .nil))) (.cons (.cl (.aggL (.cons .fi .nil))) .nil)) (nat_Nat_Mul.cs Hq8) (.inl rfl) (.aggL (.cons .fi .nil))) ?_
  obtain ⟨q9,Hq9,h⟩:=Option.bind_eq_some_iff.1 h
  refine D.pu (U.call (ss:=[]) (.cons (.tmp (v:=.agg _) rfl) (.cons (.tmp (v:=.agg _) rfl) .nil)) (.cons (.cl (.aggL (.cons .fi (.cons .bool .nil)))) (.cons (.cl (.aggL (.cons .fi .nil))) .nil)) (frac_made.cs Hq9) (.inl rfl) (.aggL (.cons .fi (.cons .bool (.cons .fi .nil))))) ?_
  refine D.ef0 (C.storeE (.tmp rfl) rfl rfl (.tmp (v:=.agg _) rfl) rfl rfl (.whole (notBad_ne rfl) rfl) .one) ?_
  refine D.nil (by kernel_rfl) ?_
  refine X.ret ?_
  cases h
  exact E.fin [] (.cell rfl rfl (Mode.live_ne rfl) (U.whole rfl rfl) .nil) (.cons (.cl (.aggL (.cons .fi (.cons .bool (.cons .fi .nil))))) .nil)
end Go.Proofs.Ytiikhhemgplocaa
end

section
namespace Go.Proofs.Ytiikhhemgplocaa
open Go.AVL Go.RowKit Go.Proofs.Ytiikhhemgplocaa.F
def en28 (x:S28):AV:=.agg [.fi .u64 x.f0.f0.f0, .bool x.f0.f1, .fi .u64 x.f1.f0]
end Go.Proofs.Ytiikhhemgplocaa
end

section
namespace Go.Proofs.Ytiikhhemgplocaa
open Go.AVL Go.RowKit Go.Proofs.Ytiikhhemgplocaa.F Go.Proofs.YtiikhhemgplocaaX Go.Proofs.YtiikhhemgplocaaW.PrintWords Go.Proofs.YtiikhhemgplocaaW.PrintLast Go.Proofs.YtiikhhemgplocaaW.PrintMore
set_option linter.unusedVariables false
set_option linter.unusedSimpArgs false
set_option maxRecDepth 100000
set_option maxHeartbeats 16000000
noncomputable def c21:Code:=Try.f21.body.getD .skip
theorem fn21:FnOk Try.prog 21 Try.f21 c21:=⟨Try.func21,rfl,by kernel_rfl,by kernel_rfl,mixed⟩
theorem power_Poly.cs {k:Nat} {l0_0:List Int} {a0_1:Bool} {l0_2:List Int} {l1:List (S28)} {r:List Int×Bool×List Int} (h:power_Poly.f k l0_0 a0_1 l0_2 l1=some r):CS Try.prog 21 [.agg [.fi .u64 l0_0, .bool a0_1, .fi .u64 l0_2], .fv (List.map en28 l1)] .no [.agg [.fi .u64 r.1, .bool r.2.1, .fi .u64 r.2.2]]:=by
  unfold power_Poly.f at h
  refine E.pure fn21 rfl ?_
  refine X.seq ?_
  refine X.still ?_
  refine O.puE (v':=.op 2 (1) 0 0) (b':=⟨1, .own,_,_⟩) (Pu.box (.tmp (v:=.agg _) rfl) rfl rfl) rfl rfl ?_
  refine O.puE (v':=.op 4 (1) 0 0) (b':=⟨1, .own,(.vals [.agg [.fi .u64 [], .bool false, .fi .u64 []]]),_⟩) Pu.alloc rfl rfl ?_
  refine O.nil ?_
  refine X.seq ?_
  refine X.still ?_
  refine O.puE (v':=.op 5 (1) 0 0) (b':=⟨1, .own,(.vals [.agg [.fi .u64 [], .bool false, .fi .u64 []]]),_⟩) Pu.alloc rfl rfl ?_
  refine O.nil ?_
  refine X.seq ?_
  refine X.seq ?_
  refine X.still ?_
  refine O.pu (Pu.move (.tmp (v:=.fv _) rfl)) ?_
  refine O.pu (U.lenS rfl (.tmp rfl)) ?_
  refine O.pu (Pu.bin (.tmp rfl) .int U.sub64) ?_
  refine O.pu (Pu.assign (.tmp (v:=.int _ _) rfl)) ?_
  refine O.nil ?_
  refine X.block ?_
  refine X.inv (fun k s=>∃ x1 x6 x1064000 x1064001 x1064002 x1066000 x1066001 x1066002 u2 u4 u5,s.t 1 = .fv (List.map en28 x1)∧s.t 6 = .int .i64 x6∧s.t 2 = .op 2 u2 0 0∧s.b 2=⟨u2, .own, .vals [.agg [.fi .u64 x1064000, .bool x1064001, .fi .u64 x1064002]],28⟩∧s.t 4 = .op 4 u4 0 0∧s.b 4=⟨u4, .own, .vals [.agg [.fi .u64 [], .bool false, .fi .u64 []]],28⟩∧s.t 5 = .op 5 u5 0 0∧s.b 5=⟨u5, .own, .vals [.agg [.fi .u64 x1066000, .bool x1066001, .fi .u64 x1066002]],28⟩∧power_Poly.l0 k x1 x6 x1064000 x1064001 x1064002 x1066000 x1066001 x1066002=some r) ?_ ?_ ⟨_,_,_,_,_,_,_,_,_,_,_,rfl,rfl,rfl,rfl,rfl,rfl,rfl,rfl,h⟩
  · rintro s ⟨_,_,_,_,_,_,_,_,_,_,_,_,_,_,_,_,_,_,_,h⟩;unfold power_Poly.l0 at h;cases h
  · rintro k1 s1 ⟨x1,x6,x1064000,x1064001,x1064002,x1066000,x1066001,x1066002,u2,u4,u5,e0,e1,e2,e3,e4,e5,e6,e7,h⟩
    unfold power_Poly.l0 at h
    rw [St.fixT e0,St.fixT e1,St.fixT e2,St.fixB e3,St.fixT e4,St.fixB e5,St.fixT e6,St.fixB e7]
    refine X.seq ?_
    refine X.seq ?_
    refine X.still ?_
    refine O.pu (Pu.move (.tmp (v:=.int _ _) rfl)) ?_
    refine O.pu (Pu.bin (.tmp rfl) .int .geq) ?_
    refine O.nil ?_
    refine X.condP (.tmp rfl) (fun c=>?_) (fun c=>?_)
    · rw [if_pos c] at h
      refine X.skip ?_
      refine X.seq ?_
      refine X.block ?_
      refine X.drawn ?_
      refine D.pu (U.load (.tmp rfl) rfl rfl (U.whole rfl rfl)) ?_
      refine D.pu (U.load (.tmp rfl) rfl rfl (U.whole rfl rfl)) ?_
      obtain ⟨q1,Hq1,h⟩:=Option.bind_eq_some_iff.1 h
      refine D.pu (U.call (ss:=[]) (.cons (.tmp (v:=.agg _) rfl) (.cons (.tmp (v:=.agg _) rfl) .nil)) (.cons (.cl (.aggL (.cons .fi (.cons .bool (.cons .fi .nil))))) (.cons (.cl (.aggL (.cons .fi (.cons .bool (.cons .fi .nil))))) .nil)) (frac_Frac_Mul.cs Hq1) (.inl rfl) (.aggL (.cons .fi (.cons .bool (.cons .fi .nil))))) ?_
      refine D.pu (Pu.move (.tmp (v:=.fv _) rfl)) ?_
      refine D.pu (Pu.move (.tmp (v:=.int _ _) rfl)) ?_
      repeat (rw [giff] at h;obtain ⟨_,h⟩:=h)
      refine D.pu (U.rdVS z28 rfl (fun _=>⟨rfl,rfl⟩) (.tmp rfl) (.tmp rfl) (by omega) (by omega)) ?_
      refine D.pu (Pu.loadR (.tmp rfl) (U.whole rfl rfl)) ?_
      obtain ⟨q2,Hq2,h⟩:=Option.bind_eq_some_iff.1 h
      refine D.pu (U.call (ss:=[]) (.cons (.tmp (v:=.agg _) rfl) (.cons (.tmp (v:=.agg _) rfl) .nil)) (.cons (.cl (.aggL (.cons .fi (.cons .bool (.cons .fi .nil))))) (.cons (.cl (.aggL (.cons .fi (.cons .bool (.cons .fi .nil))))) .nil)) (frac_Frac_Add.cs Hq2) (.inl rfl) (.aggL (.cons .fi (.cons .bool (.cons .fi .nil))))) ?_
      refine D.ef0 (C.storeE (.tmp rfl) rfl rfl (.tmp (v:=.agg _) rfl) rfl rfl (.whole (notBad_ne rfl) rfl) .one) ?_
      refine D.nil (by kernel_rfl) ?_
      refine X.still ?_
      refine O.pu (Pu.move (.tmp (v:=.int _ _) rfl)) ?_
      refine O.pu (Pu.bin (.tmp rfl) .int U.sub64) ?_
      refine O.pu (Pu.assign (.tmp (v:=.int _ _) rfl)) ?_
      refine O.nil ?_
      exact ⟨_,(by omega),_,_,_,_,_,_,_,_,_,_,_,rfl,rfl,rfl,rfl,rfl,rfl,rfl,rfl,h⟩
    · rw [if_neg c] at h
      refine X.exit (B.out ?_)
      refine X.seq ?_
      refine X.still ?_
      refine O.pu (U.load (.tmp rfl) rfl rfl (U.whole rfl rfl)) ?_
      refine O.ef0 (U.storeE (.tmp rfl) rfl rfl (.tmp (v:=.agg _) rfl) rfl rfl (.whole (notBad_ne rfl) rfl) .one) ?_
      refine O.nil ?_
      refine X.ret ?_
      cases h
      exact E.fin [] (.cell rfl rfl (Mode.live_ne rfl) (U.whole rfl rfl) .nil) (.cons (.cl (.aggL (.cons .fi (.cons .bool (.cons .fi .nil))))) .nil)
noncomputable def c25:Code:=Try.f25.body.getD .skip
theorem fn25:FnOk Try.prog 25 Try.f25 c25:=⟨Try.func25,rfl,by kernel_rfl,by kernel_rfl,mixed⟩
theorem frac_Frac_Neg.cs {l0_0:List Int} {a0_1:Bool} {l0_2:List Int} {r:List Int×Bool×List Int} (h:frac_Frac_Neg.f l0_0 a0_1 l0_2=some r):CS Try.prog 25 [.agg [.fi .u64 l0_0, .bool a0_1, .fi .u64 l0_2]] .no [.agg [.fi .u64 r.1, .bool r.2.1, .fi .u64 r.2.2]]:=by
  unfold frac_Frac_Neg.f at h
  refine E.pure fn25 rfl ?_
  refine X.seq ?_
  refine X.still ?_
  refine O.puE (v':=.op 1 (1) 0 0) (b':=⟨1, .own,_,_⟩) (Pu.box (.tmp (v:=.agg _) rfl) rfl rfl) rfl rfl ?_
  refine O.puE (v':=.op 2 (1) 0 0) (b':=⟨1, .own,(.vals [.agg [.fi .u64 [], .bool false, .fi .u64 []]]),_⟩) Pu.alloc rfl rfl ?_
  refine O.nil ?_
  refine X.seq ?_
  refine X.drawn ?_
  refine D.pu (U.fieldA rfl rfl rfl (.tmp rfl)) ?_
  refine D.pu (U.load (.tmp rfl) rfl rfl (U.sub rfl (.take (.take .done)))) ?_
  obtain ⟨q1,Hq1,h⟩:=Option.bind_eq_some_iff.1 h
  refine D.pu (U.call (ss:=[]) (.cons (.tmp (v:=.agg _) rfl) .nil) (.cons (.cl (.aggL (.cons .fi (.cons .bool .nil)))) .nil) (whole_Int_Neg.cs Hq1) (.inl rfl) (.aggL (.cons .fi (.cons .bool .nil)))) ?_
  refine D.pu (U.fieldA rfl rfl rfl (.tmp rfl)) ?_
  refine D.pu (U.load (.tmp rfl) rfl rfl (U.sub rfl (.skip (.skip (.take .done))))) ?_
  refine D.pu (Pu.build rfl (.cons (.tmp (v:=.agg _) rfl) rfl rfl rfl (.put (.put .done)) (.cons (.tmp (v:=.agg _) rfl) rfl rfl rfl (.skip (.skip (.put .done))) .nil))) ?_
  refine D.ef0 (C.storeE (.tmp rfl) rfl rfl (.tmp (v:=.agg _) rfl) rfl rfl (.whole (notBad_ne rfl) rfl) .one) ?_
  refine D.nil (by kernel_rfl) ?_
  refine X.ret ?_
  cases h
  exact E.fin [] (.cell rfl rfl (Mode.live_ne rfl) (U.whole rfl rfl) .nil) (.cons (.cl (.aggL (.cons .fi (.cons .bool (.cons .fi .nil))))) .nil)
noncomputable def c18:Code:=Try.f18.body.getD .skip
theorem fn18:FnOk Try.prog 18 Try.f18 c18:=⟨Try.func18,rfl,by kernel_rfl,by kernel_rfl,mixed⟩
theorem chattellaw13_wakes.cs {k:Nat} {r:Bool} (h:chattellaw13_wakes.f k=some r):CS Try.prog 18 [] .no [.bool r]:=by
  unfold chattellaw13_wakes.f at h
  refine E.pure fn18 rfl ?_
  refine X.seq ?_
  refine X.still ?_
  refine O.pu (Pu.assign .bool) ?_
  refine O.nil ?_
  refine X.seq ?_
  refine X.still ?_
  obtain ⟨q1,Hq1,h⟩:=Option.bind_eq_some_iff.1 h
  refine O.pu (U.call (ss:=[]) (.cons .int (.cons .int .nil)) (.cons (.cl .int) (.cons (.cl .int) .nil)) (chattellaw13_of.cs Hq1) (.inl rfl) (.tupL (.cons (.aggL (.cons .fi (.cons .bool (.cons .fi .nil)))) (.cons (.aggL (.cons .fi (.cons .bool (.cons .fi .nil)))) .nil)))) ?_
  refine O.pu (Pu.move (.tmp (v:=.tup _) rfl)) ?_
  refine O.pu (Pu.extract (.tmp rfl) rfl) ?_
  refine O.pu (Pu.extract (.tmp rfl) rfl) ?_
  refine O.puE (v':=.op 1 (1) 0 0) (b':=⟨1, .own,(.vals [.agg [.fi .u64 [], .bool false, .fi .u64 []]]),_⟩) Pu.alloc rfl rfl ?_
  refine O.puE (v':=.op 2 (1) 0 0) (b':=⟨1, .own,(.vals [.agg [.fi .i64 [], .bool false, .fi .i64 []]]),_⟩) Pu.alloc rfl rfl ?_
  refine O.ef0 (U.storeE (.tmp rfl) rfl rfl (.tmp (v:=.agg _) rfl) rfl rfl (.whole (notBad_ne rfl) rfl) .one) ?_
  refine O.ef0 (U.storeE (.tmp rfl) rfl rfl (.tmp (v:=.agg _) rfl) rfl rfl (.whole (notBad_ne rfl) rfl) .one) ?_
  refine O.nil ?_
  refine X.seq ?_
  refine X.still ?_
  obtain ⟨q2,Hq2,h⟩:=Option.bind_eq_some_iff.1 h
  refine O.pu (U.call (ss:=[]) (.cons .int (.cons .int .nil)) (.cons (.cl .int) (.cons (.cl .int) .nil)) (chattellaw13_of.cs Hq2) (.inl rfl) (.tupL (.cons (.aggL (.cons .fi (.cons .bool (.cons .fi .nil)))) (.cons (.aggL (.cons .fi (.cons .bool (.cons .fi .nil)))) .nil)))) ?_
  refine O.pu (Pu.move (.tmp (v:=.tup _) rfl)) ?_
  refine O.pu (Pu.extract (.tmp rfl) rfl) ?_
  refine O.pu (Pu.extract (.tmp rfl) rfl) ?_
  refine O.puE (v':=.op 3 (1) 0 0) (b':=⟨1, .own,(.vals [.agg [.fi .u64 [], .bool false, .fi .u64 []]]),_⟩) Pu.alloc rfl rfl ?_
  refine O.puE (v':=.op 4 (1) 0 0) (b':=⟨1, .own,(.vals [.agg [.fi .i64 [], .bool false, .fi .i64 []]]),_⟩) Pu.alloc rfl rfl ?_
  refine O.ef0 (U.storeE (.tmp rfl) rfl rfl (.tmp (v:=.agg _) rfl) rfl rfl (.whole (notBad_ne rfl) rfl) .one) ?_
  refine O.ef0 (U.storeE (.tmp rfl) rfl rfl (.tmp (v:=.agg _) rfl) rfl rfl (.whole (notBad_ne rfl) rfl) .one) ?_
  refine O.nil ?_
  refine X.seq ?_
  refine X.still ?_
  refine O.pu (U.load (.tmp rfl) rfl rfl (U.whole rfl rfl)) ?_
  refine O.pu (U.load (.tmp rfl) rfl rfl (U.whole rfl rfl)) ?_
  obtain ⟨q3,Hq3,h⟩:=Option.bind_eq_some_iff.1 h
  refine O.pu (U.call (ss:=[]) (.cons (.tmp (v:=.agg _) rfl) (.cons (.tmp (v:=.agg _) rfl) (.cons .int .nil))) (.cons (.cl (.aggL (.cons .fi (.cons .bool (.cons .fi .nil))))) (.cons (.cl (.aggL (.cons .fi (.cons .bool (.cons .fi .nil))))) (.cons (.cl .int) .nil))) (power_Level.cs Hq3) (.inl rfl) (.tupL (.cons (.aggL (.cons .fi (.cons .bool (.cons .fi .nil)))) (.cons .int .nil)))) ?_
  refine O.pu (Pu.move (.tmp (v:=.tup _) rfl)) ?_
  refine O.pu (Pu.extract (.tmp rfl) rfl) ?_
  refine O.pu (Pu.extract (.tmp rfl) rfl) ?_
  refine O.puE (v':=.op 5 (1) 0 0) (b':=⟨1, .own,(.vals [.agg [.fi .u64 [], .bool false, .fi .u64 []]]),_⟩) Pu.alloc rfl rfl ?_
  refine O.ef0 (U.storeE (.tmp rfl) rfl rfl (.tmp (v:=.agg _) rfl) rfl rfl (.whole (notBad_ne rfl) rfl) .one) ?_
  refine O.pu (Pu.assign (.tmp (v:=.int _ _) rfl)) ?_
  refine O.nil ?_
  refine X.seq ?_
  refine X.still ?_
  refine O.pu (U.load (.tmp rfl) rfl rfl (U.whole rfl rfl)) ?_
  obtain ⟨q4,Hq4,h⟩:=Option.bind_eq_some_iff.1 h
  refine O.pu (U.call (ss:=[]) (.cons (.tmp (v:=.agg _) rfl) (.cons .int .nil)) (.cons (.cl (.aggL (.cons .fi (.cons .bool (.cons .fi .nil))))) (.cons (.cl .int) .nil)) (power_Pow.cs Hq4) (.inl rfl) (.tupL (.cons (.aggL (.cons .fi (.cons .bool (.cons .fi .nil)))) (.cons .int .nil)))) ?_
  refine O.pu (Pu.move (.tmp (v:=.tup _) rfl)) ?_
  refine O.pu (Pu.extract (.tmp rfl) rfl) ?_
  refine O.pu (Pu.extract (.tmp rfl) rfl) ?_
  refine O.puE (v':=.op 7 (1) 0 0) (b':=⟨1, .own,(.vals [.agg [.fi .u64 [], .bool false, .fi .u64 []]]),_⟩) Pu.alloc rfl rfl ?_
  refine O.ef0 (U.storeE (.tmp rfl) rfl rfl (.tmp (v:=.agg _) rfl) rfl rfl (.whole (notBad_ne rfl) rfl) .one) ?_
  refine O.pu (Pu.assign (.tmp (v:=.int _ _) rfl)) ?_
  refine O.nil ?_
  refine X.seq ?_
  refine X.drawn ?_
  refine D.pu (U.load (.tmp rfl) rfl rfl (U.whole rfl rfl)) ?_
  refine D.pu (U.load (.tmp rfl) rfl rfl (U.whole rfl rfl)) ?_
  obtain ⟨q5,Hq5,h⟩:=Option.bind_eq_some_iff.1 h
  refine D.pu (U.call (ss:=[]) (.cons (.tmp (v:=.agg _) rfl) .nil) (.cons (.cl (.aggL (.cons .fi (.cons .bool (.cons .fi .nil))))) .nil) (frac_Frac_Neg.cs Hq5) (.inl rfl) (.aggL (.cons .fi (.cons .bool (.cons .fi .nil))))) ?_
  obtain ⟨q6,Hq6,h⟩:=Option.bind_eq_some_iff.1 h
  refine D.pu (U.call (ss:=[]) (.cons (.tmp (v:=.agg _) rfl) (.cons (.tmp (v:=.agg _) rfl) (.cons .int .nil))) (.cons (.cl (.aggL (.cons .fi (.cons .bool (.cons .fi .nil))))) (.cons (.cl (.aggL (.cons .fi (.cons .bool (.cons .fi .nil))))) (.cons (.cl .int) .nil))) (power_Level.cs Hq6) (.inl rfl) (.tupL (.cons (.aggL (.cons .fi (.cons .bool (.cons .fi .nil)))) (.cons .int .nil)))) ?_
  refine D.pu (Pu.move (.tmp (v:=.tup _) rfl)) ?_
  refine D.pu (Pu.extract (.tmp rfl) rfl) ?_
  refine D.pu (Pu.extract (.tmp rfl) rfl) ?_
  refine D.puE (v':=.op 9 (1) 0 0) (b':=⟨1, .own,(.vals [.agg [.fi .u64 [], .bool false, .fi .u64 []]]),_⟩) Pu.alloc rfl rfl ?_
  refine D.ef0 (C.storeE (.tmp rfl) rfl rfl (.tmp (v:=.agg _) rfl) rfl rfl (.whole (notBad_ne rfl) rfl) .one) ?_
  refine D.pu (Pu.assign (.tmp (v:=.int _ _) rfl)) ?_
  refine D.nil (by kernel_rfl) ?_
  refine X.seq ?_
  refine X.still ?_
  refine O.pu (Pu.move (.tmp (v:=.int _ _) rfl)) ?_
  refine O.pu (Pu.bin (.tmp rfl) .int .eql) ?_
  refine O.pu (Pu.move (.tmp (v:=.bool _) rfl)) ?_
  refine O.splitE (fun c=>?_) (fun c=>?_)
  · rw [if_pos c] at h
    refine G.pu (W.t rfl rfl) (U.load (.tmp rfl) rfl rfl (U.whole rfl rfl)) ?_
    obtain ⟨q7,Hq7,h⟩:=Option.bind_eq_some_iff.1 h
    refine G.pu (W.t rfl rfl) (U.call (ss:=[]) (.cons (.tmp (v:=.agg _) rfl) .nil) (.cons (.cl (.aggL (.cons .fi (.cons .bool (.cons .fi .nil))))) .nil) (frac_Frac_Print.cs Hq7) (.inl rfl) (.str)) ?_
    refine G.pu (W.t rfl rfl) (Pu.bin (.tmp rfl) .str .seql) ?_
    refine O.pu (Pu.pickT (.tmp rfl) (.tmp (v:=.bool _) rfl)) ?_
    refine O.pu (Pu.move (.tmp (v:=.bool _) rfl)) ?_
    refine O.splitS (l:=[49,50,49,48,48,47,50,49]) (by kernel_rfl) (fun c=>?_) (fun c=>?_)
    · rw [if_pos c] at h
      refine G.pu (W.t rfl rfl) (Pu.move (.tmp (v:=.int _ _) rfl)) ?_
      refine G.pu (W.t rfl rfl) (Pu.bin (.tmp rfl) .int .eql) ?_
      refine O.pu (Pu.pickT (.tmp rfl) (.tmp (v:=.bool _) rfl)) ?_
      refine O.pu (Pu.move (.tmp (v:=.bool _) rfl)) ?_
      refine O.splitE (fun c=>?_) (fun c=>?_)
      · rw [if_pos c] at h
        refine G.pu (W.t rfl rfl) (U.load (.tmp rfl) rfl rfl (U.whole rfl rfl)) ?_
        obtain ⟨q8,Hq8,h⟩:=Option.bind_eq_some_iff.1 h
        refine G.pu (W.t rfl rfl) (U.call (ss:=[]) (.cons (.tmp (v:=.agg _) rfl) .nil) (.cons (.cl (.aggL (.cons .fi (.cons .bool (.cons .fi .nil))))) .nil) (frac_Frac_Print.cs Hq8) (.inl rfl) (.str)) ?_
        refine G.pu (W.t rfl rfl) (Pu.bin (.tmp rfl) .str .seql) ?_
        refine O.pu (Pu.pickT (.tmp rfl) (.tmp (v:=.bool _) rfl)) ?_
        refine O.pu (Pu.move (.tmp (v:=.bool _) rfl)) ?_
        refine O.splitS (l:=[49,47,49,48,48,48]) (by kernel_rfl) (fun c=>?_) (fun c=>?_)
        · rw [if_pos c] at h
          refine G.pu (W.t rfl rfl) (Pu.move (.tmp (v:=.int _ _) rfl)) ?_
          refine G.pu (W.t rfl rfl) (Pu.bin (.tmp rfl) .int .eql) ?_
          refine O.pu (Pu.pickT (.tmp rfl) (.tmp (v:=.bool _) rfl)) ?_
          refine O.pu (Pu.move (.tmp (v:=.bool _) rfl)) ?_
          refine O.splitE (fun c=>?_) (fun c=>?_)
          · rw [if_pos c] at h
            refine G.pu (W.t rfl rfl) (U.load (.tmp rfl) rfl rfl (U.whole rfl rfl)) ?_
            refine G.pu (W.t rfl rfl) (U.load (.tmp rfl) rfl rfl (U.whole rfl rfl)) ?_
            refine G.pu (W.t rfl rfl) (U.load (.tmp rfl) rfl rfl (U.whole rfl rfl)) ?_
            refine G.puE (v':=.os 61 (1) 0 _ true) (b':=⟨1, .own,_,_⟩) (W.t rfl rfl) (U.litS (en:=en28) (l:=[⟨⟨⟨_⟩,_⟩,⟨_⟩⟩,⟨⟨⟨_⟩,_⟩,⟨_⟩⟩]) rfl (.cons (.tmp (v:=.agg _) rfl) rfl (.cons (.tmp (v:=.agg _) rfl) rfl .nil)) rfl rfl rfl (fun _=>rfl)) rfl rfl ?_
            obtain ⟨q9,Hq9,h⟩:=Option.bind_eq_some_iff.1 h
            refine G.ef (W.t rfl rfl) (U.callZ (ss:=[61]) (.cons (.tmp (v:=.agg _) rfl) (.cons (.tmp (v:=.os _ _ _ _ _) rfl) .nil)) (.cons (.cl (.aggL (.cons .fi (.cons .bool (.cons .fi .nil))))) (.cons (.osVf (by simp) rfl (Mode.live_ne rfl) rfl (ClL.map fun _=>.aggL (.cons .fi (.cons .bool (.cons .fi .nil)))) (by first|rfl|(simp only [List.length_map,List.length_append,List.length_cons,List.length_nil] at *;done)|(simp only [List.length_map,List.length_append,List.length_cons,List.length_nil] at *;omega))) .nil)) (power_Poly.cs Hq9) (.aggL (.cons .fi (.cons .bool (.cons .fi .nil)))) (nowin rfl)) ?_
            obtain ⟨q10,Hq10,h⟩:=Option.bind_eq_some_iff.1 h
            refine G.pu (W.t rfl rfl) (U.call (ss:=[]) (.cons (.tmp (v:=.agg _) rfl) .nil) (.cons (.cl (.aggL (.cons .fi (.cons .bool (.cons .fi .nil))))) .nil) (frac_Frac_Print.cs Hq10) (.inl rfl) (.str)) ?_
            refine G.pu (W.t rfl rfl) (U.seqV (l:=[49,49,48,48]) (.tmp rfl) .str (by kernel_rfl)) ?_
            refine O.pu (Pu.pickT (.tmp rfl) (.tmp (v:=.bool _) rfl)) ?_
            refine O.pu (Pu.assign (.tmp (v:=.bool _) rfl)) ?_
            refine O.nil ?_
            refine X.ret ?_
            cases h
            exact E.fin [] (.tmp (v:=.bool _) rfl .nil) (.cons (.cl .bool) .nil)
          · rw [if_neg c] at h
            refine G.skip (W.f rfl rfl rfl) ?_
            refine G.skip (W.f rfl rfl rfl) ?_
            refine G.skip (W.f rfl rfl rfl) ?_
            refine G.skip (W.f rfl rfl rfl) ?_
            refine G.skip (W.f rfl rfl rfl) ?_
            refine G.skip (W.f rfl rfl rfl) ?_
            refine G.skip (W.f rfl rfl rfl) ?_
            refine O.pu (Pu.pickF (.tmp rfl) .bool) ?_
            refine O.pu (Pu.assign (.tmp (v:=.bool _) rfl)) ?_
            refine O.nil ?_
            refine X.ret ?_
            cases h
            exact E.fin [] (.tmp (v:=.bool _) rfl .nil) (.cons (.cl .bool) .nil)
        · rw [if_neg c] at h
          refine G.skip (W.f rfl rfl rfl) ?_
          refine G.skip (W.f rfl rfl rfl) ?_
          refine O.pu (Pu.pickF (.tmp rfl) .bool) ?_
          refine O.pu (Pu.move (.tmp (v:=.bool _) rfl)) ?_
          refine G.skip (W.f rfl rfl rfl) ?_
          refine G.skip (W.f rfl rfl rfl) ?_
          refine G.skip (W.f rfl rfl rfl) ?_
          refine G.skip (W.f rfl rfl rfl) ?_
          refine G.skip (W.f rfl rfl rfl) ?_
          refine G.skip (W.f rfl rfl rfl) ?_
          refine G.skip (W.f rfl rfl rfl) ?_
          refine O.pu (Pu.pickF (.tmp rfl) .bool) ?_
          refine O.pu (Pu.assign (.tmp (v:=.bool _) rfl)) ?_
          refine O.nil ?_
          refine X.ret ?_
          cases h
          exact E.fin [] (.tmp (v:=.bool _) rfl .nil) (.cons (.cl .bool) .nil)
      · rw [if_neg c] at h
        refine G.skip (W.f rfl rfl rfl) ?_
        refine G.skip (W.f rfl rfl rfl) ?_
        refine G.skip (W.f rfl rfl rfl) ?_
        refine O.pu (Pu.pickF (.tmp rfl) .bool) ?_
        refine O.pu (Pu.move (.tmp (v:=.bool _) rfl)) ?_
        refine G.skip (W.f rfl rfl rfl) ?_
        refine G.skip (W.f rfl rfl rfl) ?_
        refine O.pu (Pu.pickF (.tmp rfl) .bool) ?_
        refine O.pu (Pu.move (.tmp (v:=.bool _) rfl)) ?_
        refine G.skip (W.f rfl rfl rfl) ?_
        refine G.skip (W.f rfl rfl rfl) ?_
        refine G.skip (W.f rfl rfl rfl) ?_
        refine G.skip (W.f rfl rfl rfl) ?_
        refine G.skip (W.f rfl rfl rfl) ?_
        refine G.skip (W.f rfl rfl rfl) ?_
        refine G.skip (W.f rfl rfl rfl) ?_
        refine O.pu (Pu.pickF (.tmp rfl) .bool) ?_
        refine O.pu (Pu.assign (.tmp (v:=.bool _) rfl)) ?_
        refine O.nil ?_
        refine X.ret ?_
        cases h
        exact E.fin [] (.tmp (v:=.bool _) rfl .nil) (.cons (.cl .bool) .nil)
    · rw [if_neg c] at h
      refine G.skip (W.f rfl rfl rfl) ?_
      refine G.skip (W.f rfl rfl rfl) ?_
      refine O.pu (Pu.pickF (.tmp rfl) .bool) ?_
      refine O.pu (Pu.move (.tmp (v:=.bool _) rfl)) ?_
      refine G.skip (W.f rfl rfl rfl) ?_
      refine G.skip (W.f rfl rfl rfl) ?_
      refine G.skip (W.f rfl rfl rfl) ?_
      refine O.pu (Pu.pickF (.tmp rfl) .bool) ?_
      refine O.pu (Pu.move (.tmp (v:=.bool _) rfl)) ?_
      refine G.skip (W.f rfl rfl rfl) ?_
      refine G.skip (W.f rfl rfl rfl) ?_
      refine O.pu (Pu.pickF (.tmp rfl) .bool) ?_
      refine O.pu (Pu.move (.tmp (v:=.bool _) rfl)) ?_
      refine G.skip (W.f rfl rfl rfl) ?_
      refine G.skip (W.f rfl rfl rfl) ?_
      refine G.skip (W.f rfl rfl rfl) ?_
      refine G.skip (W.f rfl rfl rfl) ?_
      refine G.skip (W.f rfl rfl rfl) ?_
      refine G.skip (W.f rfl rfl rfl) ?_
      refine G.skip (W.f rfl rfl rfl) ?_
      refine O.pu (Pu.pickF (.tmp rfl) .bool) ?_
      refine O.pu (Pu.assign (.tmp (v:=.bool _) rfl)) ?_
      refine O.nil ?_
      refine X.ret ?_
      cases h
      exact E.fin [] (.tmp (v:=.bool _) rfl .nil) (.cons (.cl .bool) .nil)
  · rw [if_neg c] at h
    refine G.skip (W.f rfl rfl rfl) ?_
    refine G.skip (W.f rfl rfl rfl) ?_
    refine G.skip (W.f rfl rfl rfl) ?_
    refine O.pu (Pu.pickF (.tmp rfl) .bool) ?_
    refine O.pu (Pu.move (.tmp (v:=.bool _) rfl)) ?_
    refine G.skip (W.f rfl rfl rfl) ?_
    refine G.skip (W.f rfl rfl rfl) ?_
    refine O.pu (Pu.pickF (.tmp rfl) .bool) ?_
    refine O.pu (Pu.move (.tmp (v:=.bool _) rfl)) ?_
    refine G.skip (W.f rfl rfl rfl) ?_
    refine G.skip (W.f rfl rfl rfl) ?_
    refine G.skip (W.f rfl rfl rfl) ?_
    refine O.pu (Pu.pickF (.tmp rfl) .bool) ?_
    refine O.pu (Pu.move (.tmp (v:=.bool _) rfl)) ?_
    refine G.skip (W.f rfl rfl rfl) ?_
    refine G.skip (W.f rfl rfl rfl) ?_
    refine O.pu (Pu.pickF (.tmp rfl) .bool) ?_
    refine O.pu (Pu.move (.tmp (v:=.bool _) rfl)) ?_
    refine G.skip (W.f rfl rfl rfl) ?_
    refine G.skip (W.f rfl rfl rfl) ?_
    refine G.skip (W.f rfl rfl rfl) ?_
    refine G.skip (W.f rfl rfl rfl) ?_
    refine G.skip (W.f rfl rfl rfl) ?_
    refine G.skip (W.f rfl rfl rfl) ?_
    refine G.skip (W.f rfl rfl rfl) ?_
    refine O.pu (Pu.pickF (.tmp rfl) .bool) ?_
    refine O.pu (Pu.assign (.tmp (v:=.bool _) rfl)) ?_
    refine O.nil ?_
    refine X.ret ?_
    cases h
    exact E.fin [] (.tmp (v:=.bool _) rfl .nil) (.cons (.cl .bool) .nil)
noncomputable def c79:Code:=Try.f79.body.getD .skip
theorem fn79:FnOk Try.prog 79 Try.f79 c79:=⟨Try.func79,rfl,by kernel_rfl,by kernel_rfl,mixed⟩
theorem whole_Int_Sub.cs {k:Nat} {l0_0:List Int} {a0_1:Bool} {l1_0:List Int} {a1_1:Bool} {r:List Int×Bool} (h:whole_Int_Sub.f k l0_0 a0_1 l1_0 a1_1=some r):CS Try.prog 79 [.agg [.fi .u64 l0_0, .bool a0_1], .agg [.fi .u64 l1_0, .bool a1_1]] .no [.agg [.fi .u64 r.1, .bool r.2]]:=by
  unfold whole_Int_Sub.f at h
  refine E.pure fn79 rfl ?_
  refine X.seq ?_
  refine X.still ?_
  refine O.puE (v':=.op 2 (1) 0 0) (b':=⟨1, .own,_,_⟩) (Pu.box (.tmp (v:=.agg _) rfl) rfl rfl) rfl rfl ?_
  refine O.puE (v':=.op 3 (1) 0 0) (b':=⟨1, .own,_,_⟩) (Pu.box (.tmp (v:=.agg _) rfl) rfl rfl) rfl rfl ?_
  refine O.puE (v':=.op 4 (1) 0 0) (b':=⟨1, .own,(.vals [.agg [.fi .u64 [], .bool false]]),_⟩) Pu.alloc rfl rfl ?_
  refine O.nil ?_
  refine X.seq ?_
  refine X.drawn ?_
  refine D.pu (U.load (.tmp rfl) rfl rfl (U.whole rfl rfl)) ?_
  refine D.pu (U.load (.tmp rfl) rfl rfl (U.whole rfl rfl)) ?_
  obtain ⟨q1,Hq1,h⟩:=Option.bind_eq_some_iff.1 h
  refine D.pu (U.call (ss:=[]) (.cons (.tmp (v:=.agg _) rfl) .nil) (.cons (.cl (.aggL (.cons .fi (.cons .bool .nil)))) .nil) (whole_Int_Neg.cs Hq1) (.inl rfl) (.aggL (.cons .fi (.cons .bool .nil)))) ?_
  obtain ⟨q2,Hq2,h⟩:=Option.bind_eq_some_iff.1 h
  refine D.pu (U.call (ss:=[]) (.cons (.tmp (v:=.agg _) rfl) (.cons (.tmp (v:=.agg _) rfl) .nil)) (.cons (.cl (.aggL (.cons .fi (.cons .bool .nil)))) (.cons (.cl (.aggL (.cons .fi (.cons .bool .nil)))) .nil)) (whole_Int_Add.cs Hq2) (.inl rfl) (.aggL (.cons .fi (.cons .bool .nil)))) ?_
  refine D.ef0 (C.storeE (.tmp rfl) rfl rfl (.tmp (v:=.agg _) rfl) rfl rfl (.whole (notBad_ne rfl) rfl) .one) ?_
  refine D.nil (by kernel_rfl) ?_
  refine X.ret ?_
  cases h
  exact E.fin [] (.cell rfl rfl (Mode.live_ne rfl) (U.whole rfl rfl) .nil) (.cons (.cl (.aggL (.cons .fi (.cons .bool .nil)))) .nil)
noncomputable def c53:Code:=Try.f53.body.getD .skip
theorem fn53:FnOk Try.prog 53 Try.f53 c53:=⟨Try.func53,rfl,by kernel_rfl,by kernel_rfl,mixed⟩
theorem whole_Int_Cmp.cs {k:Nat} {l0_0:List Int} {a0_1:Bool} {l1_0:List Int} {a1_1:Bool} {r:Int} (h:whole_Int_Cmp.f k l0_0 a0_1 l1_0 a1_1=some r):CS Try.prog 53 [.agg [.fi .u64 l0_0, .bool a0_1], .agg [.fi .u64 l1_0, .bool a1_1]] .no [.int .i64 r]:=by
  unfold whole_Int_Cmp.f at h
  refine E.pure fn53 rfl ?_
  refine X.seq ?_
  refine X.still ?_
  refine O.puE (v':=.op 2 (1) 0 0) (b':=⟨1, .own,_,_⟩) (Pu.box (.tmp (v:=.agg _) rfl) rfl rfl) rfl rfl ?_
  refine O.puE (v':=.op 3 (1) 0 0) (b':=⟨1, .own,_,_⟩) (Pu.box (.tmp (v:=.agg _) rfl) rfl rfl) rfl rfl ?_
  refine O.pu (Pu.assign .int) ?_
  refine O.nil ?_
  refine X.seq ?_
  refine X.still ?_
  refine O.pu (U.load (.tmp rfl) rfl rfl (U.whole rfl rfl)) ?_
  refine O.pu (U.load (.tmp rfl) rfl rfl (U.whole rfl rfl)) ?_
  obtain ⟨q1,Hq1,h⟩:=Option.bind_eq_some_iff.1 h
  refine O.pu (U.call (ss:=[]) (.cons (.tmp (v:=.agg _) rfl) (.cons (.tmp (v:=.agg _) rfl) .nil)) (.cons (.cl (.aggL (.cons .fi (.cons .bool .nil)))) (.cons (.cl (.aggL (.cons .fi (.cons .bool .nil)))) .nil)) (whole_Int_Sub.cs Hq1) (.inl rfl) (.aggL (.cons .fi (.cons .bool .nil)))) ?_
  obtain ⟨q2,Hq2,h⟩:=Option.bind_eq_some_iff.1 h
  refine O.pu (U.call (ss:=[]) (.cons (.tmp (v:=.agg _) rfl) .nil) (.cons (.cl (.aggL (.cons .fi (.cons .bool .nil)))) .nil) (whole_Int_Sign.cs Hq2) (.inl rfl) (.int)) ?_
  refine O.pu (Pu.assign (.tmp (v:=.int _ _) rfl)) ?_
  refine O.nil ?_
  refine X.ret ?_
  cases h
  exact E.fin [] (.tmp (v:=.int _ _) rfl .nil) (.cons (.cl .int) .nil)
noncomputable def c23:Code:=Try.f23.body.getD .skip
theorem fn23:FnOk Try.prog 23 Try.f23 c23:=⟨Try.func23,rfl,by kernel_rfl,by kernel_rfl,mixed⟩
theorem frac_Frac_Cmp.cs {k:Nat} {l0_0:List Int} {a0_1:Bool} {l0_2:List Int} {l1_0:List Int} {a1_1:Bool} {l1_2:List Int} {r:Int} (h:frac_Frac_Cmp.f k l0_0 a0_1 l0_2 l1_0 a1_1 l1_2=some r):CS Try.prog 23 [.agg [.fi .u64 l0_0, .bool a0_1, .fi .u64 l0_2], .agg [.fi .u64 l1_0, .bool a1_1, .fi .u64 l1_2]] .no [.int .i64 r]:=by
  unfold frac_Frac_Cmp.f at h
  refine E.pure fn23 rfl ?_
  refine X.seq ?_
  refine X.still ?_
  refine O.puE (v':=.op 2 (1) 0 0) (b':=⟨1, .own,_,_⟩) (Pu.box (.tmp (v:=.agg _) rfl) rfl rfl) rfl rfl ?_
  refine O.puE (v':=.op 3 (1) 0 0) (b':=⟨1, .own,_,_⟩) (Pu.box (.tmp (v:=.agg _) rfl) rfl rfl) rfl rfl ?_
  refine O.pu (Pu.assign .int) ?_
  refine O.nil ?_
  refine X.seq ?_
  refine X.drawn ?_
  refine D.pu (U.fieldA rfl rfl rfl (.tmp rfl)) ?_
  refine D.pu (U.load (.tmp rfl) rfl rfl (U.sub rfl (.take (.take .done)))) ?_
  refine D.pu (U.load (.tmp rfl) rfl rfl (U.whole rfl rfl)) ?_
  obtain ⟨q1,Hq1,h⟩:=Option.bind_eq_some_iff.1 h
  refine D.pu (U.call (ss:=[]) (.cons (.tmp (v:=.agg _) rfl) .nil) (.cons (.cl (.aggL (.cons .fi (.cons .bool (.cons .fi .nil))))) .nil) (frac_Frac_den.cs Hq1) (.inl rfl) (.aggL (.cons .fi (.cons .bool .nil)))) ?_
  obtain ⟨q2,Hq2,h⟩:=Option.bind_eq_some_iff.1 h
  refine D.pu (U.call (ss:=[]) (.cons (.tmp (v:=.agg _) rfl) (.cons (.tmp (v:=.agg _) rfl) .nil)) (.cons (.cl (.aggL (.cons .fi (.cons .bool .nil)))) (.cons (.cl (.aggL (.cons .fi (.cons .bool .nil)))) .nil)) (whole_Int_Mul.cs Hq2) (.inl rfl) (.aggL (.cons .fi (.cons .bool .nil)))) ?_
  refine D.pu (U.fieldA rfl rfl rfl (.tmp rfl)) ?_
  refine D.pu (U.load (.tmp rfl) rfl rfl (U.sub rfl (.take (.take .done)))) ?_
  refine D.pu (U.load (.tmp rfl) rfl rfl (U.whole rfl rfl)) ?_
  obtain ⟨q3,Hq3,h⟩:=Option.bind_eq_some_iff.1 h
  refine D.pu (U.call (ss:=[]) (.cons (.tmp (v:=.agg _) rfl) .nil) (.cons (.cl (.aggL (.cons .fi (.cons .bool (.cons .fi .nil))))) .nil) (frac_Frac_den.cs Hq3) (.inl rfl) (.aggL (.cons .fi (.cons .bool .nil)))) ?_
  obtain ⟨q4,Hq4,h⟩:=Option.bind_eq_some_iff.1 h
  refine D.pu (U.call (ss:=[]) (.cons (.tmp (v:=.agg _) rfl) (.cons (.tmp (v:=.agg _) rfl) .nil)) (.cons (.cl (.aggL (.cons .fi (.cons .bool .nil)))) (.cons (.cl (.aggL (.cons .fi (.cons .bool .nil)))) .nil)) (whole_Int_Mul.cs Hq4) (.inl rfl) (.aggL (.cons .fi (.cons .bool .nil)))) ?_
  obtain ⟨q5,Hq5,h⟩:=Option.bind_eq_some_iff.1 h
  refine D.pu (U.call (ss:=[]) (.cons (.tmp (v:=.agg _) rfl) (.cons (.tmp (v:=.agg _) rfl) .nil)) (.cons (.cl (.aggL (.cons .fi (.cons .bool .nil)))) (.cons (.cl (.aggL (.cons .fi (.cons .bool .nil)))) .nil)) (whole_Int_Cmp.cs Hq5) (.inl rfl) (.int)) ?_
  refine D.pu (Pu.assign (.tmp (v:=.int _ _) rfl)) ?_
  refine D.nil (by kernel_rfl) ?_
  refine X.ret ?_
  cases h
  exact E.fin [] (.tmp (v:=.int _ _) rfl .nil) (.cons (.cl .int) .nil)
end Go.Proofs.Ytiikhhemgplocaa
end
