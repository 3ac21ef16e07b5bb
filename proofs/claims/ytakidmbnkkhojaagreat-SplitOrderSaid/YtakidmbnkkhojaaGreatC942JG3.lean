-- Joined of: G8 G57 G49 G81 G82 G50 G16 G18 G70 G104 G71 G26 G39 G46 G51 G53 G91 G149 G139 G120 G115 G141 G140 G121 G142 G143 G144 G145 G150 G146 G122 G84 G83 G124 G85 G52 G17 G42 G41 G29 G43 G95 G60 G103 G69 G66 G67 G90 G56 G79 G44 G12 G25 G20 G33 K11 K45 G13 V25 K32T K76 G59 G58 G21 G9 G27
import Derived.Test.YtakidmbnkkhojaaGreatC942JM5
import Derived.Test.YtakidmbnkkhojaaGreatC942JG2
import Derived.Test.YtakidmbnkkhojaaGreatC942Sp15
import Derived.Test.YtakidmbnkkhojaaGreatC942Sp13
import Derived.Test.YtakidmbnkkhojaaGreatC942Sp14
import Derived.Test.YtakidmbnkkhojaaGreatC942Sp16
import Derived.Test.YtakidmbnkkhojaaGreatC942B
import Derived.Test.YtakidmbnkkhojaaGreatC942Sp17
section
namespace Go.Proofs.YtakidmbnkkhojaaGreat
open Go.AVL Go.RowKit Go.Proofs.YtakidmbnkkhojaaGreat.F Go.Proofs.YtakidmbnkkhojaaGreatX Go.Proofs.YtakidmbnkkhojaaGreatW.PrintWords Go.Proofs.YtakidmbnkkhojaaGreatW.PrintLast Go.Proofs.YtakidmbnkkhojaaGreatW.PrintMore
set_option linter.unusedVariables false
set_option linter.unusedSimpArgs false
set_option maxRecDepth 100000
set_option maxHeartbeats 16000000
noncomputable def c8:Code:=Tryz.f8.body.getD .skip
theorem fn8:FnOk Tryz.prog 8 Tryz.f8 c8:=⟨Tryz.func8,rfl,by kernel_rfl,by kernel_rfl,mixed⟩
theorem chattellaw12_Time_make.cs {k:Nat} {a0_0:Int} {a0_1:Int} {a0_2:Int} {a0_3:Int} {l0_4:List Int} {l0_5:List Int} {a0_6:Int} {r:Int×Int×Int×Int×Int×Int×(List (S28))} (h:chattellaw12_Time_make.f k a0_0 a0_1 a0_2 a0_3 l0_4 l0_5 a0_6=some r):CS Tryz.prog 8 [.agg [.int .i64 a0_0, .int .i64 a0_1, .int .i64 a0_2, .int .u16 a0_3, .fi .i16 l0_4, .fi .i16 l0_5, .int .u8 a0_6]] ⟨none,some (.vals (List.map en28 r.2.2.2.2.2.2),28)⟩ [.agg [.int .i64 r.1, .int .i64 r.2.1, .int .i64 r.2.2.1], .agg [.int .i64 r.2.2.2.1, .int .i64 r.2.2.2.2.1, .int .i64 r.2.2.2.2.2.1], .os FRS 1 0 (Row.vals (List.map en28 r.2.2.2.2.2.2)).len true]:=by
  unfold chattellaw12_Time_make.f at h
  refine E.freshT [.agg [.int .i64 r.1, .int .i64 r.2.1, .int .i64 r.2.2.1], .agg [.int .i64 r.2.2.2.1, .int .i64 r.2.2.2.2.1, .int .i64 r.2.2.2.2.2.1]] [] fn8 rfl (ClL.map fun _=>.aggL (.cons .int (.cons .int (.cons .int .nil)))) (FlL.cons (.aggL (.cons .int (.cons .int (.cons .int .nil)))) (FlL.cons (.aggL (.cons .int (.cons .int (.cons .int .nil)))) FlL.nil)) FlL.nil ?_
  refine S.O 3 rfl rfl ?_
  refine O.ef (U.nilOE (u:=1) (row:=.vals (List.map en28 [])) (e:=28) rfl rfl) ?_
  refine O.nil ?_
  refine S.O 2 rfl rfl ?_
  obtain ⟨q1,Hq1,h⟩:=Option.bind_eq_some_iff.1 h
  refine O.c (chattelref09_Make.cs Hq1) rfl rfl rfl ?_
  refine S.e 2 rfl rfl ?_
  refine S.O 3 rfl rfl ?_
  refine O.pu (Pu.bin (.tmp rfl) .int (.rem (by omega))) ?_
  refine S.r 1 rfl rfl ?_
  obtain ⟨q2,Hq2,h⟩:=Option.bind_eq_some_iff.1 h
  refine O.c (month_AddDays.cs Hq2) rfl rfl rfl ?_
  refine S.e 6 rfl rfl ?_
  refine X.seq ?_
  refine X.still ?_
  refine O.ef (U.nilOE (u:=1) (row:=.vals (List.map en28 [])) (e:=28) rfl rfl) ?_
  refine O.nil ?_
  refine X.seq ?_
  refine S.O 4 rfl rfl ?_
  refine O.pu (Pu.lenI rfl (.tmp rfl)) ?_
  refine O.pu (U.mn (.tmp rfl) .int) ?_
  repeat (rw [giff] at h;obtain ⟨_,h⟩:=h)
  refine O.pu (U.sliceH rfl rfl (.tmp rfl) .no (.yes (.tmp rfl) (by omega)) .no (by omega) (by omega)) ?_
  refine O.pu (Pu.lenI rfl (.tmp rfl)) ?_
  refine S.e 1 rfl rfl ?_
  refine X.block ?_
  refine X.inv (fun k s=>∃ x8 x31 x32 x33 x137000 x137001 x137002 x142000 x142001 x142002 n8 u1 u2 u3 u5 u6 u8 z1_0 z1_1 z1_2 z1_3 z1_4 z1_5 z1_6,s.b 8=⟨u8, .own, .vals (List.map en28 x8),28⟩∧s.t 8 = .os 8 u8 0 n8 true∧x8.length=n8∧s.t 31 = .fi .i16 x31∧s.t 32 = .int .i64 x32∧s.t 33 = .int .i64 x33∧s.t 1 = .op 1 u1 0 0∧s.b 1=⟨u1, .own, .vals [.agg [.int .i64 z1_0, .int .i64 z1_1, .int .i64 z1_2, .int .u16 z1_3, .fi .i16 z1_4, .fi .i16 z1_5, .int .u8 z1_6]],26⟩∧s.t 2 = .op 2 u2 0 0∧s.b 2=⟨u2, .own, .vals [.agg [.int .i64 0, .int .i64 0, .int .i64 0]],28⟩∧s.t 3 = .op 3 u3 0 0∧s.b 3=⟨u3, .own, .vals [.agg [.int .i64 0, .int .i64 0, .int .i64 0]],28⟩∧s.t 5 = .op 5 u5 0 0∧s.b 5=⟨u5, .own, .vals [.agg [.int .i64 x137000, .int .i64 x137001, .int .i64 x137002]],28⟩∧s.t 6 = .op 6 u6 0 0∧s.b 6=⟨u6, .own, .vals [.agg [.int .i64 x142000, .int .i64 x142001, .int .i64 x142002]],28⟩∧chattellaw12_Time_make.l0 k x8 x31 x32 x33 x137000 x137001 x137002 x142000 x142001 x142002=some r) ?_ ?_ ⟨_,_,_,_,_,_,_,_,_,_,_,_,_,_,_,_,_,_,_,_,_,_,_,_,rfl,rfl,rfl,rfl,rfl,rfl,rfl,rfl,rfl,rfl,rfl,rfl,rfl,rfl,rfl,rfl,h⟩
  · rintro s ⟨_,_,_,_,_,_,_,_,_,_,_,_,_,_,_,_,_,_,_,_,_,_,_,_,_,_,_,_,_,_,_,_,_,_,_,_,_,_,_,_,h⟩;unfold chattellaw12_Time_make.l0 at h;cases h
  · rintro k1 s1 ⟨x8,x31,x32,x33,x137000,x137001,x137002,x142000,x142001,x142002,n8,u1,u2,u3,u5,u6,u8,z1_0,z1_1,z1_2,z1_3,z1_4,z1_5,z1_6,e0,e1,rfl,e3,e4,e5,e6,e7,e8,e9,e10,e11,e12,e13,e14,e15,h⟩
    unfold chattellaw12_Time_make.l0 at h
    rw [St.fixB e0,St.fixT e1,St.fixT e3,St.fixT e4,St.fixT e5,St.fixT e6,St.fixB e7,St.fixT e8,St.fixB e9,St.fixT e10,St.fixB e11,St.fixT e12,St.fixB e13,St.fixT e14,St.fixB e15]
    refine S.A 1 rfl rfl ?_
    refine X.seq ?_
    refine X.condP (.tmp rfl) (fun c=>?_) (fun c=>?_)
    · rw [if_pos c] at h
      refine X.skip ?_
      refine X.seq ?_
      refine X.block ?_
      refine X.seq ?_
      refine X.still ?_
      repeat (rw [giff] at h;obtain ⟨_,h⟩:=h)
      refine O.pu (U.rdI rfl rfl (.tmp rfl) (.tmp rfl) (by omega) (by omega)) ?_
      refine S.e 2 rfl rfl ?_
      refine S.O 3 rfl rfl ?_
      refine O.pu (Pu.bin (.tmp rfl) .int (.rem (by omega))) ?_
      obtain ⟨q3,Hq3,h⟩:=Option.bind_eq_some_iff.1 h
      refine O.c (month_AddDays.cs Hq3) rfl rfl rfl ?_
      refine S.e 6 rfl rfl ?_
      refine S.A 2 rfl rfl ?_
      refine X.condE (.tmp rfl) (fun c=>?_) (fun c=>?_)
      · rw [if_pos c] at h
        refine X.still ?_
        refine S.r 2 rfl rfl ?_
        refine O.puE (v':=.os 49 ((s1.b 49).ver + 1) 0 _ true) (b':=⟨(s1.b 49).ver + 1, .own,_,_⟩) (U.litS (en:=en28) (l:=[⟨_,_,_⟩]) rfl (.cons (.tmp (v:=.agg _) rfl) rfl .nil) rfl rfl rfl (fun _=>rfl)) rfl rfl ?_
        repeat (rw [giff] at h;obtain ⟨_,h⟩:=h)
        refine O.ef (U.appendSE (en:=en28) (u':=(s1.b 50).ver + 1) rfl (.tmp rfl) rfl (by first|rfl|(simp only [List.length_append,List.length_cons,List.length_nil] at *;omega)) (.tmp rfl) (.osVf (List.mem_singleton.2 rfl) rfl (Mode.live_ne rfl) rfl (ClL.map fun _=>.aggL (.cons .int (.cons .int (.cons .int .nil)))) (by simp)) rfl (fun _=>⟨rfl,rfl⟩) (by simp only [maxLen,List.length_cons,List.length_nil];omega) (by simp only [List.length_cons,List.length_nil];omega) rfl) ?_
        refine O.ef (U.takeE (u':=u8 + 1) (.tmp rfl) rfl (ne_of_beq rfl) rfl) ?_
        refine O.nil ?_
        refine X.still ?_
        refine S.e 2 rfl rfl ?_
        exact ⟨_,(by omega),_,_,_,_,_,_,_,_,_,_,_,_,_,_,_,_,_,_,_,_,_,_,_,_,rfl,rfl,(by first|rfl|(simp only [List.length_set];done)|(simp only [List.length_drop,List.length_take,List.length_append,List.length_set] at *;omega)),rfl,rfl,rfl,rfl,rfl,rfl,rfl,rfl,rfl,rfl,rfl,rfl,rfl,h⟩
      · rw [if_neg c] at h
        refine X.skip ?_
        refine X.still ?_
        refine S.e 2 rfl rfl ?_
        exact ⟨_,(by omega),_,_,_,_,_,_,_,_,_,_,_,_,_,_,_,_,_,_,_,_,_,_,_,_,rfl,rfl,(by first|rfl|(simp only [List.length_set];done)|(simp only [List.length_drop,List.length_take,List.length_append,List.length_set] at *;omega)),rfl,rfl,rfl,rfl,rfl,rfl,rfl,rfl,rfl,rfl,rfl,rfl,rfl,h⟩
    · rw [if_neg c] at h
      refine X.exit (B.out ?_)
      refine S.D 5 rfl rfl ?_
      refine D.ef (C.takeE (u':=(s1.b 4).ver + 1) (.tmp rfl) rfl (ne_of_beq rfl) rfl) ?_
      refine D.nil (by kernel_rfl) ?_
      refine X.ret ?_
      cases h
      exact E.finFV (s:=4) (.cell rfl rfl (Mode.live_ne rfl) (U.whole rfl rfl) (.cell rfl rfl (Mode.live_ne rfl) (U.whole rfl rfl) (.tmp (v:=.os _ _ _ _ _) rfl .nil))) (by first|rfl|(simp only [List.length_set];done)|(simp only [List.length_drop,List.length_take,List.length_append,List.length_set] at *;omega)) rfl
noncomputable def c57:Code:=Tryz.f57.body.getD .skip
theorem fn57:FnOk Tryz.prog 57 Tryz.f57 c57:=⟨Tryz.func57,rfl,by kernel_rfl,by kernel_rfl,mixed⟩
theorem nat_Nat_Zero.cs {l0_0:List Int} {r:Bool} (h:nat_Nat_Zero.f l0_0=some r):CS Tryz.prog 57 [.agg [.fi .u64 l0_0]] .no [.bool r]:=by
  unfold nat_Nat_Zero.f at h
  refine E.pure fn57 rfl ?_
  refine S.A 2 rfl rfl ?_
  refine S.O 2 rfl rfl ?_
  refine O.pu (Pu.lenI rfl (.tmp rfl)) ?_
  refine S.e 2 rfl rfl ?_
  refine X.ret ?_
  cases h
  exact S.R rfl rfl rfl
noncomputable def c49:Code:=Tryz.f49.body.getD .skip
theorem fn49:FnOk Tryz.prog 49 Tryz.f49 c49:=⟨Tryz.func49,rfl,by kernel_rfl,by kernel_rfl,mixed⟩
theorem whole_Of.cs {l0_0:List Int} {a1:Bool} {r:List Int×Bool} (h:whole_Of.f l0_0 a1=some r):CS Tryz.prog 49 [.agg [.fi .u64 l0_0], .bool a1] .no [.agg [.fi .u64 r.1, .bool r.2]]:=by
  unfold whole_Of.f at h
  refine E.pure fn49 rfl ?_
  refine S.A 2 rfl rfl ?_
  refine S.D 3 rfl rfl ?_
  refine D.split (fun c=>?_) (fun c=>?_)
  · rw [if_pos c] at h
    refine S.d 1 rfl rfl ?_
    obtain ⟨q1,Hq1,h⟩:=Option.bind_eq_some_iff.1 h
    refine D.gpu (W.t rfl rfl) (U.call (ss:=[]) (.cons (.tmp (v:=.agg _) rfl) .nil) (.cons (.cl (.aggL (.cons .fi .nil))) .nil) (nat_Nat_Zero.cs Hq1) (.inl rfl) (.bool)) ?_
    refine S.d 4 rfl rfl ?_
    refine D.nil (by kernel_rfl) ?_
    refine X.ret ?_
    cases h
    exact S.R rfl rfl rfl
  · rw [if_neg (bf c)] at h
    refine S.d 6 rfl rfl ?_
    refine D.nil (by kernel_rfl) ?_
    refine X.ret ?_
    cases h
    exact S.R rfl rfl rfl
noncomputable def c81:Code:=Tryz.f81.body.getD .skip
theorem fn81:FnOk Tryz.prog 81 Tryz.f81 c81:=⟨Tryz.func81,rfl,by kernel_rfl,by kernel_rfl,mixed⟩
theorem nat_trimmed.cs {k:Nat} {l0:List Int} {r:List Int} (h:nat_trimmed.f k l0=some r):CS Tryz.prog 81 [.fi .u64 l0] .no [.agg [.fi .u64 r]]:=by
  unfold nat_trimmed.f at h
  refine E.pure fn81 rfl ?_
  refine S.A 1 rfl rfl ?_
  refine S.O 1 rfl rfl ?_
  refine O.pu (Pu.lenI rfl (.tmp rfl)) ?_
  refine S.e 1 rfl rfl ?_
  refine X.seq ?_
  refine X.block ?_
  refine X.inv (fun k s=>∃ x0 x3 u2,s.t 0 = .fi .u64 x0∧s.t 3 = .int .i64 x3∧s.t 2 = .op 2 u2 0 0∧s.b 2=⟨u2, .own, .vals [.agg [.fi .u64 []]],45⟩∧nat_trimmed.l0 k x0 x3=some r) ?_ ?_ ⟨_,_,_,rfl,rfl,rfl,rfl,h⟩
  · rintro s ⟨_,_,_,_,_,_,_,h⟩;unfold nat_trimmed.l0 at h;cases h
  · rintro k1 s1 ⟨x0,x3,u2,e0,e1,e2,e3,h⟩
    unfold nat_trimmed.l0 at h
    rw [St.fixT e0,St.fixT e1,St.fixT e2,St.fixB e3]
    refine X.seq ?_
    refine S.O 3 rfl rfl ?_
    refine O.splitP (fun c=>?_) (fun c=>?_)
    · rw [if_pos c] at h
      refine S.r 3 rfl rfl ?_
      repeat (rw [giff] at h;obtain ⟨_,h⟩:=h)
      refine G.pu (W.t rfl rfl) (U.rdI rfl rfl (.tmp rfl) (.tmp rfl) (by omega) (by omega)) ?_
      refine S.e 3 rfl rfl ?_
      refine X.condE (.tmp rfl) (fun c=>?_) (fun c=>?_)
      · rw [if_pos c] at h
        refine X.skip ?_
        refine X.block ?_
        refine X.still ?_
        refine S.e 3 rfl rfl ?_
        exact ⟨_,(by omega),_,_,_,rfl,rfl,rfl,rfl,h⟩
      · rw [if_neg c] at h
        refine X.exit (B.out ?_)
        refine S.O 3 rfl rfl ?_
        repeat (rw [giff] at h;obtain ⟨_,h⟩:=h)
        refine O.pu (U.sliceH rfl rfl (.tmp rfl) .no (.yes (.tmp rfl) (by omega)) (.yes (.tmp rfl) (by omega) (by omega) (by omega)) (by omega) (by omega)) ?_
        refine S.e 2 rfl rfl ?_
        refine X.ret ?_
        cases h
        exact S.R rfl rfl rfl
    · rw [if_neg c] at h
      refine S.e 7 rfl rfl ?_
      refine X.condF (.tmp rfl) ?_
      refine X.exit (B.out ?_)
      refine S.O 3 rfl rfl ?_
      repeat (rw [giff] at h;obtain ⟨_,h⟩:=h)
      refine O.pu (U.sliceH rfl rfl (.tmp rfl) .no (.yes (.tmp rfl) (by omega)) (.yes (.tmp rfl) (by omega) (by omega) (by omega)) (by omega) (by omega)) ?_
      refine S.e 2 rfl rfl ?_
      refine X.ret ?_
      cases h
      exact S.R rfl rfl rfl
noncomputable def c82:Code:=Tryz.f82.body.getD .skip
theorem fn82:FnOk Tryz.prog 82 Tryz.f82 c82:=⟨Tryz.func82,rfl,by kernel_rfl,by kernel_rfl,mixed⟩
theorem slices_Clone_uint64_uint64.cs {l0:List Int} {r:List Int} (h:slices_Clone_uint64_uint64.f l0=some r):CS Tryz.prog 82 [.fi .u64 l0] ⟨none,some (.ints .u64 r,102)⟩ [.os FRS 1 0 (Row.ints .u64 r).len true]:=by
  unfold slices_Clone_uint64_uint64.f at h
  refine E.fresh fn82 rfl trivial ?_
  refine X.seq ?_
  refine X.still ?_
  refine O.ef (U.nilOE (u:=1) (row:=.ints .u64 []) (e:=102) rfl rfl) ?_
  refine O.nil ?_
  refine X.seq ?_
  refine S.O 1 rfl rfl ?_
  refine O.nilc rfl (.tmp rfl) .fi (fun c0 hc0=>?_)
  refine O.nil ?_
  repeat first|(rw [giff] at h;obtain ⟨_,h⟩:=h)|rw [bdff] at h
  refine X.cond (.tmp rfl) (fun c=>?_) (fun c=>?_)
  · obtain rfl:=List.eq_nil_of_length_eq_zero (hc0 c)
    refine X.seq ?_
    refine X.still ?_
    refine O.ef (U.nilOE (u:=2) (row:=.ints .u64 []) (e:=102) rfl rfl) ?_
    refine O.nil ?_
    refine X.ret ?_
    cases h
    exact E.finF (s:=2) (.tmp (v:=.os _ _ _ _ _) rfl .nil) rfl
  · refine X.skip ?_
    refine X.seq ?_
    refine X.still ?_
    refine O.puE (v':=.os 5 (1) 0 _ true) (b':=⟨1, .own,_,_⟩) (U.litI rfl rfl .nil rfl rfl) rfl rfl ?_
    refine S.r 1 rfl rfl ?_
    refine O.ef (U.appendE (u':=1) rfl rfl (.tmp rfl) rfl (by first|rfl|(simp only [List.length_set];done)|(simp only [List.length_drop,List.length_take,List.length_append,List.length_set] at *;omega)) (.tmp rfl) (.cl (ss:=[]) .fi) rfl (by first|exact Nat.le_of_lt (by assumption)|(simp only [List.length_cons,List.length_nil];omega)) rfl) ?_
    refine O.ef (U.takeE (u':=2) (.tmp rfl) rfl (ne_of_beq rfl) rfl) ?_
    refine O.nil ?_
    refine X.ret ?_
    cases h
    exact E.finF (s:=2) (.tmp (v:=.os _ _ _ _ _) rfl .nil) rfl
noncomputable def c50:Code:=Tryz.f50.body.getD .skip
theorem fn50:FnOk Tryz.prog 50 Tryz.f50 c50:=⟨Tryz.func50,rfl,by kernel_rfl,by kernel_rfl,mixed⟩
theorem nat_Of.cs {k:Nat} {l0:List Int} {r:List Int} (h:nat_Of.f k l0=some r):CS Tryz.prog 50 [.fi .u64 l0] .no [.agg [.fi .u64 r]]:=by
  unfold nat_Of.f at h
  refine E.pure fn50 rfl ?_
  refine S.A 1 rfl rfl ?_
  refine S.O 1 rfl rfl ?_
  obtain ⟨q1,Hq1,h⟩:=Option.bind_eq_some_iff.1 h
  refine O.puE (v':=.os 4 (1) 0 _ true) (b':=⟨1, .own,_,_⟩) (U.callF (ss:=[]) (.cons (.tmp (v:=.fi _ _) rfl) .nil) (.cons (.cl .fi) .nil) (slices_Clone_uint64_uint64.cs Hq1)) rfl rfl ?_
  obtain ⟨q2,Hq2,h⟩:=Option.bind_eq_some_iff.1 h
  refine O.ef (U.callZ (ss:=[4]) (.cons (.tmp (v:=.os _ _ _ _ _) rfl) .nil) (.cons (.osIf (by simp) rfl (Mode.live_ne rfl) rfl (by first|rfl|(simp only [List.length_set];done)|(simp only [List.length_drop,List.length_take,List.length_append,List.length_set] at *;omega))) .nil) (nat_trimmed.cs Hq2) (.aggL (.cons .fi .nil)) (nowin rfl)) ?_
  refine S.e 1 rfl rfl ?_
  refine X.ret ?_
  cases h
  exact S.R rfl rfl rfl
noncomputable def c16:Code:=Tryz.f16.body.getD .skip
theorem fn16:FnOk Tryz.prog 16 Tryz.f16 c16:=⟨Tryz.func16,rfl,by kernel_rfl,by kernel_rfl,mixed⟩
theorem whole_From.cs {k:Nat} {a0:Int} {r:List Int×Bool} (h:whole_From.f k a0=some r):CS Tryz.prog 16 [.int .i64 a0] .no [.agg [.fi .u64 r.1, .bool r.2]]:=by
  unfold whole_From.f at h
  refine E.pure fn16 rfl ?_
  refine S.A 1 rfl rfl ?_
  refine X.seq ?_
  refine S.A 2 rfl rfl ?_
  refine X.condP (.tmp rfl) (fun c=>?_) (fun c=>?_)
  · rw [if_pos c] at h
    refine S.O 2 rfl rfl ?_
    refine O.pu (Pu.un (.tmp rfl) U.neg) ?_
    refine O.puE (v':=.os 8 (1) 0 _ true) (b':=⟨1, .own,_,_⟩) (U.litI rfl rfl (.cons (.tmp (v:=.int _ _) rfl) .nil) rfl rfl) rfl rfl ?_
    obtain ⟨q1,Hq1,h⟩:=Option.bind_eq_some_iff.1 h
    refine O.ef (U.callZ (ss:=[8]) (.cons (.tmp (v:=.os _ _ _ _ _) rfl) .nil) (.cons (.osIf (by simp) rfl (Mode.live_ne rfl) rfl (by first|rfl|(simp only [List.length_set];done)|(simp only [List.length_drop,List.length_take,List.length_append,List.length_set] at *;omega))) .nil) (nat_Of.cs Hq1) (.aggL (.cons .fi .nil)) (nowin rfl)) ?_
    obtain ⟨q2,Hq2,h⟩:=Option.bind_eq_some_iff.1 h
    refine O.c (whole_Of.cs Hq2) rfl rfl rfl ?_
    refine S.e 1 rfl rfl ?_
    refine X.ret ?_
    cases h
    exact S.R rfl rfl rfl
  · rw [if_neg c] at h
    refine X.skip ?_
    refine S.O 2 rfl rfl ?_
    refine O.puE (v':=.os 13 (1) 0 _ true) (b':=⟨1, .own,_,_⟩) (U.litI rfl rfl (.cons (.tmp (v:=.int _ _) rfl) .nil) rfl rfl) rfl rfl ?_
    obtain ⟨q3,Hq3,h⟩:=Option.bind_eq_some_iff.1 h
    refine O.ef (U.callZ (ss:=[13]) (.cons (.tmp (v:=.os _ _ _ _ _) rfl) .nil) (.cons (.osIf (by simp) rfl (Mode.live_ne rfl) rfl (by first|rfl|(simp only [List.length_set];done)|(simp only [List.length_drop,List.length_take,List.length_append,List.length_set] at *;omega))) .nil) (nat_Of.cs Hq3) (.aggL (.cons .fi .nil)) (nowin rfl)) ?_
    obtain ⟨q4,Hq4,h⟩:=Option.bind_eq_some_iff.1 h
    refine O.c (whole_Of.cs Hq4) rfl rfl rfl ?_
    refine S.e 1 rfl rfl ?_
    refine X.ret ?_
    cases h
    exact S.R rfl rfl rfl
noncomputable def c18:Code:=Tryz.f18.body.getD .skip
theorem fn18:FnOk Tryz.prog 18 Tryz.f18 c18:=⟨Tryz.func18,rfl,by kernel_rfl,by kernel_rfl,mixed⟩
theorem frac_From.cs {l0_0:List Int} {a0_1:Bool} {r:List Int×Bool×List Int} (h:frac_From.f l0_0 a0_1=some r):CS Tryz.prog 18 [.agg [.fi .u64 l0_0, .bool a0_1]] .no [.agg [.fi .u64 r.1, .bool r.2.1, .fi .u64 r.2.2]]:=by
  unfold frac_From.f at h
  refine E.pure fn18 rfl ?_
  refine S.A 2 rfl rfl ?_
  refine S.A 3 rfl rfl ?_
  refine X.ret ?_
  cases h
  exact S.R rfl rfl rfl
noncomputable def c70:Code:=Tryz.f70.body.getD .skip
theorem fn70:FnOk Tryz.prog 70 Tryz.f70 c70:=⟨Tryz.func70,rfl,by kernel_rfl,by kernel_rfl,mixed⟩
theorem cmp_Or_int.cs {k:Nat} {l0:List Int} {r:Int} (h:cmp_Or_int.f k l0=some r):CS Tryz.prog 70 [.fi .i64 l0] .no [.int .i64 r]:=by
  unfold cmp_Or_int.f at h
  refine E.pure fn70 rfl ?_
  refine S.A 1 rfl rfl ?_
  refine S.A 1 rfl rfl ?_
  refine X.seq ?_
  refine S.O 1 rfl rfl ?_
  refine O.pu (Pu.lenI rfl (.tmp rfl)) ?_
  refine S.e 1 rfl rfl ?_
  refine X.block ?_
  refine X.inv (fun k s=>∃ x3 x6 x7 x8,s.t 3 = .int .i64 x3∧s.t 6 = .fi .i64 x6∧s.t 7 = .int .i64 x7∧s.t 8 = .int .i64 x8∧cmp_Or_int.l0 k x3 x6 x7 x8=some r) ?_ ?_ ⟨_,_,_,_,rfl,rfl,rfl,rfl,h⟩
  · rintro s ⟨_,_,_,_,_,_,_,_,h⟩;unfold cmp_Or_int.l0 at h;cases h
  · rintro k1 s1 ⟨x3,x6,x7,x8,e0,e1,e2,e3,h⟩
    unfold cmp_Or_int.l0 at h
    rw [St.fixT e0,St.fixT e1,St.fixT e2,St.fixT e3]
    refine S.A 1 rfl rfl ?_
    refine X.seq ?_
    refine X.condP (.tmp rfl) (fun c=>?_) (fun c=>?_)
    · rw [if_pos c] at h
      refine X.skip ?_
      refine X.seq ?_
      refine X.block ?_
      refine X.seq ?_
      refine X.still ?_
      repeat (rw [giff] at h;obtain ⟨_,h⟩:=h)
      refine O.pu (U.rdI rfl rfl (.tmp rfl) (.tmp rfl) (by omega) (by omega)) ?_
      refine S.e 2 rfl rfl ?_
      refine S.A 3 rfl rfl ?_
      refine X.condN (.tmp rfl) (fun c=>?_) (fun c=>?_)
      · rw [if_neg c] at h
        refine S.A 2 rfl rfl ?_
        refine X.ret ?_
        cases h
        exact S.R rfl rfl rfl
      · rw [if_pos c] at h
        refine X.skip ?_
        refine X.still ?_
        refine S.e 2 rfl rfl ?_
        exact ⟨_,(by omega),_,_,_,_,rfl,rfl,rfl,rfl,h⟩
    · rw [if_neg c] at h
      refine X.exit (B.out ?_)
      refine S.A 2 rfl rfl ?_
      refine X.ret ?_
      cases h
      exact S.R rfl rfl rfl
noncomputable def c104:Code:=Tryz.f104.body.getD .skip
theorem fn104:FnOk Tryz.prog 104 Tryz.f104 c104:=⟨Tryz.func104,rfl,by kernel_rfl,by kernel_rfl,mixed⟩
theorem cmp_isNaN_int.cs {a0:Int} {r:Bool} (h:cmp_isNaN_int.f a0=some r):CS Tryz.prog 104 [.int .i64 a0] .no [.bool r]:=by
  unfold cmp_isNaN_int.f at h
  refine E.pure fn104 rfl ?_
  refine S.A 1 rfl rfl ?_
  refine S.A 4 rfl rfl ?_
  refine X.ret ?_
  cases h
  exact S.R rfl rfl rfl
noncomputable def c71:Code:=Tryz.f71.body.getD .skip
theorem fn71:FnOk Tryz.prog 71 Tryz.f71 c71:=⟨Tryz.func71,rfl,by kernel_rfl,by kernel_rfl,mixed⟩
theorem cmp_Compare_int.cs {a0:Int} {a1:Int} {r:Int} (h:cmp_Compare_int.f a0 a1=some r):CS Tryz.prog 71 [.int .i64 a0, .int .i64 a1] .no [.int .i64 r]:=by
  unfold cmp_Compare_int.f at h
  refine E.pure fn71 rfl ?_
  refine S.A 1 rfl rfl ?_
  refine S.O 1 rfl rfl ?_
  obtain ⟨q1,Hq1,h⟩:=Option.bind_eq_some_iff.1 h
  refine O.c (cmp_isNaN_int.cs Hq1) rfl rfl rfl ?_
  refine S.e 1 rfl rfl ?_
  refine S.O 1 rfl rfl ?_
  obtain ⟨q2,Hq2,h⟩:=Option.bind_eq_some_iff.1 h
  refine O.c (cmp_isNaN_int.cs Hq2) rfl rfl rfl ?_
  refine S.e 1 rfl rfl ?_
  refine X.seq ?_
  refine S.A 1 rfl rfl ?_
  refine X.cond (.tmp rfl) (fun c=>?_) (fun c=>?_)
  · rw [if_pos c] at h
    refine X.seq ?_
    refine S.A 1 rfl rfl ?_
    refine X.cond (.tmp rfl) (fun c=>?_) (fun c=>?_)
    · rw [if_pos c] at h
      refine S.A 1 rfl rfl ?_
      refine X.ret ?_
      cases h
      exact S.R rfl rfl rfl
    · rw [if_neg (bf c)] at h
      refine X.skip ?_
      refine S.A 1 rfl rfl ?_
      refine X.ret ?_
      cases h
      exact S.R rfl rfl rfl
  · rw [if_neg (bf c)] at h
    refine X.skip ?_
    refine X.seq ?_
    refine S.A 1 rfl rfl ?_
    refine X.cond (.tmp rfl) (fun c=>?_) (fun c=>?_)
    · rw [if_pos c] at h
      refine S.A 1 rfl rfl ?_
      refine X.ret ?_
      cases h
      exact S.R rfl rfl rfl
    · rw [if_neg (bf c)] at h
      refine X.skip ?_
      refine X.seq ?_
      refine S.A 3 rfl rfl ?_
      refine X.condP (.tmp rfl) (fun c=>?_) (fun c=>?_)
      · rw [if_pos c] at h
        refine S.A 1 rfl rfl ?_
        refine X.ret ?_
        cases h
        exact S.R rfl rfl rfl
      · rw [if_neg c] at h
        refine X.skip ?_
        refine X.seq ?_
        refine S.A 3 rfl rfl ?_
        refine X.condP (.tmp rfl) (fun c=>?_) (fun c=>?_)
        · rw [if_pos c] at h
          refine S.A 1 rfl rfl ?_
          refine X.ret ?_
          cases h
          exact S.R rfl rfl rfl
        · rw [if_neg c] at h
          refine X.skip ?_
          refine S.A 1 rfl rfl ?_
          refine X.ret ?_
          cases h
          exact S.R rfl rfl rfl
noncomputable def c26:Code:=Tryz.f26.body.getD .skip
theorem fn26:FnOk Tryz.prog 26 Tryz.f26 c26:=⟨Tryz.func26,rfl,by kernel_rfl,by kernel_rfl,mixed⟩
theorem date_Cmp.cs {k:Nat} {a0_0:Int} {a0_1:Int} {a0_2:Int} {a1_0:Int} {a1_1:Int} {a1_2:Int} {r:Int} (h:date_Cmp.f k a0_0 a0_1 a0_2 a1_0 a1_1 a1_2=some r):CS Tryz.prog 26 [.agg [.int .i64 a0_0, .int .i64 a0_1, .int .i64 a0_2], .agg [.int .i64 a1_0, .int .i64 a1_1, .int .i64 a1_2]] .no [.int .i64 r]:=by
  unfold date_Cmp.f at h
  refine E.pure fn26 rfl ?_
  refine S.A 3 rfl rfl ?_
  refine S.D 4 rfl rfl ?_
  obtain ⟨q1,Hq1,h⟩:=Option.bind_eq_some_iff.1 h
  refine D.c (cmp_Compare_int.cs Hq1) rfl rfl rfl ?_
  refine S.d 4 rfl rfl ?_
  obtain ⟨q2,Hq2,h⟩:=Option.bind_eq_some_iff.1 h
  refine D.c (cmp_Compare_int.cs Hq2) rfl rfl rfl ?_
  refine S.d 4 rfl rfl ?_
  obtain ⟨q3,Hq3,h⟩:=Option.bind_eq_some_iff.1 h
  refine D.c (cmp_Compare_int.cs Hq3) rfl rfl rfl ?_
  refine D.puE (v':=.os 20 (1) 0 _ true) (b':=⟨1, .own,_,_⟩) (U.litI rfl rfl (.cons (.tmp (v:=.int _ _) rfl) (.cons (.tmp (v:=.int _ _) rfl) (.cons (.tmp (v:=.int _ _) rfl) .nil))) rfl rfl) rfl rfl ?_
  obtain ⟨q4,Hq4,h⟩:=Option.bind_eq_some_iff.1 h
  refine D.pu (U.call (ss:=[20]) (.cons (.tmp (v:=.os _ _ _ _ _) rfl) .nil) (.cons (.osIf (by simp) rfl (Mode.live_ne rfl) rfl (by first|rfl|(simp only [List.length_set];done)|(simp only [List.length_drop,List.length_take,List.length_append,List.length_set] at *;omega))) .nil) (cmp_Or_int.cs Hq4) (.inr (.int)) (.int)) ?_
  refine S.d 1 rfl rfl ?_
  refine D.nil (by kernel_rfl) ?_
  refine X.ret ?_
  cases h
  exact S.R rfl rfl rfl
noncomputable def c39:Code:=Tryz.f39.body.getD .skip
theorem fn39:FnOk Tryz.prog 39 Tryz.f39 c39:=⟨Tryz.func39,rfl,by kernel_rfl,by kernel_rfl,mixed⟩
theorem count_Basis_good.cs {a0:Int} {r:Bool} (h:count_Basis_good.f a0=some r):CS Tryz.prog 39 [.int .i64 a0] .no [.bool r]:=by
  unfold count_Basis_good.f at h
  refine E.pure fn39 rfl ?_
  refine S.A 1 rfl rfl ?_
  refine S.O 3 rfl rfl ?_
  refine O.splitP (fun c=>?_) (fun c=>?_)
  · rw [if_pos c] at h
    refine S.e 4 rfl rfl ?_
    refine X.ret ?_
    cases h
    exact S.R rfl rfl rfl
  · rw [if_neg c] at h
    refine S.e 4 rfl rfl ?_
    refine X.ret ?_
    cases h
    exact S.R rfl rfl rfl
noncomputable def c46:Code:=Tryz.f46.body.getD .skip
theorem fn46:FnOk Tryz.prog 46 Tryz.f46 c46:=⟨Tryz.func46,rfl,by kernel_rfl,by kernel_rfl,mixed⟩
theorem whole_Int_Sign.cs {l0_0:List Int} {a0_1:Bool} {r:Int} (h:whole_Int_Sign.f l0_0 a0_1=some r):CS Tryz.prog 46 [.agg [.fi .u64 l0_0, .bool a0_1]] .no [.int .i64 r]:=by
  unfold whole_Int_Sign.f at h
  refine E.pure fn46 rfl ?_
  refine S.A 2 rfl rfl ?_
  refine X.seq ?_
  refine X.block ?_
  refine S.O 2 rfl rfl ?_
  obtain ⟨q1,Hq1,h⟩:=Option.bind_eq_some_iff.1 h
  refine O.c (nat_Nat_Zero.cs Hq1) rfl rfl rfl ?_
  refine S.e 1 rfl rfl ?_
  refine X.cond (.tmp rfl) (fun c=>?_) (fun c=>?_)
  · rw [if_pos c] at h
    refine S.A 1 rfl rfl ?_
    refine X.ret ?_
    cases h
    exact S.R rfl rfl rfl
  · rw [if_neg (bf c)] at h
    refine S.A 3 rfl rfl ?_
    refine X.cond (.tmp rfl) (fun c=>?_) (fun c=>?_)
    · rw [if_pos c] at h
      refine S.A 1 rfl rfl ?_
      refine X.ret ?_
      cases h
      exact S.R rfl rfl rfl
    · rw [if_neg (bf c)] at h
      refine X.skip ?_
      refine S.A 1 rfl rfl ?_
      refine X.ret ?_
      cases h
      exact S.R rfl rfl rfl
noncomputable def c51:Code:=Tryz.f51.body.getD .skip
theorem fn51:FnOk Tryz.prog 51 Tryz.f51 c51:=⟨Tryz.func51,rfl,by kernel_rfl,by kernel_rfl,mixed⟩
theorem whole_Int_Neg.cs {l0_0:List Int} {a0_1:Bool} {r:List Int×Bool} (h:whole_Int_Neg.f l0_0 a0_1=some r):CS Tryz.prog 51 [.agg [.fi .u64 l0_0, .bool a0_1]] .no [.agg [.fi .u64 r.1, .bool r.2]]:=by
  unfold whole_Int_Neg.f at h
  refine E.pure fn51 rfl ?_
  refine S.A 2 rfl rfl ?_
  refine S.O 5 rfl rfl ?_
  obtain ⟨q1,Hq1,h⟩:=Option.bind_eq_some_iff.1 h
  refine O.c (whole_Of.cs Hq1) rfl rfl rfl ?_
  refine S.e 1 rfl rfl ?_
  refine X.ret ?_
  cases h
  exact S.R rfl rfl rfl
noncomputable def c53:Code:=Tryz.f53.body.getD .skip
theorem fn53:FnOk Tryz.prog 53 Tryz.f53 c53:=⟨Tryz.func53,rfl,by kernel_rfl,by kernel_rfl,mixed⟩
theorem whole_Int_Abs.cs {l0_0:List Int} {a0_1:Bool} {r:List Int} (h:whole_Int_Abs.f l0_0 a0_1=some r):CS Tryz.prog 53 [.agg [.fi .u64 l0_0, .bool a0_1]] .no [.agg [.fi .u64 r]]:=by
  unfold whole_Int_Abs.f at h
  refine E.pure fn53 rfl ?_
  refine S.A 2 rfl rfl ?_
  refine S.A 3 rfl rfl ?_
  refine X.ret ?_
  cases h
  exact S.R rfl rfl rfl
noncomputable def c91:Code:=Tryz.f91.body.getD .skip
theorem fn91:FnOk Tryz.prog 91 Tryz.f91 c91:=⟨Tryz.func91,rfl,by kernel_rfl,by kernel_rfl,mixed⟩
theorem nat_Nat_Limbs.cs {l0_0:List Int} {r:List Int} (h:nat_Nat_Limbs.f l0_0=some r):CS Tryz.prog 91 [.agg [.fi .u64 l0_0]] ⟨none,some (.ints .u64 r,102)⟩ [.os FRS 1 0 (Row.ints .u64 r).len true]:=by
  unfold nat_Nat_Limbs.f at h
  refine E.fresh fn91 rfl trivial ?_
  refine S.O 1 rfl rfl ?_
  refine O.ef (U.nilOE (u:=1) (row:=.ints .u64 []) (e:=102) rfl rfl) ?_
  refine O.nil ?_
  refine S.O 2 rfl rfl ?_
  obtain ⟨q1,Hq1,h⟩:=Option.bind_eq_some_iff.1 h
  refine O.puE (v':=.os 5 (1) 0 _ true) (b':=⟨1, .own,_,_⟩) (U.callF (ss:=[]) (.cons (.tmp (v:=.fi _ _) rfl) .nil) (.cons (.cl .fi) .nil) (slices_Clone_uint64_uint64.cs Hq1)) rfl rfl ?_
  refine O.ef (U.takeE (u':=2) (.tmp rfl) rfl (ne_of_beq rfl) rfl) ?_
  refine O.nil ?_
  refine X.ret ?_
  cases h
  exact E.finF (s:=2) (.tmp (v:=.os _ _ _ _ _) rfl .nil) rfl
noncomputable def c149:Code:=Tryz.f149.body.getD .skip
theorem fn149:FnOk Tryz.prog 149 Tryz.f149 c149:=⟨Tryz.func149,rfl,by kernel_rfl,by kernel_rfl,mixed⟩
theorem cmp_isNaN_uint64.cs {a0:Int} {r:Bool} (h:cmp_isNaN_uint64.f a0=some r):CS Tryz.prog 149 [.int .u64 a0] .no [.bool r]:=by
  unfold cmp_isNaN_uint64.f at h
  refine E.pure fn149 rfl ?_
  refine S.A 1 rfl rfl ?_
  refine S.A 4 rfl rfl ?_
  refine X.ret ?_
  cases h
  exact S.R rfl rfl rfl
noncomputable def c139:Code:=Tryz.f139.body.getD .skip
theorem fn139:FnOk Tryz.prog 139 Tryz.f139 c139:=⟨Tryz.func139,rfl,by kernel_rfl,by kernel_rfl,mixed⟩
theorem cmp_Compare_uint64.cs {a0:Int} {a1:Int} {r:Int} (h:cmp_Compare_uint64.f a0 a1=some r):CS Tryz.prog 139 [.int .u64 a0, .int .u64 a1] .no [.int .i64 r]:=by
  unfold cmp_Compare_uint64.f at h
  refine E.pure fn139 rfl ?_
  refine S.A 1 rfl rfl ?_
  refine S.O 1 rfl rfl ?_
  obtain ⟨q1,Hq1,h⟩:=Option.bind_eq_some_iff.1 h
  refine O.c (cmp_isNaN_uint64.cs Hq1) rfl rfl rfl ?_
  refine S.e 1 rfl rfl ?_
  refine S.O 1 rfl rfl ?_
  obtain ⟨q2,Hq2,h⟩:=Option.bind_eq_some_iff.1 h
  refine O.c (cmp_isNaN_uint64.cs Hq2) rfl rfl rfl ?_
  refine S.e 1 rfl rfl ?_
  refine X.seq ?_
  refine S.A 1 rfl rfl ?_
  refine X.cond (.tmp rfl) (fun c=>?_) (fun c=>?_)
  · rw [if_pos c] at h
    refine X.seq ?_
    refine S.A 1 rfl rfl ?_
    refine X.cond (.tmp rfl) (fun c=>?_) (fun c=>?_)
    · rw [if_pos c] at h
      refine S.A 1 rfl rfl ?_
      refine X.ret ?_
      cases h
      exact S.R rfl rfl rfl
    · rw [if_neg (bf c)] at h
      refine X.skip ?_
      refine S.A 1 rfl rfl ?_
      refine X.ret ?_
      cases h
      exact S.R rfl rfl rfl
  · rw [if_neg (bf c)] at h
    refine X.skip ?_
    refine X.seq ?_
    refine S.A 1 rfl rfl ?_
    refine X.cond (.tmp rfl) (fun c=>?_) (fun c=>?_)
    · rw [if_pos c] at h
      refine S.A 1 rfl rfl ?_
      refine X.ret ?_
      cases h
      exact S.R rfl rfl rfl
    · rw [if_neg (bf c)] at h
      refine X.skip ?_
      refine X.seq ?_
      refine S.A 3 rfl rfl ?_
      refine X.condP (.tmp rfl) (fun c=>?_) (fun c=>?_)
      · rw [if_pos c] at h
        refine S.A 1 rfl rfl ?_
        refine X.ret ?_
        cases h
        exact S.R rfl rfl rfl
      · rw [if_neg c] at h
        refine X.skip ?_
        refine X.seq ?_
        refine S.A 3 rfl rfl ?_
        refine X.condP (.tmp rfl) (fun c=>?_) (fun c=>?_)
        · rw [if_pos c] at h
          refine S.A 1 rfl rfl ?_
          refine X.ret ?_
          cases h
          exact S.R rfl rfl rfl
        · rw [if_neg c] at h
          refine X.skip ?_
          refine S.A 1 rfl rfl ?_
          refine X.ret ?_
          cases h
          exact S.R rfl rfl rfl
noncomputable def c120:Code:=Tryz.f120.body.getD .skip
theorem fn120:FnOk Tryz.prog 120 Tryz.f120 c120:=⟨Tryz.func120,rfl,by kernel_rfl,by kernel_rfl,mixed⟩
theorem nat_Nat_Cmp.cs {k:Nat} {l0_0:List Int} {l1_0:List Int} {r:Int} (h:nat_Nat_Cmp.f k l0_0 l1_0=some r):CS Tryz.prog 120 [.agg [.fi .u64 l0_0], .agg [.fi .u64 l1_0]] .no [.int .i64 r]:=by
  unfold nat_Nat_Cmp.f at h
  refine E.pure fn120 rfl ?_
  refine S.A 3 rfl rfl ?_
  refine X.seq ?_
  refine S.O 2 rfl rfl ?_
  refine O.pu (Pu.lenI rfl (.tmp rfl)) ?_
  refine S.r 2 rfl rfl ?_
  refine O.pu (Pu.lenI rfl (.tmp rfl)) ?_
  obtain ⟨q1,Hq1,h⟩:=Option.bind_eq_some_iff.1 h
  refine O.c (cmp_Compare_int.cs Hq1) rfl rfl rfl ?_
  refine S.e 1 rfl rfl ?_
  refine S.A 2 rfl rfl ?_
  refine X.condN (.tmp rfl) (fun c=>?_) (fun c=>?_)
  · rw [if_neg c] at h
    refine S.A 2 rfl rfl ?_
    refine X.ret ?_
    cases h
    exact S.R rfl rfl rfl
  · rw [if_pos c] at h
    refine X.skip ?_
    refine X.seq ?_
    refine S.O 2 rfl rfl ?_
    refine O.pu (Pu.lenI rfl (.tmp rfl)) ?_
    refine S.e 2 rfl rfl ?_
    refine X.block ?_
    refine X.inv (fun k s=>∃ x6 x257000 x258000 u2 u3,s.t 6 = .int .i64 x6∧s.t 2 = .op 2 u2 0 0∧s.b 2=⟨u2, .own, .vals [.agg [.fi .u64 x257000]],45⟩∧s.t 3 = .op 3 u3 0 0∧s.b 3=⟨u3, .own, .vals [.agg [.fi .u64 x258000]],45⟩∧nat_Nat_Cmp.l0 k x6 x257000 x258000=some r) ?_ ?_ ⟨_,_,_,_,_,rfl,rfl,rfl,rfl,rfl,h⟩
    · rintro s ⟨_,_,_,_,_,_,_,_,_,_,h⟩;unfold nat_Nat_Cmp.l0 at h;cases h
    · rintro k1 s1 ⟨x6,x257000,x258000,u2,u3,e0,e1,e2,e3,e4,h⟩
      unfold nat_Nat_Cmp.l0 at h
      rw [St.fixT e0,St.fixT e1,St.fixB e2,St.fixT e3,St.fixB e4]
      refine X.seq ?_
      refine S.A 2 rfl rfl ?_
      refine X.condP (.tmp rfl) (fun c=>?_) (fun c=>?_)
      · rw [if_pos c] at h
        refine X.skip ?_
        refine X.seq ?_
        refine X.block ?_
        refine S.D 3 rfl rfl ?_
        repeat (rw [giff] at h;obtain ⟨_,h⟩:=h)
        refine D.pu (U.rdI rfl rfl (.tmp rfl) (.tmp rfl) (by omega) (by omega)) ?_
        refine S.d 4 rfl rfl ?_
        refine D.pu (U.rdI rfl rfl (.tmp rfl) (.tmp rfl) (by omega) (by omega)) ?_
        refine S.d 1 rfl rfl ?_
        obtain ⟨q2,Hq2,h⟩:=Option.bind_eq_some_iff.1 h
        refine D.c (cmp_Compare_uint64.cs Hq2) rfl rfl rfl ?_
        refine S.d 1 rfl rfl ?_
        refine D.nil (by kernel_rfl) ?_
        refine S.A 2 rfl rfl ?_
        refine X.condN (.tmp rfl) (fun c=>?_) (fun c=>?_)
        · rw [if_neg c] at h
          refine S.A 2 rfl rfl ?_
          refine X.ret ?_
          cases h
          exact S.R rfl rfl rfl
        · rw [if_pos c] at h
          refine X.skip ?_
          refine X.still ?_
          refine S.e 3 rfl rfl ?_
          exact ⟨_,(by omega),_,_,_,_,_,rfl,rfl,rfl,rfl,rfl,h⟩
      · rw [if_neg c] at h
        refine X.exit (B.out ?_)
        refine S.A 1 rfl rfl ?_
        refine X.ret ?_
        cases h
        exact S.R rfl rfl rfl
theorem bits_Len64.j0_e {k y0 y1 r}:(bits_Len64.j0 k y0 y1=some r) = ∃ j,k=j + 1∧bits_Len64.j0 (j + 1) y0 y1=some r:=propext ⟨fun h=>by cases k with|zero=>(unfold bits_Len64.j0 at h;cases h)|succ k=>exact ⟨k,rfl,h⟩,fun ⟨j,hj,h⟩=>by subst hj;exact h⟩
noncomputable def c115:Code:=Tryz.f115.body.getD .skip
theorem fn115:FnOk Tryz.prog 115 Tryz.f115 c115:=⟨Tryz.func115,rfl,by kernel_rfl,by kernel_rfl,mixed⟩
theorem bits_Len64.cs {k:Nat} {a0:Int} {r:Int} (h:bits_Len64.f k a0=some r):CS Tryz.prog 115 [.int .u64 a0] .no [.int .i64 r]:=by
  unfold bits_Len64.f at h
  refine E.pure fn115 rfl ?_
  refine S.A 1 rfl rfl ?_
  refine X.seq ?_
  refine S.A 2 rfl rfl ?_
  refine X.condP (.tmp rfl) (fun c=>?_) (fun c=>?_)
  · rw [if_pos c] at h
    refine S.O 1 rfl rfl ?_
    refine O.pu (Pu.bin (.tmp rfl) .int (U.shrC 4294967296 (by decide) (by decide))) ?_
    refine S.e 1 rfl rfl ?_
    refine X.still ?_
    refine S.e 1 rfl rfl ?_
    refine X.seq ?_
    refine S.A 2 rfl rfl ?_
    repeat (rw [bits_Len64.j0_e] at h;obtain ⟨k,_,h⟩:=h;unfold bits_Len64.j0 at h;try dsimp only at h)
    refine X.condP (.tmp rfl) (fun c=>?_) (fun c=>?_)
    · rw [if_pos c] at h
      refine S.O 1 rfl rfl ?_
      refine O.pu (Pu.bin (.tmp rfl) .int (U.shrC 65536 (by decide) (by decide))) ?_
      refine S.e 1 rfl rfl ?_
      refine X.still ?_
      refine S.e 3 rfl rfl ?_
      refine X.seq ?_
      refine S.A 2 rfl rfl ?_
      refine X.condP (.tmp rfl) (fun c=>?_) (fun c=>?_)
      · rw [if_pos c] at h
        refine S.O 1 rfl rfl ?_
        refine O.pu (Pu.bin (.tmp rfl) .int (U.shrC 256 (by decide) (by decide))) ?_
        refine S.e 1 rfl rfl ?_
        refine X.still ?_
        refine S.e 3 rfl rfl ?_
        refine S.O 3 rfl rfl ?_
        repeat (rw [giff] at h;obtain ⟨_,h⟩:=h)
        refine O.pu (U.indexS rfl .str (.tmp rfl) (by omega) (Int.lt_of_lt_of_le (b:=256) (by omega) (Int.le_of_eq (by kernel_rfl)))) ?_
        refine S.e 3 rfl rfl ?_
        refine X.ret ?_
        cases h
        exact S.R rfl rfl rfl
      · rw [if_neg c] at h
        refine X.skip ?_
        refine S.O 3 rfl rfl ?_
        repeat (rw [giff] at h;obtain ⟨_,h⟩:=h)
        refine O.pu (U.indexS rfl .str (.tmp rfl) (by omega) (Int.lt_of_lt_of_le (b:=256) (by omega) (Int.le_of_eq (by kernel_rfl)))) ?_
        refine S.e 3 rfl rfl ?_
        refine X.ret ?_
        cases h
        exact S.R rfl rfl rfl
    · rw [if_neg c] at h
      refine X.skip ?_
      refine X.seq ?_
      refine S.A 2 rfl rfl ?_
      refine X.condP (.tmp rfl) (fun c=>?_) (fun c=>?_)
      · rw [if_pos c] at h
        refine S.O 1 rfl rfl ?_
        refine O.pu (Pu.bin (.tmp rfl) .int (U.shrC 256 (by decide) (by decide))) ?_
        refine S.e 1 rfl rfl ?_
        refine X.still ?_
        refine S.e 3 rfl rfl ?_
        refine S.O 3 rfl rfl ?_
        repeat (rw [giff] at h;obtain ⟨_,h⟩:=h)
        refine O.pu (U.indexS rfl .str (.tmp rfl) (by omega) (Int.lt_of_lt_of_le (b:=256) (by omega) (Int.le_of_eq (by kernel_rfl)))) ?_
        refine S.e 3 rfl rfl ?_
        refine X.ret ?_
        cases h
        exact S.R rfl rfl rfl
      · rw [if_neg c] at h
        refine X.skip ?_
        refine S.O 3 rfl rfl ?_
        repeat (rw [giff] at h;obtain ⟨_,h⟩:=h)
        refine O.pu (U.indexS rfl .str (.tmp rfl) (by omega) (Int.lt_of_lt_of_le (b:=256) (by omega) (Int.le_of_eq (by kernel_rfl)))) ?_
        refine S.e 3 rfl rfl ?_
        refine X.ret ?_
        cases h
        exact S.R rfl rfl rfl
  · rw [if_neg c] at h
    refine X.skip ?_
    refine X.seq ?_
    refine S.A 2 rfl rfl ?_
    repeat (rw [bits_Len64.j0_e] at h;obtain ⟨k,_,h⟩:=h;unfold bits_Len64.j0 at h;try dsimp only at h)
    refine X.condP (.tmp rfl) (fun c=>?_) (fun c=>?_)
    · rw [if_pos c] at h
      refine S.O 1 rfl rfl ?_
      refine O.pu (Pu.bin (.tmp rfl) .int (U.shrC 65536 (by decide) (by decide))) ?_
      refine S.e 1 rfl rfl ?_
      refine X.still ?_
      refine S.e 3 rfl rfl ?_
      refine X.seq ?_
      refine S.A 2 rfl rfl ?_
      refine X.condP (.tmp rfl) (fun c=>?_) (fun c=>?_)
      · rw [if_pos c] at h
        refine S.O 1 rfl rfl ?_
        refine O.pu (Pu.bin (.tmp rfl) .int (U.shrC 256 (by decide) (by decide))) ?_
        refine S.e 1 rfl rfl ?_
        refine X.still ?_
        refine S.e 3 rfl rfl ?_
        refine S.O 3 rfl rfl ?_
        repeat (rw [giff] at h;obtain ⟨_,h⟩:=h)
        refine O.pu (U.indexS rfl .str (.tmp rfl) (by omega) (Int.lt_of_lt_of_le (b:=256) (by omega) (Int.le_of_eq (by kernel_rfl)))) ?_
        refine S.e 3 rfl rfl ?_
        refine X.ret ?_
        cases h
        exact S.R rfl rfl rfl
      · rw [if_neg c] at h
        refine X.skip ?_
        refine S.O 3 rfl rfl ?_
        repeat (rw [giff] at h;obtain ⟨_,h⟩:=h)
        refine O.pu (U.indexS rfl .str (.tmp rfl) (by omega) (Int.lt_of_lt_of_le (b:=256) (by omega) (Int.le_of_eq (by kernel_rfl)))) ?_
        refine S.e 3 rfl rfl ?_
        refine X.ret ?_
        cases h
        exact S.R rfl rfl rfl
    · rw [if_neg c] at h
      refine X.skip ?_
      refine X.seq ?_
      refine S.A 2 rfl rfl ?_
      refine X.condP (.tmp rfl) (fun c=>?_) (fun c=>?_)
      · rw [if_pos c] at h
        refine S.O 1 rfl rfl ?_
        refine O.pu (Pu.bin (.tmp rfl) .int (U.shrC 256 (by decide) (by decide))) ?_
        refine S.e 1 rfl rfl ?_
        refine X.still ?_
        refine S.e 3 rfl rfl ?_
        refine S.O 3 rfl rfl ?_
        repeat (rw [giff] at h;obtain ⟨_,h⟩:=h)
        refine O.pu (U.indexS rfl .str (.tmp rfl) (by omega) (Int.lt_of_lt_of_le (b:=256) (by omega) (Int.le_of_eq (by kernel_rfl)))) ?_
        refine S.e 3 rfl rfl ?_
        refine X.ret ?_
        cases h
        exact S.R rfl rfl rfl
      · rw [if_neg c] at h
        refine X.skip ?_
        refine S.O 3 rfl rfl ?_
        repeat (rw [giff] at h;obtain ⟨_,h⟩:=h)
        refine O.pu (U.indexS rfl .str (.tmp rfl) (by omega) (Int.lt_of_lt_of_le (b:=256) (by omega) (Int.le_of_eq (by kernel_rfl)))) ?_
        refine S.e 3 rfl rfl ?_
        refine X.ret ?_
        cases h
        exact S.R rfl rfl rfl
noncomputable def c141:Code:=Tryz.f141.body.getD .skip
theorem fn141:FnOk Tryz.prog 141 Tryz.f141 c141:=⟨Tryz.func141,rfl,by kernel_rfl,by kernel_rfl,mixed⟩
theorem bits_LeadingZeros64.cs {k:Nat} {a0:Int} {r:Int} (h:bits_LeadingZeros64.f k a0=some r):CS Tryz.prog 141 [.int .u64 a0] .no [.int .i64 r]:=by
  unfold bits_LeadingZeros64.f at h
  refine E.pure fn141 rfl ?_
  refine S.A 1 rfl rfl ?_
  refine S.O 1 rfl rfl ?_
  obtain ⟨q1,Hq1,h⟩:=Option.bind_eq_some_iff.1 h
  refine O.c (bits_Len64.cs Hq1) rfl rfl rfl ?_
  refine S.e 2 rfl rfl ?_
  refine X.ret ?_
  cases h
  exact S.R rfl rfl rfl
theorem bits_Div64.j1_e {k y0 y1 y2 y3 y4 y5 y6 y7 y8 y9 r}:(bits_Div64.j1 k y0 y1 y2 y3 y4 y5 y6 y7 y8 y9=some r) = ∃ j,k=j + 1∧bits_Div64.j1 (j + 1) y0 y1 y2 y3 y4 y5 y6 y7 y8 y9=some r:=propext ⟨fun h=>by cases k with|zero=>(unfold bits_Div64.j1 at h;cases h)|succ k=>exact ⟨k,rfl,h⟩,fun ⟨j,hj,h⟩=>by subst hj;exact h⟩
theorem bits_Div64.j2_e {k y0 y1 y2 y3 y4 y5 y6 y7 r}:(bits_Div64.j2 k y0 y1 y2 y3 y4 y5 y6 y7=some r) = ∃ j,k=j + 1∧bits_Div64.j2 (j + 1) y0 y1 y2 y3 y4 y5 y6 y7=some r:=propext ⟨fun h=>by cases k with|zero=>(unfold bits_Div64.j2 at h;cases h)|succ k=>exact ⟨k,rfl,h⟩,fun ⟨j,hj,h⟩=>by subst hj;exact h⟩
theorem bits_Div64.j4_e {k y0 y1 y2 y3 y4 y5 y6 y7 y8 y9 r}:(bits_Div64.j4 k y0 y1 y2 y3 y4 y5 y6 y7 y8 y9=some r) = ∃ j,k=j + 1∧bits_Div64.j4 (j + 1) y0 y1 y2 y3 y4 y5 y6 y7 y8 y9=some r:=propext ⟨fun h=>by cases k with|zero=>(unfold bits_Div64.j4 at h;cases h)|succ k=>exact ⟨k,rfl,h⟩,fun ⟨j,hj,h⟩=>by subst hj;exact h⟩
noncomputable def c140:Code:=Tryz.f140.body.getD .skip
theorem fn140:FnOk Tryz.prog 140 Tryz.f140 c140:=⟨Tryz.func140,rfl,by kernel_rfl,by kernel_rfl,mixed⟩
theorem bits_Div64.cs {k:Nat} {a0:Int} {a1:Int} {a2:Int} {r:Int×Int} (h:bits_Div64.f k a0 a1 a2=some r):CS Tryz.prog 140 [.int .u64 a0, .int .u64 a1, .int .u64 a2] .no [.int .u64 r.1, .int .u64 r.2]:=by
  unfold bits_Div64.f at h
  refine E.pure fn140 rfl ?_
  refine S.A 2 rfl rfl ?_
  refine X.seq ?_
  refine S.A 2 rfl rfl ?_
  repeat (rw [giffn] at h;obtain ⟨_,h⟩:=h)
  refine X.condE (.tmp rfl) (fun c=>?_) (fun c=>?_)
  · refine X.still ?_
    first|(cases h;done)|contradiction|omega
  · refine X.skip ?_
    refine X.seq ?_
    refine S.A 3 rfl rfl ?_
    refine X.condP (.tmp rfl) (fun c=>?_) (fun c=>?_)
    · refine X.still ?_
      first|(cases h;done)|contradiction|omega
    · refine X.skip ?_
      refine X.seq ?_
      refine S.A 2 rfl rfl ?_
      refine X.condE (.tmp rfl) (fun c=>?_) (fun c=>?_)
      · rw [if_pos c] at h
        refine S.D 2 rfl rfl ?_
        refine D.pu (Pu.bin (.tmp rfl) (.tmp rfl) (.quo (by omega))) ?_
        refine S.d 2 rfl rfl ?_
        refine D.pu (Pu.bin (.tmp rfl) (.tmp rfl) (.rem (by omega))) ?_
        refine S.d 2 rfl rfl ?_
        refine D.nil (by kernel_rfl) ?_
        refine X.ret ?_
        cases h
        exact S.R rfl rfl rfl
      · rw [if_neg c] at h
        refine X.skip ?_
        refine S.O 1 rfl rfl ?_
        obtain ⟨q1,Hq1,h⟩:=Option.bind_eq_some_iff.1 h
        refine O.c (bits_LeadingZeros64.cs Hq1) rfl rfl rfl ?_
        refine S.e 2 rfl rfl ?_
        refine S.O 2 rfl rfl ?_
        repeat first|(rw [giff] at h;obtain ⟨_,h⟩:=h)|(rw [giffn] at h;obtain ⟨_,h⟩:=h)
        refine O.pu (Pu.bin (.tmp rfl) (.tmp rfl) (U.shlW (by omega))) ?_
        refine S.e 1 rfl rfl ?_
        refine S.O 1 rfl rfl ?_
        refine O.pu (Pu.bin (.tmp rfl) .int (U.shrC 4294967296 (by decide) (by decide))) ?_
        refine S.e 1 rfl rfl ?_
        refine S.A 3 rfl rfl ?_
        refine S.O 2 rfl rfl ?_
        refine O.pu (Pu.bin (.tmp rfl) (.tmp rfl) (U.shlW (by omega))) ?_
        refine S.r 3 rfl rfl ?_
        refine O.pu (Pu.bin (.tmp rfl) (.tmp rfl) (U.shrW (by omega))) ?_
        refine S.e 2 rfl rfl ?_
        refine S.O 2 rfl rfl ?_
        refine O.pu (Pu.bin (.tmp rfl) (.tmp rfl) (U.shlW (by omega))) ?_
        refine S.e 1 rfl rfl ?_
        refine S.O 1 rfl rfl ?_
        refine O.pu (Pu.bin (.tmp rfl) .int (U.shrC 4294967296 (by decide) (by decide))) ?_
        refine S.e 1 rfl rfl ?_
        refine S.A 3 rfl rfl ?_
        refine S.O 2 rfl rfl ?_
        refine O.pu (Pu.bin (.tmp rfl) (.tmp rfl) (.quo (by omega))) ?_
        refine S.e 1 rfl rfl ?_
        refine S.A 6 rfl rfl ?_
        refine X.seq ?_
        refine X.block ?_
        refine X.inv (fun k s=>∃ x2 x8 x9 x10 x11 x13 x14 x15 x16,s.t 2 = .int .u64 x2∧s.t 8 = .int .u64 x8∧s.t 9 = .int .u64 x9∧s.t 10 = .int .u64 x10∧s.t 11 = .int .u64 x11∧s.t 13 = .int .u64 x13∧s.t 14 = .int .u64 x14∧s.t 15 = .int .u64 x15∧s.t 16 = .int .u64 x16∧bits_Div64.l0 k x2 x8 x9 x10 x11 x13 x14 x15 x16=some r) ?_ ?_ ⟨_,_,_,_,_,_,_,_,_,rfl,rfl,rfl,rfl,rfl,rfl,rfl,rfl,rfl,h⟩
        · rintro s ⟨_,_,_,_,_,_,_,_,_,_,_,_,_,_,_,_,_,_,h⟩;unfold bits_Div64.l0 at h;cases h
        · rintro k1 s1 ⟨x2,x8,x9,x10,x11,x13,x14,x15,x16,e0,e1,e2,e3,e4,e5,e6,e7,e8,h⟩
          unfold bits_Div64.l0 at h
          rw [St.fixT e0,St.fixT e1,St.fixT e2,St.fixT e3,St.fixT e4,St.fixT e5,St.fixT e6,St.fixT e7,St.fixT e8]
          refine X.seq ?_
          refine S.O 3 rfl rfl ?_
          refine O.splitP (fun c=>?_) (fun c=>?_)
          · rw [if_pos c] at h
            refine S.e 9 rfl rfl ?_
            repeat (rw [bits_Div64.j1_e] at h;obtain ⟨k,_,h⟩:=h;unfold bits_Div64.j1 at h;try dsimp only at h)
            rw [if_pos rfl] at h
            refine X.condT (.tmp rfl) ?_
            refine X.skip ?_
            refine X.block ?_
            refine S.A 3 rfl rfl ?_
            refine S.A 4 rfl rfl ?_
            refine S.A 2 rfl rfl ?_
            refine X.condP (.tmp rfl) (fun c=>?_) (fun c=>?_)
            · rw [if_pos c] at h
              refine X.exit (B.past rfl (B.out ?_))
              refine S.A 9 rfl rfl ?_
              refine S.O 2 rfl rfl ?_
              repeat first|(rw [giffn] at h;obtain ⟨_,h⟩:=h)|(rw [bits_Div64.j2_e] at h;obtain ⟨k,_,h⟩:=h;unfold bits_Div64.j2 at h;try dsimp only at h)
              refine O.pu (Pu.bin (.tmp rfl) (.tmp rfl) (.quo (by omega))) ?_
              refine S.e 1 rfl rfl ?_
              refine S.A 6 rfl rfl ?_
              refine X.seq ?_
              refine X.block ?_
              refine X.inv (fun k s=>k≤k1∧∃ x2 x8 x9 x10 x14 x15 x16 x17 x18,s.t 2 = .int .u64 x2∧s.t 8 = .int .u64 x8∧s.t 9 = .int .u64 x9∧s.t 10 = .int .u64 x10∧s.t 14 = .int .u64 x14∧s.t 15 = .int .u64 x15∧s.t 16 = .int .u64 x16∧s.t 17 = .int .u64 x17∧s.t 18 = .int .u64 x18∧bits_Div64.l1 k x2 x8 x9 x10 x14 x15 x16 x17 x18=some r) ?_ ?_ ⟨(by omega),_,_,_,_,_,_,_,_,_,rfl,rfl,rfl,rfl,rfl,rfl,rfl,rfl,rfl,h⟩
              · rintro s ⟨_,_,_,_,_,_,_,_,_,_,_,_,_,_,_,_,_,_,_,h⟩;unfold bits_Div64.l1 at h;cases h
              · rintro k2 s2 ⟨kl2,x2,x8,x9,x10,x14,x15,x16,x17,x18,e0,e1,e2,e3,e4,e5,e6,e7,e8,h⟩
                unfold bits_Div64.l1 at h
                rw [St.fixT e0,St.fixT e1,St.fixT e2,St.fixT e3,St.fixT e4,St.fixT e5,St.fixT e6,St.fixT e7,St.fixT e8]
                refine X.seq ?_
                refine S.O 3 rfl rfl ?_
                refine O.splitP (fun c=>?_) (fun c=>?_)
                · rw [if_pos c] at h
                  refine S.e 9 rfl rfl ?_
                  repeat (rw [bits_Div64.j4_e] at h;obtain ⟨k,_,h⟩:=h;unfold bits_Div64.j4 at h;try dsimp only at h)
                  rw [if_pos rfl] at h
                  refine X.condT (.tmp rfl) ?_
                  refine X.skip ?_
                  refine X.block ?_
                  refine S.A 3 rfl rfl ?_
                  refine S.A 4 rfl rfl ?_
                  refine S.A 2 rfl rfl ?_
                  refine X.condP (.tmp rfl) (fun c=>?_) (fun c=>?_)
                  · rw [if_pos c] at h
                    refine X.exit (B.past rfl (B.out ?_))
                    refine S.O 13 rfl rfl ?_
                    repeat (rw [giff] at h;obtain ⟨_,h⟩:=h)
                    refine O.pu (Pu.bin (.tmp rfl) (.tmp rfl) (U.shrW (by omega))) ?_
                    refine S.e 2 rfl rfl ?_
                    refine X.ret ?_
                    cases h
                    exact S.R rfl rfl rfl
                  · rw [if_neg c] at h
                    refine X.skip ?_
                    exact ⟨_,(by omega),(by omega),_,_,_,_,_,_,_,_,_,rfl,rfl,rfl,rfl,rfl,rfl,rfl,rfl,rfl,h⟩
                · rw [if_neg c] at h
                  refine S.e 9 rfl rfl ?_
                  repeat (rw [bits_Div64.j4_e] at h;obtain ⟨k,_,h⟩:=h;unfold bits_Div64.j4 at h;try dsimp only at h)
                  refine X.condP (.tmp rfl) (fun c=>?_) (fun c=>?_)
                  · rw [if_pos (decide_eq_true c)] at h
                    refine X.skip ?_
                    refine X.block ?_
                    refine S.A 3 rfl rfl ?_
                    refine S.A 4 rfl rfl ?_
                    refine S.A 2 rfl rfl ?_
                    refine X.condP (.tmp rfl) (fun c=>?_) (fun c=>?_)
                    · rw [if_pos c] at h
                      refine X.exit (B.past rfl (B.out ?_))
                      refine S.O 13 rfl rfl ?_
                      repeat (rw [giff] at h;obtain ⟨_,h⟩:=h)
                      refine O.pu (Pu.bin (.tmp rfl) (.tmp rfl) (U.shrW (by omega))) ?_
                      refine S.e 2 rfl rfl ?_
                      refine X.ret ?_
                      cases h
                      exact S.R rfl rfl rfl
                    · rw [if_neg c] at h
                      refine X.skip ?_
                      exact ⟨_,(by omega),(by omega),_,_,_,_,_,_,_,_,_,rfl,rfl,rfl,rfl,rfl,rfl,rfl,rfl,rfl,h⟩
                  · rw [if_neg (nd c)] at h
                    refine X.exit (B.out ?_)
                    refine S.O 13 rfl rfl ?_
                    repeat (rw [giff] at h;obtain ⟨_,h⟩:=h)
                    refine O.pu (Pu.bin (.tmp rfl) (.tmp rfl) (U.shrW (by omega))) ?_
                    refine S.e 2 rfl rfl ?_
                    refine X.ret ?_
                    cases h
                    exact S.R rfl rfl rfl
            · rw [if_neg c] at h
              refine X.skip ?_
              exact ⟨_,(by omega),_,_,_,_,_,_,_,_,_,rfl,rfl,rfl,rfl,rfl,rfl,rfl,rfl,rfl,h⟩
          · rw [if_neg c] at h
            refine S.e 9 rfl rfl ?_
            repeat (rw [bits_Div64.j1_e] at h;obtain ⟨k,_,h⟩:=h;unfold bits_Div64.j1 at h;try dsimp only at h)
            refine X.condP (.tmp rfl) (fun c=>?_) (fun c=>?_)
            · rw [if_pos (decide_eq_true c)] at h
              refine X.skip ?_
              refine X.block ?_
              refine S.A 3 rfl rfl ?_
              refine S.A 4 rfl rfl ?_
              refine S.A 2 rfl rfl ?_
              refine X.condP (.tmp rfl) (fun c=>?_) (fun c=>?_)
              · rw [if_pos c] at h
                refine X.exit (B.past rfl (B.out ?_))
                refine S.A 9 rfl rfl ?_
                refine S.O 2 rfl rfl ?_
                repeat first|(rw [giffn] at h;obtain ⟨_,h⟩:=h)|(rw [bits_Div64.j2_e] at h;obtain ⟨k,_,h⟩:=h;unfold bits_Div64.j2 at h;try dsimp only at h)
                refine O.pu (Pu.bin (.tmp rfl) (.tmp rfl) (.quo (by omega))) ?_
                refine S.e 1 rfl rfl ?_
                refine S.A 6 rfl rfl ?_
                refine X.seq ?_
                refine X.block ?_
                refine X.inv (fun k s=>k≤k1∧∃ x2 x8 x9 x10 x14 x15 x16 x17 x18,s.t 2 = .int .u64 x2∧s.t 8 = .int .u64 x8∧s.t 9 = .int .u64 x9∧s.t 10 = .int .u64 x10∧s.t 14 = .int .u64 x14∧s.t 15 = .int .u64 x15∧s.t 16 = .int .u64 x16∧s.t 17 = .int .u64 x17∧s.t 18 = .int .u64 x18∧bits_Div64.l1 k x2 x8 x9 x10 x14 x15 x16 x17 x18=some r) ?_ ?_ ⟨(by omega),_,_,_,_,_,_,_,_,_,rfl,rfl,rfl,rfl,rfl,rfl,rfl,rfl,rfl,h⟩
                · rintro s ⟨_,_,_,_,_,_,_,_,_,_,_,_,_,_,_,_,_,_,_,h⟩;unfold bits_Div64.l1 at h;cases h
                · rintro k2 s2 ⟨kl2,x2,x8,x9,x10,x14,x15,x16,x17,x18,e0,e1,e2,e3,e4,e5,e6,e7,e8,h⟩
                  unfold bits_Div64.l1 at h
                  rw [St.fixT e0,St.fixT e1,St.fixT e2,St.fixT e3,St.fixT e4,St.fixT e5,St.fixT e6,St.fixT e7,St.fixT e8]
                  refine X.seq ?_
                  refine S.O 3 rfl rfl ?_
                  refine O.splitP (fun c=>?_) (fun c=>?_)
                  · rw [if_pos c] at h
                    refine S.e 9 rfl rfl ?_
                    repeat (rw [bits_Div64.j4_e] at h;obtain ⟨k,_,h⟩:=h;unfold bits_Div64.j4 at h;try dsimp only at h)
                    rw [if_pos rfl] at h
                    refine X.condT (.tmp rfl) ?_
                    refine X.skip ?_
                    refine X.block ?_
                    refine S.A 3 rfl rfl ?_
                    refine S.A 4 rfl rfl ?_
                    refine S.A 2 rfl rfl ?_
                    refine X.condP (.tmp rfl) (fun c=>?_) (fun c=>?_)
                    · rw [if_pos c] at h
                      refine X.exit (B.past rfl (B.out ?_))
                      refine S.O 13 rfl rfl ?_
                      repeat (rw [giff] at h;obtain ⟨_,h⟩:=h)
                      refine O.pu (Pu.bin (.tmp rfl) (.tmp rfl) (U.shrW (by omega))) ?_
                      refine S.e 2 rfl rfl ?_
                      refine X.ret ?_
                      cases h
                      exact S.R rfl rfl rfl
                    · rw [if_neg c] at h
                      refine X.skip ?_
                      exact ⟨_,(by omega),(by omega),_,_,_,_,_,_,_,_,_,rfl,rfl,rfl,rfl,rfl,rfl,rfl,rfl,rfl,h⟩
                  · rw [if_neg c] at h
                    refine S.e 9 rfl rfl ?_
                    repeat (rw [bits_Div64.j4_e] at h;obtain ⟨k,_,h⟩:=h;unfold bits_Div64.j4 at h;try dsimp only at h)
                    refine X.condP (.tmp rfl) (fun c=>?_) (fun c=>?_)
                    · rw [if_pos (decide_eq_true c)] at h
                      refine X.skip ?_
                      refine X.block ?_
                      refine S.A 3 rfl rfl ?_
                      refine S.A 4 rfl rfl ?_
                      refine S.A 2 rfl rfl ?_
                      refine X.condP (.tmp rfl) (fun c=>?_) (fun c=>?_)
                      · rw [if_pos c] at h
                        refine X.exit (B.past rfl (B.out ?_))
                        refine S.O 13 rfl rfl ?_
                        repeat (rw [giff] at h;obtain ⟨_,h⟩:=h)
                        refine O.pu (Pu.bin (.tmp rfl) (.tmp rfl) (U.shrW (by omega))) ?_
                        refine S.e 2 rfl rfl ?_
                        refine X.ret ?_
                        cases h
                        exact S.R rfl rfl rfl
                      · rw [if_neg c] at h
                        refine X.skip ?_
                        exact ⟨_,(by omega),(by omega),_,_,_,_,_,_,_,_,_,rfl,rfl,rfl,rfl,rfl,rfl,rfl,rfl,rfl,h⟩
                    · rw [if_neg (nd c)] at h
                      refine X.exit (B.out ?_)
                      refine S.O 13 rfl rfl ?_
                      repeat (rw [giff] at h;obtain ⟨_,h⟩:=h)
                      refine O.pu (Pu.bin (.tmp rfl) (.tmp rfl) (U.shrW (by omega))) ?_
                      refine S.e 2 rfl rfl ?_
                      refine X.ret ?_
                      cases h
                      exact S.R rfl rfl rfl
              · rw [if_neg c] at h
                refine X.skip ?_
                exact ⟨_,(by omega),_,_,_,_,_,_,_,_,_,rfl,rfl,rfl,rfl,rfl,rfl,rfl,rfl,rfl,h⟩
            · rw [if_neg (nd c)] at h
              refine X.exit (B.out ?_)
              refine S.A 9 rfl rfl ?_
              refine S.O 2 rfl rfl ?_
              repeat first|(rw [giffn] at h;obtain ⟨_,h⟩:=h)|(rw [bits_Div64.j2_e] at h;obtain ⟨k,_,h⟩:=h;unfold bits_Div64.j2 at h;try dsimp only at h)
              refine O.pu (Pu.bin (.tmp rfl) (.tmp rfl) (.quo (by omega))) ?_
              refine S.e 1 rfl rfl ?_
              refine S.A 6 rfl rfl ?_
              refine X.seq ?_
              refine X.block ?_
              refine X.inv (fun k s=>k≤k1∧∃ x2 x8 x9 x10 x14 x15 x16 x17 x18,s.t 2 = .int .u64 x2∧s.t 8 = .int .u64 x8∧s.t 9 = .int .u64 x9∧s.t 10 = .int .u64 x10∧s.t 14 = .int .u64 x14∧s.t 15 = .int .u64 x15∧s.t 16 = .int .u64 x16∧s.t 17 = .int .u64 x17∧s.t 18 = .int .u64 x18∧bits_Div64.l1 k x2 x8 x9 x10 x14 x15 x16 x17 x18=some r) ?_ ?_ ⟨(by omega),_,_,_,_,_,_,_,_,_,rfl,rfl,rfl,rfl,rfl,rfl,rfl,rfl,rfl,h⟩
              · rintro s ⟨_,_,_,_,_,_,_,_,_,_,_,_,_,_,_,_,_,_,_,h⟩;unfold bits_Div64.l1 at h;cases h
              · rintro k2 s2 ⟨kl2,x2,x8,x9,x10,x14,x15,x16,x17,x18,e0,e1,e2,e3,e4,e5,e6,e7,e8,h⟩
                unfold bits_Div64.l1 at h
                rw [St.fixT e0,St.fixT e1,St.fixT e2,St.fixT e3,St.fixT e4,St.fixT e5,St.fixT e6,St.fixT e7,St.fixT e8]
                refine X.seq ?_
                refine S.O 3 rfl rfl ?_
                refine O.splitP (fun c=>?_) (fun c=>?_)
                · rw [if_pos c] at h
                  refine S.e 9 rfl rfl ?_
                  repeat (rw [bits_Div64.j4_e] at h;obtain ⟨k,_,h⟩:=h;unfold bits_Div64.j4 at h;try dsimp only at h)
                  rw [if_pos rfl] at h
                  refine X.condT (.tmp rfl) ?_
                  refine X.skip ?_
                  refine X.block ?_
                  refine S.A 3 rfl rfl ?_
                  refine S.A 4 rfl rfl ?_
                  refine S.A 2 rfl rfl ?_
                  refine X.condP (.tmp rfl) (fun c=>?_) (fun c=>?_)
                  · rw [if_pos c] at h
                    refine X.exit (B.past rfl (B.out ?_))
                    refine S.O 13 rfl rfl ?_
                    repeat (rw [giff] at h;obtain ⟨_,h⟩:=h)
                    refine O.pu (Pu.bin (.tmp rfl) (.tmp rfl) (U.shrW (by omega))) ?_
                    refine S.e 2 rfl rfl ?_
                    refine X.ret ?_
                    cases h
                    exact S.R rfl rfl rfl
                  · rw [if_neg c] at h
                    refine X.skip ?_
                    exact ⟨_,(by omega),(by omega),_,_,_,_,_,_,_,_,_,rfl,rfl,rfl,rfl,rfl,rfl,rfl,rfl,rfl,h⟩
                · rw [if_neg c] at h
                  refine S.e 9 rfl rfl ?_
                  repeat (rw [bits_Div64.j4_e] at h;obtain ⟨k,_,h⟩:=h;unfold bits_Div64.j4 at h;try dsimp only at h)
                  refine X.condP (.tmp rfl) (fun c=>?_) (fun c=>?_)
                  · rw [if_pos (decide_eq_true c)] at h
                    refine X.skip ?_
                    refine X.block ?_
                    refine S.A 3 rfl rfl ?_
                    refine S.A 4 rfl rfl ?_
                    refine S.A 2 rfl rfl ?_
                    refine X.condP (.tmp rfl) (fun c=>?_) (fun c=>?_)
                    · rw [if_pos c] at h
                      refine X.exit (B.past rfl (B.out ?_))
                      refine S.O 13 rfl rfl ?_
                      repeat (rw [giff] at h;obtain ⟨_,h⟩:=h)
                      refine O.pu (Pu.bin (.tmp rfl) (.tmp rfl) (U.shrW (by omega))) ?_
                      refine S.e 2 rfl rfl ?_
                      refine X.ret ?_
                      cases h
                      exact S.R rfl rfl rfl
                    · rw [if_neg c] at h
                      refine X.skip ?_
                      exact ⟨_,(by omega),(by omega),_,_,_,_,_,_,_,_,_,rfl,rfl,rfl,rfl,rfl,rfl,rfl,rfl,rfl,h⟩
                  · rw [if_neg (nd c)] at h
                    refine X.exit (B.out ?_)
                    refine S.O 13 rfl rfl ?_
                    repeat (rw [giff] at h;obtain ⟨_,h⟩:=h)
                    refine O.pu (Pu.bin (.tmp rfl) (.tmp rfl) (U.shrW (by omega))) ?_
                    refine S.e 2 rfl rfl ?_
                    refine X.ret ?_
                    cases h
                    exact S.R rfl rfl rfl
noncomputable def c121:Code:=Tryz.f121.body.getD .skip
theorem fn121:FnOk Tryz.prog 121 Tryz.f121 c121:=⟨Tryz.func121,rfl,by kernel_rfl,by kernel_rfl,mixed⟩
theorem quot_by.cs {k:Nat} {l0:List Int} {a1:Int} {r:List Int×Int} (h:quot_by.f k l0 a1=some r):CS Tryz.prog 121 [.fi .u64 l0, .int .u64 a1] .no [.fi .u64 r.1, .int .u64 r.2]:=by
  unfold quot_by.f at h
  refine E.pure fn121 rfl ?_
  refine X.seq ?_
  refine X.still ?_
  refine O.pu (Pu.assign (.nilI (k:=.u64))) ?_
  refine S.e 1 rfl rfl ?_
  refine S.O 1 rfl rfl ?_
  refine O.pu (Pu.lenI rfl (.tmp rfl)) ?_
  repeat (rw [giff] at h;obtain ⟨_,h⟩:=h)
  refine O.puE (v':=.os 11 (1) 0 _ true) (b':=⟨1, .own,_,_⟩) (U.makeI rfl rfl (.tmp rfl) (.tmp rfl) (by omega) (by omega) rfl (by omega)) rfl rfl ?_
  refine S.e 1 rfl rfl ?_
  refine S.A 1 rfl rfl ?_
  refine X.seq ?_
  refine S.O 1 rfl rfl ?_
  refine O.pu (Pu.lenI rfl (.tmp rfl)) ?_
  refine S.e 2 rfl rfl ?_
  refine X.block ?_
  refine X.inv (fun k s=>∃ x0 x1 x6 x7 x8 n6 u11,s.t 0 = .fi .u64 x0∧s.t 1 = .int .u64 x1∧s.b 11=⟨u11, .own, .ints .u64 x6,102⟩∧s.t 6 = .os 11 u11 0 n6 true∧x6.length=n6∧s.t 7 = .int .u64 x7∧s.t 8 = .int .i64 x8∧quot_by.l0 k x0 x1 x6 x7 x8=some r) ?_ ?_ ⟨_,_,_,_,_,_,_,rfl,rfl,rfl,rfl,rfl,rfl,rfl,h⟩
  · rintro s ⟨_,_,_,_,_,_,_,_,_,_,_,_,_,_,h⟩;unfold quot_by.l0 at h;cases h
  · rintro k1 s1 ⟨x0,x1,x6,x7,x8,n6,u11,e0,e1,e2,e3,rfl,e5,e6,h⟩
    unfold quot_by.l0 at h
    rw [St.fixT e0,St.fixT e1,St.fixB e2,St.fixT e3,St.fixT e5,St.fixT e6]
    refine X.seq ?_
    refine S.A 2 rfl rfl ?_
    refine X.condP (.tmp rfl) (fun c=>?_) (fun c=>?_)
    · rw [if_pos c] at h
      refine X.skip ?_
      refine X.seq ?_
      refine X.block ?_
      refine X.still ?_
      refine S.r 5 rfl rfl ?_
      repeat (rw [giff] at h;obtain ⟨_,h⟩:=h)
      refine O.pu (U.rdI rfl rfl (.tmp rfl) (.tmp rfl) (by omega) (by omega)) ?_
      refine S.r 2 rfl rfl ?_
      obtain ⟨q1,Hq1,h⟩:=Option.bind_eq_some_iff.1 h
      refine O.c (bits_Div64.cs Hq1) rfl rfl rfl ?_
      refine S.r 3 rfl rfl ?_
      repeat (rw [giff] at h;obtain ⟨_,h⟩:=h)
      refine O.pu (U.indexO0 rfl (.tmp rfl) rfl rfl (.tmp rfl) (by first|omega|(simp only [List.length_set] at *;omega)) (by first|omega|(simp only [List.length_set] at *;omega)) rfl rfl) ?_
      refine O.ef0 (U.storeE (.tmp rfl) rfl rfl (.tmp (v:=.int _ _) rfl) rfl rfl (.whole (notBad_ne rfl) rfl) .ints) ?_
      refine S.e 1 rfl rfl ?_
      refine X.still ?_
      refine S.e 3 rfl rfl ?_
      exact ⟨_,(by omega),_,_,_,_,_,_,_,rfl,rfl,rfl,rfl,(by first|rfl|(simp only [List.length_set];done)|(simp only [List.length_drop,List.length_take,List.length_append,List.length_set] at *;omega)),rfl,rfl,h⟩
    · rw [if_neg c] at h
      refine X.exit (B.out ?_)
      refine S.A 4 rfl rfl ?_
      refine X.ret ?_
      cases h
      exact E.fin [11] (.tmp (v:=.os _ _ _ _ _) rfl (.tmp (v:=.int _ _) rfl .nil)) (.cons (.osIf (by simp) rfl (Mode.live_ne rfl) rfl (by first|rfl|(simp only [List.length_set];done)|(simp only [List.length_drop,List.length_take,List.length_append,List.length_set] at *;omega))) (.cons (.cl .int) .nil))
noncomputable def c142:Code:=Tryz.f142.body.getD .skip
theorem fn142:FnOk Tryz.prog 142 Tryz.f142 c142:=⟨Tryz.func142,rfl,by kernel_rfl,by kernel_rfl,mixed⟩
theorem quot_moved.cs {k:Nat} {l0:List Int} {a1:Int} {r:List Int} (h:quot_moved.f k l0 a1=some r):CS Tryz.prog 142 [.fi .u64 l0, .int .u64 a1] ⟨none,some (.ints .u64 r,102)⟩ [.os FRS 1 0 (Row.ints .u64 r).len true]:=by
  unfold quot_moved.f at h
  refine E.fresh fn142 rfl trivial ?_
  refine X.seq ?_
  refine X.still ?_
  refine O.ef (U.nilOE (u:=1) (row:=.ints .u64 []) (e:=102) rfl rfl) ?_
  refine O.nil ?_
  refine S.O 1 rfl rfl ?_
  refine O.pu (Pu.lenI rfl (.tmp rfl)) ?_
  refine S.r 1 rfl rfl ?_
  repeat (rw [giff] at h;obtain ⟨_,h⟩:=h)
  refine O.puE (v':=.os 11 (1) 0 _ true) (b':=⟨1, .own,_,_⟩) (U.makeI rfl rfl (.tmp rfl) (.tmp rfl) (by omega) (by omega) rfl (by omega)) rfl rfl ?_
  refine S.e 1 rfl rfl ?_
  refine X.seq ?_
  refine S.O 1 rfl rfl ?_
  refine O.pu (Pu.lenI rfl (.tmp rfl)) ?_
  refine S.e 1 rfl rfl ?_
  refine X.block ?_
  refine X.inv (fun k s=>∃ x1 x5 x12 x13 x14 n5 u11,s.t 1 = .int .u64 x1∧s.b 11=⟨u11, .own, .ints .u64 x5,102⟩∧s.t 5 = .os 11 u11 0 n5 true∧x5.length=n5∧s.t 12 = .fi .u64 x12∧s.t 13 = .int .i64 x13∧s.t 14 = .int .i64 x14∧quot_moved.l0 k x1 x5 x12 x13 x14=some r) ?_ ?_ ⟨_,_,_,_,_,_,_,rfl,rfl,rfl,rfl,rfl,rfl,rfl,h⟩
  · rintro s ⟨_,_,_,_,_,_,_,_,_,_,_,_,_,_,h⟩;unfold quot_moved.l0 at h;cases h
  · rintro k1 s1 ⟨x1,x5,x12,x13,x14,n5,u11,e0,e1,e2,rfl,e4,e5,e6,h⟩
    unfold quot_moved.l0 at h
    rw [St.fixT e0,St.fixB e1,St.fixT e2,St.fixT e4,St.fixT e5,St.fixT e6]
    refine S.A 1 rfl rfl ?_
    refine X.seq ?_
    refine X.condP (.tmp rfl) (fun c=>?_) (fun c=>?_)
    · rw [if_pos c] at h
      refine X.skip ?_
      refine X.seq ?_
      refine X.block ?_
      refine S.O 1 rfl rfl ?_
      repeat (rw [giff] at h;obtain ⟨_,h⟩:=h)
      refine O.pu (U.rdI rfl rfl (.tmp rfl) (.tmp rfl) (by omega) (by omega)) ?_
      refine S.e 3 rfl rfl ?_
      refine S.O 2 rfl rfl ?_
      refine O.pu (U.indexO0 rfl (.tmp rfl) rfl rfl (.tmp rfl) (by first|omega|(simp only [List.length_set] at *;omega)) (by first|omega|(simp only [List.length_set] at *;omega)) rfl rfl) ?_
      refine O.pu (U.rdO (.tmp rfl) rfl rfl rfl rfl rfl) ?_
      refine S.r 2 rfl rfl ?_
      refine O.pu (Pu.bin (.tmp rfl) (.tmp rfl) (U.shlW (by omega))) ?_
      refine S.r 1 rfl rfl ?_
      refine O.pu (U.indexO0 rfl (.tmp rfl) rfl rfl (.tmp rfl) (by first|omega|(simp only [List.length_set] at *;omega)) (by first|omega|(simp only [List.length_set] at *;omega)) rfl rfl) ?_
      refine O.ef0 (U.storeE (.tmp rfl) rfl rfl (.tmp (v:=.int _ _) rfl) rfl rfl (.whole (notBad_ne rfl) rfl) .ints) ?_
      refine O.nil ?_
      refine X.still ?_
      refine S.r 6 rfl rfl ?_
      refine O.pu (Pu.bin (.tmp rfl) (.tmp rfl) (U.shrW (by omega))) ?_
      refine O.pu (U.indexO0 rfl (.tmp rfl) rfl rfl (.tmp rfl) (by first|omega|(simp only [List.length_set] at *;omega)) (by first|omega|(simp only [List.length_set] at *;omega)) rfl rfl) ?_
      refine O.ef0 (U.storeE (.tmp rfl) rfl rfl (.tmp (v:=.int _ _) rfl) rfl rfl (.whole (notBad_ne rfl) rfl) .ints) ?_
      refine O.nil ?_
      refine X.still ?_
      refine S.e 2 rfl rfl ?_
      exact ⟨_,(by omega),_,_,_,_,_,_,_,rfl,rfl,rfl,(by first|rfl|(simp only [List.length_set];done)|(simp only [List.length_drop,List.length_take,List.length_append,List.length_set] at *;omega)),rfl,rfl,rfl,h⟩
    · rw [if_neg c] at h
      refine X.exit (B.out ?_)
      refine S.O 1 rfl rfl ?_
      refine O.ef (U.takeE (u':=(s1.b 4).ver + 1) (.tmp rfl) rfl (ne_of_beq rfl) rfl) ?_
      refine O.nil ?_
      refine X.ret ?_
      cases h
      exact E.finF (s:=4) (.tmp (v:=.os _ _ _ _ _) rfl .nil) rfl
theorem quot_guess.j1_e {k y0 y1 y2 y3 y4 y5 r}:(quot_guess.j1 k y0 y1 y2 y3 y4 y5=some r) = ∃ j,k=j + 1∧quot_guess.j1 (j + 1) y0 y1 y2 y3 y4 y5=some r:=propext ⟨fun h=>by cases k with|zero=>(unfold quot_guess.j1 at h;cases h)|succ k=>exact ⟨k,rfl,h⟩,fun ⟨j,hj,h⟩=>by subst hj;exact h⟩
theorem quot_guess.l0_e {k y0 y1 y2 y3 y4 r}:(quot_guess.l0 k y0 y1 y2 y3 y4=some r) = ∃ j,k=j + 1∧quot_guess.l0 (j + 1) y0 y1 y2 y3 y4=some r:=propext ⟨fun h=>by cases k with|zero=>(unfold quot_guess.l0 at h;cases h)|succ k=>exact ⟨k,rfl,h⟩,fun ⟨j,hj,h⟩=>by subst hj;exact h⟩
noncomputable def c143:Code:=Tryz.f143.body.getD .skip
theorem fn143:FnOk Tryz.prog 143 Tryz.f143 c143:=⟨Tryz.func143,rfl,by kernel_rfl,by kernel_rfl,mixed⟩
theorem quot_guess.cs {k:Nat} {l0:List Int} {l1:List Int} {r:Int} (h:quot_guess.f k l0 l1=some r):CS Tryz.prog 143 [.fi .u64 l0, .fi .u64 l1] .no [.int .u64 r]:=by
  unfold quot_guess.f at h
  refine E.pure fn143 rfl ?_
  refine S.A 1 rfl rfl ?_
  refine X.scope (fun k l s=>l=0∧∃ x1 x5 x8 x9 x10,s.t 1 = .fi .u64 x1∧s.t 5 = .int .i64 x5∧s.t 8 = .int .u64 x8∧s.t 9 = .int .u64 x9∧s.t 10 = .int .u64 x10∧quot_guess.l0 k x1 x5 x8 x9 x10=some r) ?_ ?_ ?_
  · rintro l s ⟨_,_,_,_,_,_,_,_,_,_,_,h⟩;unfold quot_guess.l0 at h;cases h
  · rintro k1 _ s1 ⟨rfl,x1,x5,x8,x9,x10,e0,e1,e2,e3,e4,h⟩
    unfold quot_guess.l0 at h;try dsimp only at h
    rw [St.fixT e0,St.fixT e1,St.fixT e2,St.fixT e3,St.fixT e4]
    refine L.right rfl ?_
    refine L.right rfl ?_
    refine L.right rfl ?_
    refine L.right rfl ?_
    refine L.left rfl ?_
    refine L.label ?_
    refine S.O 4 rfl rfl ?_
    repeat (rw [giff] at h;obtain ⟨_,h⟩:=h)
    refine O.pu (U.rdI rfl rfl (.tmp rfl) (.tmp rfl) (by omega) (by omega)) ?_
    refine S.r 1 rfl rfl ?_
    obtain ⟨q1,Hq1,h⟩:=Option.bind_eq_some_iff.1 h
    refine O.c (bits_Mul64.cs Hq1) rfl rfl rfl ?_
    refine S.e 5 rfl rfl ?_
    refine X.seq ?_
    refine S.O 4 rfl rfl ?_
    refine O.splitP (fun c=>?_) (fun c=>?_)
    · rw [if_pos c] at h
      refine S.r 3 rfl rfl ?_
      refine G.skipN (b:=true) (W.f rfl rfl rfl) ?_
      refine S.e 5 rfl rfl ?_
      repeat (rw [quot_guess.j1_e] at h;obtain ⟨k,_,h⟩:=h;unfold quot_guess.j1 at h;try dsimp only at h)
      rw [if_pos rfl] at h
      refine X.condT (.tmp rfl) ?_
      refine S.A 2 rfl rfl ?_
      refine X.ret ?_
      cases h
      exact S.R rfl rfl rfl
    · rw [if_neg c] at h
      refine S.r 4 rfl rfl ?_
      refine O.splitE (fun c=>?_) (fun c=>?_)
      · rw [if_pos c] at h
        refine S.e 5 rfl rfl ?_
        repeat (rw [quot_guess.j1_e] at h;obtain ⟨k,_,h⟩:=h;unfold quot_guess.j1 at h;try dsimp only at h)
        refine X.condP (.tmp rfl) (fun c=>?_) (fun c=>?_)
        · rw [if_pos (decide_eq_true c)] at h
          refine S.A 2 rfl rfl ?_
          refine X.ret ?_
          cases h
          exact S.R rfl rfl rfl
        · rw [if_neg (nd c)] at h
          refine X.skip ?_
          refine S.A 3 rfl rfl ?_
          refine S.O 4 rfl rfl ?_
          repeat (rw [giff] at h;obtain ⟨_,h⟩:=h)
          refine O.pu (U.rdI rfl rfl (.tmp rfl) (.tmp rfl) (by omega) (by omega)) ?_
          refine S.r 1 rfl rfl ?_
          refine O.pu (U.call (ss:=[]) (.cons (.tmp (v:=.int _ _) rfl) (.cons (.tmp (v:=.int _ _) rfl) (.cons .int .nil))) (.cons (.cl .int) (.cons (.cl .int) (.cons (.cl .int) .nil))) (add64_cs (by omega)) (.inl rfl) (.tupL (.cons .int (.cons .int .nil)))) ?_
          refine S.e 5 rfl rfl ?_
          refine S.A 2 rfl rfl ?_
          refine X.seq ?_
          refine S.A 2 rfl rfl ?_
          refine X.condE (.tmp rfl) (fun c=>?_) (fun c=>?_)
          · rw [if_pos c] at h
            exact ⟨rfl,_,(by omega),rfl,_,_,_,_,_,rfl,rfl,rfl,rfl,rfl,h⟩
          · rw [if_neg c] at h
            refine X.skip ?_
            refine S.A 2 rfl rfl ?_
            refine X.ret ?_
            cases h
            exact S.R rfl rfl rfl
      · rw [if_neg c] at h
        refine S.e 5 rfl rfl ?_
        repeat (rw [quot_guess.j1_e] at h;obtain ⟨k,_,h⟩:=h;unfold quot_guess.j1 at h;try dsimp only at h)
        rw [if_neg Bool.false_ne_true] at h
        refine X.condF (.tmp rfl) ?_
        refine X.skip ?_
        refine S.A 3 rfl rfl ?_
        refine S.O 4 rfl rfl ?_
        repeat (rw [giff] at h;obtain ⟨_,h⟩:=h)
        refine O.pu (U.rdI rfl rfl (.tmp rfl) (.tmp rfl) (by omega) (by omega)) ?_
        refine S.r 1 rfl rfl ?_
        refine O.pu (U.call (ss:=[]) (.cons (.tmp (v:=.int _ _) rfl) (.cons (.tmp (v:=.int _ _) rfl) (.cons .int .nil))) (.cons (.cl .int) (.cons (.cl .int) (.cons (.cl .int) .nil))) (add64_cs (by omega)) (.inl rfl) (.tupL (.cons .int (.cons .int .nil)))) ?_
        refine S.e 5 rfl rfl ?_
        refine S.A 2 rfl rfl ?_
        refine X.seq ?_
        refine S.A 2 rfl rfl ?_
        refine X.condE (.tmp rfl) (fun c=>?_) (fun c=>?_)
        · rw [if_pos c] at h
          exact ⟨rfl,_,(by omega),rfl,_,_,_,_,_,rfl,rfl,rfl,rfl,rfl,h⟩
        · rw [if_neg c] at h
          refine X.skip ?_
          refine S.A 2 rfl rfl ?_
          refine X.ret ?_
          cases h
          exact S.R rfl rfl rfl
  · refine S.O 1 rfl rfl ?_
    refine O.pu (Pu.lenI rfl (.tmp rfl)) ?_
    refine S.e 1 rfl rfl ?_
    refine S.D 2 rfl rfl ?_
    repeat (rw [giff] at h;obtain ⟨_,h⟩:=h)
    refine D.pu (U.rdI rfl rfl (.tmp rfl) (.tmp rfl) (by omega) (by omega)) ?_
    refine S.d 4 rfl rfl ?_
    refine D.pu (U.rdI rfl rfl (.tmp rfl) (.tmp rfl) (by omega) (by omega)) ?_
    refine S.d 4 rfl rfl ?_
    refine D.pu (U.rdI rfl rfl (.tmp rfl) (.tmp rfl) (by omega) (by omega)) ?_
    refine S.d 4 rfl rfl ?_
    refine D.nil (by kernel_rfl) ?_
    refine X.seq ?_
    refine S.O 4 rfl rfl ?_
    refine O.pu (U.rdI rfl rfl (.tmp rfl) (.tmp rfl) (by omega) (by omega)) ?_
    refine S.e 2 rfl rfl ?_
    refine X.condP (.tmp rfl) (fun c=>?_) (fun c=>?_)
    · rw [if_pos c] at h
      refine S.A 1 rfl rfl ?_
      refine X.ret ?_
      cases h
      exact S.R rfl rfl rfl
    · rw [if_neg c] at h
      refine X.skip ?_
      refine S.O 5 rfl rfl ?_
      refine O.pu (U.rdI rfl rfl (.tmp rfl) (.tmp rfl) (by omega) (by omega)) ?_
      refine S.r 1 rfl rfl ?_
      obtain ⟨q4,Hq4,h⟩:=Option.bind_eq_some_iff.1 h
      refine O.c (bits_Div64.cs Hq4) rfl rfl rfl ?_
      refine S.e 5 rfl rfl ?_
      refine X.seq ?_
      refine X.label ?_
      refine S.O 4 rfl rfl ?_
      repeat first|(rw [giff] at h;obtain ⟨_,h⟩:=h)|(rw [quot_guess.l0_e] at h;obtain ⟨k,_,h⟩:=h;unfold quot_guess.l0 at h;try dsimp only at h)
      refine O.pu (U.rdI rfl rfl (.tmp rfl) (.tmp rfl) (by omega) (by omega)) ?_
      refine S.r 1 rfl rfl ?_
      obtain ⟨q5,Hq5,h⟩:=Option.bind_eq_some_iff.1 h
      refine O.c (bits_Mul64.cs Hq5) rfl rfl rfl ?_
      refine S.e 5 rfl rfl ?_
      refine X.seq ?_
      refine S.O 4 rfl rfl ?_
      refine O.splitP (fun c=>?_) (fun c=>?_)
      · rw [if_pos c] at h
        refine S.r 3 rfl rfl ?_
        refine G.skipN (b:=true) (W.f rfl rfl rfl) ?_
        refine S.e 5 rfl rfl ?_
        repeat (rw [quot_guess.j1_e] at h;obtain ⟨k,_,h⟩:=h;unfold quot_guess.j1 at h;try dsimp only at h)
        rw [if_pos rfl] at h
        refine X.condT (.tmp rfl) ?_
        refine S.A 2 rfl rfl ?_
        refine X.ret ?_
        cases h
        exact S.R rfl rfl rfl
      · rw [if_neg c] at h
        refine S.r 4 rfl rfl ?_
        refine O.splitE (fun c=>?_) (fun c=>?_)
        · rw [if_pos c] at h
          refine S.e 5 rfl rfl ?_
          repeat (rw [quot_guess.j1_e] at h;obtain ⟨k,_,h⟩:=h;unfold quot_guess.j1 at h;try dsimp only at h)
          refine X.condP (.tmp rfl) (fun c=>?_) (fun c=>?_)
          · rw [if_pos (decide_eq_true c)] at h
            refine S.A 2 rfl rfl ?_
            refine X.ret ?_
            cases h
            exact S.R rfl rfl rfl
          · rw [if_neg (nd c)] at h
            refine X.skip ?_
            refine S.A 3 rfl rfl ?_
            refine S.O 4 rfl rfl ?_
            repeat (rw [giff] at h;obtain ⟨_,h⟩:=h)
            refine O.pu (U.rdI rfl rfl (.tmp rfl) (.tmp rfl) (by omega) (by omega)) ?_
            refine S.r 1 rfl rfl ?_
            refine O.pu (U.call (ss:=[]) (.cons (.tmp (v:=.int _ _) rfl) (.cons (.tmp (v:=.int _ _) rfl) (.cons .int .nil))) (.cons (.cl .int) (.cons (.cl .int) (.cons (.cl .int) .nil))) (add64_cs (by omega)) (.inl rfl) (.tupL (.cons .int (.cons .int .nil)))) ?_
            refine S.e 5 rfl rfl ?_
            refine S.A 2 rfl rfl ?_
            refine X.seq ?_
            refine S.A 2 rfl rfl ?_
            refine X.condE (.tmp rfl) (fun c=>?_) (fun c=>?_)
            · rw [if_pos c] at h
              exact ⟨rfl,_,rfl,_,_,_,_,_,rfl,rfl,rfl,rfl,rfl,h⟩
            · rw [if_neg c] at h
              refine X.skip ?_
              refine S.A 2 rfl rfl ?_
              refine X.ret ?_
              cases h
              exact S.R rfl rfl rfl
        · rw [if_neg c] at h
          refine S.e 5 rfl rfl ?_
          repeat (rw [quot_guess.j1_e] at h;obtain ⟨k,_,h⟩:=h;unfold quot_guess.j1 at h;try dsimp only at h)
          rw [if_neg Bool.false_ne_true] at h
          refine X.condF (.tmp rfl) ?_
          refine X.skip ?_
          refine S.A 3 rfl rfl ?_
          refine S.O 4 rfl rfl ?_
          repeat (rw [giff] at h;obtain ⟨_,h⟩:=h)
          refine O.pu (U.rdI rfl rfl (.tmp rfl) (.tmp rfl) (by omega) (by omega)) ?_
          refine S.r 1 rfl rfl ?_
          refine O.pu (U.call (ss:=[]) (.cons (.tmp (v:=.int _ _) rfl) (.cons (.tmp (v:=.int _ _) rfl) (.cons .int .nil))) (.cons (.cl .int) (.cons (.cl .int) (.cons (.cl .int) .nil))) (add64_cs (by omega)) (.inl rfl) (.tupL (.cons .int (.cons .int .nil)))) ?_
          refine S.e 5 rfl rfl ?_
          refine S.A 2 rfl rfl ?_
          refine X.seq ?_
          refine S.A 2 rfl rfl ?_
          refine X.condE (.tmp rfl) (fun c=>?_) (fun c=>?_)
          · rw [if_pos c] at h
            exact ⟨rfl,_,rfl,_,_,_,_,_,rfl,rfl,rfl,rfl,rfl,h⟩
          · rw [if_neg c] at h
            refine X.skip ?_
            refine S.A 2 rfl rfl ?_
            refine X.ret ?_
            cases h
            exact S.R rfl rfl rfl
noncomputable def c144:Code:=Tryz.f144.body.getD .skip
theorem fn144:FnOk Tryz.prog 144 Tryz.f144 c144:=⟨Tryz.func144,rfl,by kernel_rfl,by kernel_rfl,mixed⟩
theorem quot_less.cs {k:Nat} {l0:List Int} {l1:List Int} {a2:Int} {r:Int×List Int} (h:quot_less.f k l0 l1 a2=some r):CS Tryz.prog 144 [.os 0 1 0 l0.length false, .fi .u64 l1, .int .u64 a2] ⟨some (0, .ints .u64 l0, .ints .u64 r.2,102),none⟩ [.int .u64 r.1]:=by
  have hl:=quot_less_len h
  unfold quot_less.f at h
  refine E.win fn144 rfl hl (.int) ?_
  refine S.A 1 rfl rfl ?_
  refine S.A 2 rfl rfl ?_
  refine X.seq ?_
  refine S.O 1 rfl rfl ?_
  refine O.pu (Pu.lenI rfl (.tmp rfl)) ?_
  refine S.e 1 rfl rfl ?_
  refine X.block ?_
  refine X.inv (fun k s=>∃ x0 x1 x2 x7 x8 x14 x15 x16 n0,s.b 0=⟨1, .win, .ints .u64 x0,102⟩∧s.t 0 = .os 0 1 0 n0 false∧x0.length=n0∧s.t 1 = .fi .u64 x1∧s.t 2 = .int .u64 x2∧s.t 7 = .int .u64 x7∧s.t 8 = .int .u64 x8∧s.t 14 = .fi .u64 x14∧s.t 15 = .int .i64 x15∧s.t 16 = .int .i64 x16∧quot_less.l0 k x0 x1 x2 x7 x8 x14 x15 x16=some r) ?_ ?_ ⟨_,_,_,_,_,_,_,_,_,rfl,rfl,rfl,rfl,rfl,rfl,rfl,rfl,rfl,rfl,h⟩
  · rintro s ⟨_,_,_,_,_,_,_,_,_,_,_,_,_,_,_,_,_,_,_,h⟩;unfold quot_less.l0 at h;cases h
  · rintro k1 s1 ⟨x0,x1,x2,x7,x8,x14,x15,x16,n0,e0,e1,rfl,e3,e4,e5,e6,e7,e8,e9,h⟩
    unfold quot_less.l0 at h
    rw [St.fixB e0,St.fixT e1,St.fixT e3,St.fixT e4,St.fixT e5,St.fixT e6,St.fixT e7,St.fixT e8,St.fixT e9]
    refine S.A 1 rfl rfl ?_
    refine X.seq ?_
    refine X.condP (.tmp rfl) (fun c=>?_) (fun c=>?_)
    · rw [if_pos c] at h
      refine X.skip ?_
      refine X.seq ?_
      refine X.block ?_
      refine S.O 1 rfl rfl ?_
      repeat (rw [giff] at h;obtain ⟨_,h⟩:=h)
      refine O.pu (U.rdI rfl rfl (.tmp rfl) (.tmp rfl) (by omega) (by omega)) ?_
      refine S.e 3 rfl rfl ?_
      refine S.O 2 rfl rfl ?_
      obtain ⟨q1,Hq1,h⟩:=Option.bind_eq_some_iff.1 h
      refine O.c (bits_Mul64.cs Hq1) rfl rfl rfl ?_
      refine S.e 5 rfl rfl ?_
      refine S.A 1 rfl rfl ?_
      refine S.O 2 rfl rfl ?_
      repeat (rw [giff] at h;obtain ⟨_,h⟩:=h)
      refine O.pu (U.call (ss:=[]) (.cons (.tmp (v:=.int _ _) rfl) (.cons (.tmp (v:=.int _ _) rfl) (.cons .int .nil))) (.cons (.cl .int) (.cons (.cl .int) (.cons (.cl .int) .nil))) (add64_cs (by omega)) (.inl rfl) (.tupL (.cons .int (.cons .int .nil)))) ?_
      refine S.e 5 rfl rfl ?_
      refine S.A 4 rfl rfl ?_
      refine X.still ?_
      refine S.r 4 rfl rfl ?_
      refine O.pu (U.indexO0 rfl (.tmp rfl) rfl rfl (.tmp rfl) (by first|omega|(simp only [List.length_set] at *;omega)) (by first|omega|(simp only [List.length_set] at *;omega)) rfl rfl) ?_
      refine O.pu (U.rdO (.tmp rfl) rfl rfl rfl rfl rfl) ?_
      refine S.r 2 rfl rfl ?_
      refine O.pu (U.call (ss:=[]) (.cons (.tmp (v:=.int _ _) rfl) (.cons (.tmp (v:=.int _ _) rfl) (.cons (.tmp (v:=.int _ _) rfl) .nil))) (.cons (.cl .int) (.cons (.cl .int) (.cons (.cl .int) .nil))) (sub64_cs (by omega)) (.inl rfl) (.tupL (.cons .int (.cons .int .nil)))) ?_
      refine S.r 3 rfl rfl ?_
      refine O.pu (U.indexO0 rfl (.tmp rfl) rfl rfl (.tmp rfl) (by first|omega|(simp only [List.length_set] at *;omega)) (by first|omega|(simp only [List.length_set] at *;omega)) rfl rfl) ?_
      refine O.ef0 (U.storeE (.tmp rfl) rfl rfl (.tmp (v:=.int _ _) rfl) rfl rfl (.whole (notBad_ne rfl) rfl) .ints) ?_
      refine S.e 1 rfl rfl ?_
      refine X.still ?_
      refine S.e 2 rfl rfl ?_
      exact ⟨_,(by omega),_,_,_,_,_,_,_,_,_,rfl,rfl,(by first|rfl|(simp only [List.length_set];done)|(simp only [List.length_drop,List.length_take,List.length_append,List.length_set] at *;omega)),rfl,rfl,rfl,rfl,rfl,rfl,rfl,h⟩
    · rw [if_neg c] at h
      refine X.exit (B.out ?_)
      refine S.O 2 rfl rfl ?_
      refine O.pu (Pu.lenI rfl (.tmp rfl)) ?_
      refine S.r 2 rfl rfl ?_
      refine O.pu (Pu.lenI rfl (.tmp rfl)) ?_
      repeat (rw [giff] at h;obtain ⟨_,h⟩:=h)
      refine O.pu (U.indexO0 rfl (.tmp rfl) rfl rfl (.tmp rfl) (by first|omega|(simp only [List.length_set] at *;omega)) (by first|omega|(simp only [List.length_set] at *;omega)) rfl rfl) ?_
      refine O.pu (U.rdO (.tmp rfl) rfl rfl rfl rfl rfl) ?_
      refine S.r 2 rfl rfl ?_
      refine O.pu (U.call (ss:=[]) (.cons (.tmp (v:=.int _ _) rfl) (.cons (.tmp (v:=.int _ _) rfl) (.cons (.tmp (v:=.int _ _) rfl) .nil))) (.cons (.cl .int) (.cons (.cl .int) (.cons (.cl .int) .nil))) (sub64_cs (by omega)) (.inl rfl) (.tupL (.cons .int (.cons .int .nil)))) ?_
      refine S.r 3 rfl rfl ?_
      refine O.pu (U.indexO0 rfl (.tmp rfl) rfl rfl (.tmp rfl) (by first|omega|(simp only [List.length_set] at *;omega)) (by first|omega|(simp only [List.length_set] at *;omega)) rfl rfl) ?_
      refine O.ef0 (U.storeE (.tmp rfl) rfl rfl (.tmp (v:=.int _ _) rfl) rfl rfl (.whole (notBad_ne rfl) rfl) .ints) ?_
      refine S.e 1 rfl rfl ?_
      refine S.A 2 rfl rfl ?_
      refine X.ret ?_
      cases h
      exact E.finW (.tmp (v:=.int _ _) rfl .nil) rfl
noncomputable def c145:Code:=Tryz.f145.body.getD .skip
theorem fn145:FnOk Tryz.prog 145 Tryz.f145 c145:=⟨Tryz.func145,rfl,by kernel_rfl,by kernel_rfl,mixed⟩
theorem quot_back.cs {k:Nat} {l0:List Int} {l1:List Int} {r:List Int} (h:quot_back.f k l0 l1=some r):CS Tryz.prog 145 [.os 0 1 0 l0.length false, .fi .u64 l1] ⟨some (0, .ints .u64 l0, .ints .u64 r,102),none⟩ []:=by
  have hl:=quot_back_len h
  unfold quot_back.f at h
  refine E.win fn145 rfl hl (.tupL .nil) ?_
  refine S.A 1 rfl rfl ?_
  refine X.seq ?_
  refine S.O 1 rfl rfl ?_
  refine O.pu (Pu.lenI rfl (.tmp rfl)) ?_
  refine S.e 1 rfl rfl ?_
  refine X.block ?_
  refine X.inv (fun k s=>∃ x0 x1 x4 x7 x8 x9 n0,s.b 0=⟨1, .win, .ints .u64 x0,102⟩∧s.t 0 = .os 0 1 0 n0 false∧x0.length=n0∧s.t 1 = .fi .u64 x1∧s.t 4 = .int .u64 x4∧s.t 7 = .fi .u64 x7∧s.t 8 = .int .i64 x8∧s.t 9 = .int .i64 x9∧quot_back.l0 k x0 x1 x4 x7 x8 x9=some r) ?_ ?_ ⟨_,_,_,_,_,_,_,rfl,rfl,rfl,rfl,rfl,rfl,rfl,rfl,h⟩
  · rintro s ⟨_,_,_,_,_,_,_,_,_,_,_,_,_,_,_,h⟩;unfold quot_back.l0 at h;cases h
  · rintro k1 s1 ⟨x0,x1,x4,x7,x8,x9,n0,e0,e1,rfl,e3,e4,e5,e6,e7,h⟩
    unfold quot_back.l0 at h
    rw [St.fixB e0,St.fixT e1,St.fixT e3,St.fixT e4,St.fixT e5,St.fixT e6,St.fixT e7]
    refine S.A 1 rfl rfl ?_
    refine X.seq ?_
    refine X.condP (.tmp rfl) (fun c=>?_) (fun c=>?_)
    · rw [if_pos c] at h
      refine X.skip ?_
      refine X.seq ?_
      refine X.block ?_
      refine S.O 1 rfl rfl ?_
      repeat (rw [giff] at h;obtain ⟨_,h⟩:=h)
      refine O.pu (U.rdI rfl rfl (.tmp rfl) (.tmp rfl) (by omega) (by omega)) ?_
      refine S.e 3 rfl rfl ?_
      refine X.still ?_
      refine S.r 4 rfl rfl ?_
      refine O.pu (U.indexO0 rfl (.tmp rfl) rfl rfl (.tmp rfl) (by first|omega|(simp only [List.length_set] at *;omega)) (by first|omega|(simp only [List.length_set] at *;omega)) rfl rfl) ?_
      refine O.pu (U.rdO (.tmp rfl) rfl rfl rfl rfl rfl) ?_
      refine S.r 2 rfl rfl ?_
      refine O.pu (U.call (ss:=[]) (.cons (.tmp (v:=.int _ _) rfl) (.cons (.tmp (v:=.int _ _) rfl) (.cons (.tmp (v:=.int _ _) rfl) .nil))) (.cons (.cl .int) (.cons (.cl .int) (.cons (.cl .int) .nil))) (add64_cs (by omega)) (.inl rfl) (.tupL (.cons .int (.cons .int .nil)))) ?_
      refine S.r 3 rfl rfl ?_
      refine O.pu (U.indexO0 rfl (.tmp rfl) rfl rfl (.tmp rfl) (by first|omega|(simp only [List.length_set] at *;omega)) (by first|omega|(simp only [List.length_set] at *;omega)) rfl rfl) ?_
      refine O.ef0 (U.storeE (.tmp rfl) rfl rfl (.tmp (v:=.int _ _) rfl) rfl rfl (.whole (notBad_ne rfl) rfl) .ints) ?_
      refine S.e 1 rfl rfl ?_
      refine X.still ?_
      refine S.e 2 rfl rfl ?_
      exact ⟨_,(by omega),_,_,_,_,_,_,_,rfl,rfl,(by first|rfl|(simp only [List.length_set];done)|(simp only [List.length_drop,List.length_take,List.length_append,List.length_set] at *;omega)),rfl,rfl,rfl,rfl,rfl,h⟩
    · rw [if_neg c] at h
      refine X.exit (B.out ?_)
      refine X.still ?_
      refine S.r 2 rfl rfl ?_
      refine O.pu (Pu.lenI rfl (.tmp rfl)) ?_
      repeat (rw [giff] at h;obtain ⟨_,h⟩:=h)
      refine O.pu (U.indexO0 rfl (.tmp rfl) rfl rfl (.tmp rfl) (by first|omega|(simp only [List.length_set] at *;omega)) (by first|omega|(simp only [List.length_set] at *;omega)) rfl rfl) ?_
      refine O.pu (U.rdO (.tmp rfl) rfl rfl rfl rfl rfl) ?_
      refine S.r 2 rfl rfl ?_
      refine O.pu (U.indexO0 rfl (.tmp rfl) rfl rfl (.tmp rfl) (by first|omega|(simp only [List.length_set] at *;omega)) (by first|omega|(simp only [List.length_set] at *;omega)) rfl rfl) ?_
      refine O.ef0 (U.storeE (.tmp rfl) rfl rfl (.tmp (v:=.int _ _) rfl) rfl rfl (.whole (notBad_ne rfl) rfl) .ints) ?_
      refine O.nil ?_
      cases h
      exact E.finW .nil rfl
noncomputable def c150:Code:=Tryz.f150.body.getD .skip
theorem fn150:FnOk Tryz.prog 150 Tryz.f150 c150:=⟨Tryz.func150,rfl,by kernel_rfl,by kernel_rfl,mixed⟩
theorem quot_wrong.cs {a0:Int} {r:Bool} (h:quot_wrong.f a0=some r):CS Tryz.prog 150 [.int .i64 a0] .no [.bool r]:=by
  unfold quot_wrong.f at h
  refine E.pure fn150 rfl ?_
  refine S.A 1 rfl rfl ?_
  refine S.O 3 rfl rfl ?_
  refine O.splitP (fun c=>?_) (fun c=>?_)
  · rw [if_pos c] at h
    refine S.e 4 rfl rfl ?_
    refine X.ret ?_
    cases h
    exact S.R rfl rfl rfl
  · rw [if_neg c] at h
    refine S.e 4 rfl rfl ?_
    refine X.ret ?_
    cases h
    exact S.R rfl rfl rfl
noncomputable def c146:Code:=Tryz.f146.body.getD .skip
theorem fn146:FnOk Tryz.prog 146 Tryz.f146 c146:=⟨Tryz.func146,rfl,by kernel_rfl,by kernel_rfl,mixed⟩
theorem quot_Shr.cs {k:Nat} {l0_0:List Int} {a1:Int} {r:List Int×Int} (h:quot_Shr.f k l0_0 a1=some r):CS Tryz.prog 146 [.agg [.fi .u64 l0_0], .int .i64 a1] .no [.agg [.fi .u64 r.1], .int .i64 r.2]:=by
  unfold quot_Shr.f at h
  refine E.pure fn146 rfl ?_
  refine S.A 3 rfl rfl ?_
  refine X.seq ?_
  refine S.O 1 rfl rfl ?_
  obtain ⟨q1,Hq1,h⟩:=Option.bind_eq_some_iff.1 h
  refine O.c (quot_wrong.cs Hq1) rfl rfl rfl ?_
  refine O.nil ?_
  refine X.cond (.tmp rfl) (fun c=>?_) (fun c=>?_)
  · rw [if_pos c] at h
    refine S.A 3 rfl rfl ?_
    refine X.ret ?_
    cases h
    exact S.R rfl rfl rfl
  · rw [if_neg (bf c)] at h
    refine X.skip ?_
    refine S.O 1 rfl rfl ?_
    obtain ⟨q2,Hq2,h⟩:=Option.bind_eq_some_iff.1 h
    refine O.puE (v':=.os 13 (1) 0 _ true) (b':=⟨1, .own,_,_⟩) (U.callF (ss:=[]) (.cons (.tmp (v:=.agg _) rfl) .nil) (.cons (.cl (.aggL (.cons .fi .nil))) .nil) (nat_Nat_Limbs.cs Hq2)) rfl rfl ?_
    refine S.e 1 rfl rfl ?_
    refine S.O 2 rfl rfl ?_
    repeat first|(rw [giff] at h;obtain ⟨_,h⟩:=h)|rw [bdff] at h
    refine O.pu (Pu.bin (.tmp rfl) .int (U.quo64 (by omega))) ?_
    refine S.r 1 rfl rfl ?_
    refine O.pu (Pu.lenO rfl (.tmp rfl)) ?_
    refine O.pu (U.mn (.tmp rfl) (.tmp rfl)) ?_
    refine O.pu (U.sliceO0 rfl (.tmp rfl) rfl rfl ⟨rfl,rfl⟩ (.yes (.tmp rfl) (by omega)) .no .no (by omega) (by omega)) ?_
    refine O.ef (U.cutL (u':=1) (.tmp rfl) rfl (List.take_of_length_le (by simp only [List.length_drop];omega)) (by simp only [List.length_drop,List.length_take] <;> omega) rfl) ?_
    refine O.nil ?_
    refine S.O 1 rfl rfl ?_
    refine O.pu (Pu.bin (.tmp rfl) .int (.rem (by omega))) ?_
    refine S.e 2 rfl rfl ?_
    refine X.seq ?_
    refine S.O 1 rfl rfl ?_
    refine O.pu (Pu.lenO rfl (.tmp rfl)) ?_
    refine S.e 1 rfl rfl ?_
    refine X.block ?_
    refine X.inv (fun k s=>∃ x6 x7 x25 x26 n6 u2 u4 u6 z2_0,s.b 6=⟨u6, .own, .ints .u64 x6,102⟩∧s.t 6 = .os 6 u6 0 n6 false∧x6.length=n6∧s.t 7 = .int .u64 x7∧s.t 25 = .int .i64 x25∧s.t 26 = .int .i64 x26∧s.t 2 = .op 2 u2 0 0∧s.b 2=⟨u2, .own, .vals [.agg [.fi .u64 z2_0]],45⟩∧s.t 4 = .op 4 u4 0 0∧s.b 4=⟨u4, .own, .vals [.agg [.fi .u64 []]],45⟩∧quot_Shr.l0 k x6 x7 x25 x26=some r) ?_ ?_ ⟨_,_,_,_,_,_,_,_,_,rfl,rfl,rfl,rfl,rfl,rfl,rfl,rfl,rfl,rfl,h⟩
    · rintro s ⟨_,_,_,_,_,_,_,_,_,_,_,_,_,_,_,_,_,_,_,h⟩;unfold quot_Shr.l0 at h;cases h
    · rintro k1 s1 ⟨x6,x7,x25,x26,n6,u2,u4,u6,z2_0,e0,e1,rfl,e3,e4,e5,e6,e7,e8,e9,h⟩
      unfold quot_Shr.l0 at h
      rw [St.fixB e0,St.fixT e1,St.fixT e3,St.fixT e4,St.fixT e5,St.fixT e6,St.fixB e7,St.fixT e8,St.fixB e9]
      refine S.A 1 rfl rfl ?_
      refine X.seq ?_
      refine X.condP (.tmp rfl) (fun c=>?_) (fun c=>?_)
      · rw [if_pos c] at h
        refine X.skip ?_
        refine X.seq ?_
        refine X.block ?_
        refine S.A 2 rfl rfl ?_
        refine S.O 2 rfl rfl ?_
        repeat first|(rw [giff] at h;obtain ⟨_,h⟩:=h)|rw [bdff] at h
        refine O.pu (U.indexO0 rfl (.tmp rfl) rfl rfl (.tmp rfl) (by first|omega|(simp only [List.length_set] at *;omega)) (by first|omega|(simp only [List.length_set] at *;omega)) rfl rfl) ?_
        refine O.pu (U.rdO (.tmp rfl) rfl rfl rfl rfl rfl) ?_
        refine S.r 1 rfl rfl ?_
        refine O.pu (Pu.bin (.tmp rfl) (.tmp rfl) (U.shrW (by omega))) ?_
        refine O.pu (U.indexO0 rfl (.tmp rfl) rfl rfl (.tmp rfl) (by first|omega|(simp only [List.length_set] at *;omega)) (by first|omega|(simp only [List.length_set] at *;omega)) rfl rfl) ?_
        refine O.ef0 (U.storeE (.tmp rfl) rfl rfl (.tmp (v:=.int _ _) rfl) rfl rfl (.whole (notBad_ne rfl) rfl) .ints) ?_
        refine O.nil ?_
        refine S.O 3 rfl rfl ?_
        refine O.pu (Pu.lenO rfl (.tmp rfl)) ?_
        refine S.e 1 rfl rfl ?_
        refine X.condP (.tmp rfl) (fun c=>?_) (fun c=>?_)
        · rw [if_pos c] at h
          refine X.drawn ?_
          refine S.d 2 rfl rfl ?_
          repeat (rw [giff] at h;obtain ⟨_,h⟩:=h)
          refine D.pu (U.indexO0 rfl (.tmp rfl) rfl rfl (.tmp rfl) (by first|omega|(simp only [List.length_set] at *;omega)) (by first|omega|(simp only [List.length_set] at *;omega)) rfl rfl) ?_
          refine D.pu (U.rdO (.tmp rfl) rfl rfl rfl rfl rfl) ?_
          refine S.d 3 rfl rfl ?_
          refine D.pu (U.indexO0 rfl (.tmp rfl) rfl rfl (.tmp rfl) (by first|omega|(simp only [List.length_set] at *;omega)) (by first|omega|(simp only [List.length_set] at *;omega)) rfl rfl) ?_
          refine D.pu (U.rdO (.tmp rfl) rfl rfl rfl rfl rfl) ?_
          refine S.d 2 rfl rfl ?_
          refine D.pu (Pu.bin (.tmp rfl) (.tmp rfl) (U.shlW (by omega))) ?_
          refine S.d 1 rfl rfl ?_
          refine D.pu (U.indexO0 rfl (.tmp rfl) rfl rfl (.tmp rfl) (by first|omega|(simp only [List.length_set] at *;omega)) (by first|omega|(simp only [List.length_set] at *;omega)) rfl rfl) ?_
          refine D.ef0 (C.storeE (.tmp rfl) rfl rfl (.tmp (v:=.int _ _) rfl) rfl rfl (.whole (notBad_ne rfl) rfl) .ints) ?_
          refine D.nil (by kernel_rfl) ?_
          refine X.still ?_
          refine S.e 2 rfl rfl ?_
          exact ⟨_,(by omega),_,_,_,_,_,_,_,_,_,rfl,rfl,(by first|rfl|(simp only [List.length_set];done)|(simp only [List.length_drop,List.length_take,List.length_append,List.length_set] at *;omega)),rfl,rfl,rfl,rfl,rfl,rfl,rfl,h⟩
        · rw [if_neg c] at h
          refine X.skip ?_
          refine X.still ?_
          refine S.e 2 rfl rfl ?_
          exact ⟨_,(by omega),_,_,_,_,_,_,_,_,_,rfl,rfl,(by first|rfl|(simp only [List.length_set];done)|(simp only [List.length_drop,List.length_take,List.length_append,List.length_set] at *;omega)),rfl,rfl,rfl,rfl,rfl,rfl,rfl,h⟩
      · rw [if_neg c] at h
        refine X.exit (B.out ?_)
        refine S.O 1 rfl rfl ?_
        obtain ⟨q3,Hq3,h⟩:=Option.bind_eq_some_iff.1 h
        refine O.ef (U.callZ (ss:=[6]) (.cons (.tmp (v:=.os _ _ _ _ _) rfl) .nil) (.cons (.osIf (by simp) rfl (Mode.live_ne rfl) rfl (by first|rfl|(simp only [List.length_set];done)|(simp only [List.length_drop,List.length_take,List.length_append,List.length_set] at *;omega))) .nil) (nat_Of.cs Hq3) (.aggL (.cons .fi .nil)) (nowin rfl)) ?_
        refine S.e 2 rfl rfl ?_
        refine X.ret ?_
        cases h
        exact S.R rfl rfl rfl
noncomputable def c122:Code:=Tryz.f122.body.getD .skip
theorem fn122:FnOk Tryz.prog 122 Tryz.f122 c122:=⟨Tryz.func122,rfl,by kernel_rfl,by kernel_rfl,mixed⟩
theorem quot_long.cs {k:Nat} {l0:List Int} {l1:List Int} {r:List Int×List Int} (h:quot_long.f k l0 l1=some r):CS Tryz.prog 122 [.fi .u64 l0, .fi .u64 l1] .no [.fi .u64 r.1, .fi .u64 r.2]:=by
  unfold quot_long.f at h
  refine E.pure fn122 rfl ?_
  refine X.seq ?_
  refine X.still ?_
  refine O.pu (Pu.assign (.nilI (k:=.u64))) ?_
  refine O.pu (Pu.assign (.nilI (k:=.u64))) ?_
  refine O.nil ?_
  refine S.O 2 rfl rfl ?_
  refine O.pu (Pu.lenI rfl (.tmp rfl)) ?_
  refine S.r 1 rfl rfl ?_
  repeat (rw [giff] at h;obtain ⟨_,h⟩:=h)
  refine O.pu (U.rdI rfl rfl (.tmp rfl) (.tmp rfl) (by omega) (by omega)) ?_
  refine S.r 1 rfl rfl ?_
  obtain ⟨q1,Hq1,h⟩:=Option.bind_eq_some_iff.1 h
  refine O.c (bits_LeadingZeros64.cs Hq1) rfl rfl rfl ?_
  refine S.e 2 rfl rfl ?_
  refine S.D 2 rfl rfl ?_
  obtain ⟨q2,Hq2,h⟩:=Option.bind_eq_some_iff.1 h
  refine D.puE (v':=.os 24 (1) 0 _ true) (b':=⟨1, .own,_,_⟩) (U.callF (ss:=[]) (.cons (.tmp (v:=.fi _ _) rfl) (.cons (.tmp (v:=.int _ _) rfl) .nil)) (.cons (.cl .fi) (.cons (.cl .int) .nil)) (quot_moved.cs Hq2)) rfl rfl ?_
  refine S.d 2 rfl rfl ?_
  obtain ⟨q3,Hq3,h⟩:=Option.bind_eq_some_iff.1 h
  refine D.puE (v':=.os 27 (1) 0 _ true) (b':=⟨1, .own,_,_⟩) (U.callF (ss:=[]) (.cons (.tmp (v:=.fi _ _) rfl) (.cons (.tmp (v:=.int _ _) rfl) .nil)) (.cons (.cl .fi) (.cons (.cl .int) .nil)) (quot_moved.cs Hq3)) rfl rfl ?_
  refine S.d 1 rfl rfl ?_
  refine D.pu (Pu.lenI rfl (.tmp rfl)) ?_
  repeat first|(rw [giff] at h;obtain ⟨_,h⟩:=h)|rw [bdff] at h
  refine D.pu (U.sliceO0 rfl (.tmp rfl) rfl rfl ⟨rfl,rfl⟩ .no (.yes (.tmp rfl) (by omega)) .no (by omega) (by omega)) ?_
  refine S.d 1 rfl rfl ?_
  refine D.any (U.cutL (u':=1) (.tmp rfl) rfl cutH (by simp only [List.length_drop,List.length_take] <;> omega) rfl) ?_
  refine D.nil (by kernel_rfl) ?_
  refine S.O 1 rfl rfl ?_
  refine O.pu (Pu.lenO rfl (.tmp rfl)) ?_
  refine S.r 1 rfl rfl ?_
  refine O.pu (Pu.lenO rfl (.tmp rfl)) ?_
  refine S.r 1 rfl rfl ?_
  refine O.puE (v':=.os 36 (1) 0 _ true) (b':=⟨1, .own,_,_⟩) (U.makeI rfl rfl (.tmp rfl) (.tmp rfl) (by omega) (by omega) rfl (by omega)) rfl rfl ?_
  refine S.e 1 rfl rfl ?_
  refine X.seq ?_
  refine S.O 1 rfl rfl ?_
  refine O.pu (Pu.lenO rfl (.tmp rfl)) ?_
  refine S.e 2 rfl rfl ?_
  refine X.block ?_
  refine X.inv (fun k s=>∃ x0 x1 x6 x7 x8 n0 n1 n7 u1 u24 u36,s.b 24=⟨u24, .own, .ints .u64 x0,102⟩∧s.t 0 = .os 24 u24 0 n0 true∧x0.length=n0∧s.b 1=⟨u1, .own, .ints .u64 x1,102⟩∧s.t 1 = .os 1 u1 0 n1 false∧x1.length=n1∧s.t 6 = .int .u64 x6∧s.b 36=⟨u36, .own, .ints .u64 x7,102⟩∧s.t 7 = .os 36 u36 0 n7 true∧x7.length=n7∧s.t 8 = .int .i64 x8∧quot_long.l0 k x0 x1 x6 x7 x8=some r) ?_ ?_ ⟨_,_,_,_,_,_,_,_,_,_,_,rfl,rfl,rfl,rfl,rfl,rfl,rfl,rfl,rfl,rfl,rfl,h⟩
  · rintro s ⟨_,_,_,_,_,_,_,_,_,_,_,_,_,_,_,_,_,_,_,_,_,_,h⟩;unfold quot_long.l0 at h;cases h
  · rintro k1 s1 ⟨x0,x1,x6,x7,x8,n0,n1,n7,u1,u24,u36,e0,e1,rfl,e3,e4,rfl,e6,e7,e8,rfl,e10,h⟩
    unfold quot_long.l0 at h
    rw [St.fixB e0,St.fixT e1,St.fixB e3,St.fixT e4,St.fixT e6,St.fixB e7,St.fixT e8,St.fixT e10]
    refine X.seq ?_
    refine S.A 2 rfl rfl ?_
    refine X.condP (.tmp rfl) (fun c=>?_) (fun c=>?_)
    · rw [if_pos c] at h
      refine X.skip ?_
      refine X.seq ?_
      refine X.block ?_
      refine S.O 4 rfl rfl ?_
      refine O.pu (Pu.lenO rfl (.tmp rfl)) ?_
      refine S.r 2 rfl rfl ?_
      repeat (rw [giff] at h;obtain ⟨_,h⟩:=h)
      refine O.pu (U.sliceO0 rfl (.tmp rfl) rfl rfl ⟨rfl,rfl⟩ (.yes (.tmp rfl) (by omega)) (.yes (.tmp rfl) (by omega)) .no (by omega) (by omega)) ?_
      refine S.e 1 rfl rfl ?_
      refine S.O 2 rfl rfl ?_
      obtain ⟨q4,Hq4,h⟩:=Option.bind_eq_some_iff.1 h
      obtain ⟨⟨_,_,_⟩,Hq4⟩:=gi Hq4
      refine O.pu (U.call (ss:=[1,24]) (.cons (.tmp (v:=.os _ _ _ _ _) rfl) (.cons (.tmp (v:=.os _ _ _ _ _) rfl) .nil)) (.cons (Snap.osW (by simp) rfl (Mode.live_ne rfl) rfl (by omega)) (.cons (.osIf (by simp) rfl (Mode.live_ne rfl) rfl (by first|rfl|(simp only [List.length_set];done)|(simp only [List.length_drop,List.length_take,List.length_append,List.length_set] at *;omega))) .nil)) (quot_guess.cs Hq4) (.inr (.int)) (.int)) ?_
      refine S.e 1 rfl rfl ?_
      refine X.seq ?_
      refine S.O 3 rfl rfl ?_
      obtain ⟨q5,Hq5,h⟩:=Option.bind_eq_some_iff.1 h
      obtain ⟨⟨_,_,_⟩,q6,Hq6,rfl⟩:=win_e Hq5
      have hlq6:=quot_less_len Hq6
      refine O.ef (U.callW (res:=[.int _ _]) (ss:=[1]) (.cons (.tmp (v:=.os _ _ _ _ _) rfl) (.cons (.tmp (v:=.os _ _ _ _ _) rfl) (.cons (.tmp (v:=.int _ _) rfl) .nil))) (.hole (.cons (.osIf (by simp) rfl (Mode.live_ne rfl) rfl (by first|rfl|(simp only [List.length_set];done)|(simp only [List.length_drop,List.length_take,List.length_append,List.length_set] at *;omega))) (.cons (.cl .int) .nil))) rfl rfl rfl rfl rfl (by simp only [List.length_drop,List.length_take,List.length_append,List.length_set] at *;omega) (by simp only [List.length_drop,List.length_take,List.length_append,List.length_set] at *;omega) (by simp only [List.length_drop,List.length_take,List.length_append,List.length_set] at *;omega) (by simp only [List.length_drop,List.length_take,List.length_append,List.length_set] at *;omega) (.int) (quot_less.cs Hq6)) ?_
      refine S.e 1 rfl rfl ?_
      refine X.block ?_
      refine X.inv (fun k s=>k≤k1∧∃ x0 x1 x6 x7 x8 x10 x11 n0 n1 n7 u1 u24 u36,s.b 24=⟨u24, .own, .ints .u64 x0,102⟩∧s.t 0 = .os 24 u24 0 n0 true∧x0.length=n0∧s.b 1=⟨u1, .own, .ints .u64 x1,102⟩∧s.t 1 = .os 1 u1 0 n1 false∧x1.length=n1∧s.t 6 = .int .u64 x6∧s.b 36=⟨u36, .own, .ints .u64 x7,102⟩∧s.t 7 = .os 36 u36 0 n7 true∧x7.length=n7∧s.t 8 = .int .i64 x8∧s.t 10 = .int .u64 x10∧s.t 11 = .int .u64 x11∧s.t 9 = .os 24 u24 x8.toNat ((wrap64 ((wrap64 (x8 + (x1.length:Int))) + 1)).toNat - x8.toNat) false∧0≤x8∧x8 < wrap64 ((wrap64 (x8 + (x1.length:Int))) + 1)∧wrap64 ((wrap64 (x8 + (x1.length:Int))) + 1)≤(x0.length:Int)∧quot_long.l1 k x0 x1 x6 x7 x8 x10 x11=some r) ?_ ?_ ⟨(by omega),_,_,_,_,_,_,_,_,_,_,_,_,_,rfl,rfl,(by first|rfl|(simp only [List.length_set];done)|(simp only [List.length_drop,List.length_take,List.length_append,List.length_set] at *;omega)),rfl,rfl,(by first|rfl|(simp only [List.length_set];done)|(simp only [List.length_drop,List.length_take,List.length_append,List.length_set] at *;omega)),rfl,rfl,rfl,(by first|rfl|(simp only [List.length_set];done)|(simp only [List.length_drop,List.length_take,List.length_append,List.length_set] at *;omega)),rfl,rfl,rfl,rfl,(by first|omega|(simp only [List.length_drop,List.length_take,List.length_append,List.length_set] at *;omega)),(by first|omega|(simp only [List.length_drop,List.length_take,List.length_append,List.length_set] at *;omega)),(by first|omega|(simp only [List.length_drop,List.length_take,List.length_append,List.length_set] at *;omega)),h⟩
      · rintro s ⟨_,_,_,_,_,_,_,_,_,_,_,_,_,_,_,_,_,_,_,_,_,_,_,_,_,_,_,_,_,_,_,h⟩;unfold quot_long.l1 at h;cases h
      · rintro k2 s2 ⟨kl2,x0,x1,x6,x7,x8,x10,x11,n0,n1,n7,u1,u24,u36,e0,e1,rfl,e3,e4,rfl,e6,e7,e8,rfl,e10,e11,e12,e13,_,_,_,h⟩
        unfold quot_long.l1 at h
        rw [St.fixB e0,St.fixT e1,St.fixB e3,St.fixT e4,St.fixT e6,St.fixB e7,St.fixT e8,St.fixT e10,St.fixT e11,St.fixT e12,St.fixT e13]
        refine X.seq ?_
        refine S.A 2 rfl rfl ?_
        refine X.condN (.tmp rfl) (fun c=>?_) (fun c=>?_)
        · rw [if_neg c] at h
          refine X.skip ?_
          refine X.block ?_
          refine S.A 3 rfl rfl ?_
          refine S.O 2 rfl rfl ?_
          obtain ⟨q7,Hq7,h⟩:=Option.bind_eq_some_iff.1 h
          obtain ⟨⟨_,_,_⟩,q8,Hq8,rfl⟩:=win_e Hq7
          have hlq8:=quot_back_len Hq8
          refine O.ef (U.callW (res:=[]) (ss:=[1]) (.cons (.tmp (v:=.os _ _ _ _ _) rfl) (.cons (.tmp (v:=.os _ _ _ _ _) rfl) .nil)) (.hole (.cons (.osIf (by simp) rfl (Mode.live_ne rfl) rfl (by first|rfl|(simp only [List.length_set];done)|(simp only [List.length_drop,List.length_take,List.length_append,List.length_set] at *;omega))) .nil)) rfl rfl rfl rfl rfl (by simp only [List.length_drop,List.length_take,List.length_append,List.length_set] at *;omega) (by simp only [List.length_drop,List.length_take,List.length_append,List.length_set] at *;omega) (by simp only [List.length_drop,List.length_take,List.length_append,List.length_set] at *;omega) (by simp only [List.length_drop,List.length_take,List.length_append,List.length_set] at *;omega) (.tupL .nil) (quot_back.cs Hq8)) ?_
          refine O.nil ?_
          refine S.O 2 rfl rfl ?_
          refine O.pu (Pu.lenO rfl (.tmp rfl)) ?_
          repeat (rw [giff] at h;obtain ⟨_,h⟩:=h)
          refine O.pu (U.indexW (n:=((x1.length:Int) + x8)) rfl (.tmp rfl) rfl rfl (.tmp rfl) (by omega) (by omega) rfl rfl (by omega)) ?_
          refine O.pu (U.rdO (.tmp rfl) rfl rfl rfl rfl rfl) ?_
          refine S.e 1 rfl rfl ?_
          refine X.condE (.tmp rfl) (fun c=>?_) (fun c=>?_)
          · rw [if_pos c] at h
            refine X.still ?_
            refine S.e 1 rfl rfl ?_
            exact ⟨_,(by omega),(by omega),_,_,_,_,_,_,_,_,_,_,_,_,_,rfl,rfl,(by first|rfl|(simp only [List.length_set];done)|(simp only [List.length_drop,List.length_take,List.length_append,List.length_set] at *;omega)),rfl,rfl,(by first|rfl|(simp only [List.length_set];done)|(simp only [List.length_drop,List.length_take,List.length_append,List.length_set] at *;omega)),rfl,rfl,rfl,(by first|rfl|(simp only [List.length_set];done)|(simp only [List.length_drop,List.length_take,List.length_append,List.length_set] at *;omega)),rfl,rfl,rfl,rfl,(by first|omega|(simp only [List.length_drop,List.length_take,List.length_append,List.length_set] at *;omega)),(by first|omega|(simp only [List.length_drop,List.length_take,List.length_append,List.length_set] at *;omega)),(by first|omega|(simp only [List.length_drop,List.length_take,List.length_append,List.length_set] at *;omega)),h⟩
          · rw [if_neg c] at h
            refine X.skip ?_
            exact ⟨_,(by omega),(by omega),_,_,_,_,_,_,_,_,_,_,_,_,_,rfl,rfl,(by first|rfl|(simp only [List.length_set];done)|(simp only [List.length_drop,List.length_take,List.length_append,List.length_set] at *;omega)),rfl,rfl,(by first|rfl|(simp only [List.length_set];done)|(simp only [List.length_drop,List.length_take,List.length_append,List.length_set] at *;omega)),rfl,rfl,rfl,(by first|rfl|(simp only [List.length_set];done)|(simp only [List.length_drop,List.length_take,List.length_append,List.length_set] at *;omega)),rfl,rfl,rfl,rfl,(by first|omega|(simp only [List.length_drop,List.length_take,List.length_append,List.length_set] at *;omega)),(by first|omega|(simp only [List.length_drop,List.length_take,List.length_append,List.length_set] at *;omega)),(by first|omega|(simp only [List.length_drop,List.length_take,List.length_append,List.length_set] at *;omega)),h⟩
        · rw [if_pos c] at h
          refine X.exit (B.out ?_)
          refine X.still ?_
          refine S.r 3 rfl rfl ?_
          repeat (rw [giff] at h;obtain ⟨_,h⟩:=h)
          refine O.pu (U.indexO0 rfl (.tmp rfl) rfl rfl (.tmp rfl) (by first|omega|(simp only [List.length_set] at *;omega)) (by first|omega|(simp only [List.length_set] at *;omega)) rfl rfl) ?_
          refine O.ef0 (U.storeE (.tmp rfl) rfl rfl (.tmp (v:=.int _ _) rfl) rfl rfl (.whole (notBad_ne rfl) rfl) .ints) ?_
          refine O.nil ?_
          refine X.still ?_
          refine S.e 3 rfl rfl ?_
          exact ⟨_,(by omega),_,_,_,_,_,_,_,_,_,_,_,rfl,rfl,(by first|rfl|(simp only [List.length_set];done)|(simp only [List.length_drop,List.length_take,List.length_append,List.length_set] at *;omega)),rfl,rfl,(by first|rfl|(simp only [List.length_set];done)|(simp only [List.length_drop,List.length_take,List.length_append,List.length_set] at *;omega)),rfl,rfl,rfl,(by first|rfl|(simp only [List.length_set];done)|(simp only [List.length_drop,List.length_take,List.length_append,List.length_set] at *;omega)),rfl,h⟩
    · rw [if_neg c] at h
      refine X.exit (B.out ?_)
      refine S.O 1 rfl rfl ?_
      obtain ⟨q9,Hq9,h⟩:=Option.bind_eq_some_iff.1 h
      refine O.ef (U.callZ (ss:=[24]) (.cons (.tmp (v:=.os _ _ _ _ _) rfl) .nil) (.cons (.osIf (by simp) rfl (Mode.live_ne rfl) rfl (by first|rfl|(simp only [List.length_set];done)|(simp only [List.length_drop,List.length_take,List.length_append,List.length_set] at *;omega))) .nil) (nat_Of.cs Hq9) (.aggL (.cons .fi .nil)) (nowin rfl)) ?_
      refine S.r 2 rfl rfl ?_
      obtain ⟨q10,Hq10,h⟩:=Option.bind_eq_some_iff.1 h
      refine O.c (quot_Shr.cs Hq10) rfl rfl rfl ?_
      refine S.e 6 rfl rfl ?_
      refine S.O 2 rfl rfl ?_
      obtain ⟨q11,Hq11,h⟩:=Option.bind_eq_some_iff.1 h
      refine O.puE (v':=.os 86 ((s1.b 86).ver + 1) 0 _ true) (b':=⟨(s1.b 86).ver + 1, .own,_,_⟩) (U.callF (ss:=[]) (.cons (.tmp (v:=.agg _) rfl) .nil) (.cons (.cl (.aggL (.cons .fi .nil))) .nil) (nat_Nat_Limbs.cs Hq11)) rfl rfl ?_
      refine S.e 2 rfl rfl ?_
      refine X.ret ?_
      cases h
      exact E.fin [36,86] (.tmp (v:=.os _ _ _ _ _) rfl (.tmp (v:=.os _ _ _ _ _) rfl .nil)) (.cons (.osIf (by simp) rfl (Mode.live_ne rfl) rfl (by first|rfl|(simp only [List.length_set];done)|(simp only [List.length_drop,List.length_take,List.length_append,List.length_set] at *;omega))) (.cons (.osIf (by simp) rfl (Mode.live_ne rfl) rfl (by first|rfl|(simp only [List.length_set];done)|(simp only [List.length_drop,List.length_take,List.length_append,List.length_set] at *;omega))) .nil))
noncomputable def c84:Code:=Tryz.f84.body.getD .skip
theorem fn84:FnOk Tryz.prog 84 Tryz.f84 c84:=⟨Tryz.func84,rfl,by kernel_rfl,by kernel_rfl,mixed⟩
theorem quot_Div.cs {k:Nat} {l0_0:List Int} {l1_0:List Int} {r:List Int×List Int×Int} (h:quot_Div.f k l0_0 l1_0=some r):CS Tryz.prog 84 [.agg [.fi .u64 l0_0], .agg [.fi .u64 l1_0]] .no [.agg [.fi .u64 r.1], .agg [.fi .u64 r.2.1], .int .i64 r.2.2]:=by
  unfold quot_Div.f at h
  refine E.pure fn84 rfl ?_
  refine S.A 5 rfl rfl ?_
  refine X.seq ?_
  refine S.O 1 rfl rfl ?_
  obtain ⟨q1,Hq1,h⟩:=Option.bind_eq_some_iff.1 h
  refine O.c (nat_Nat_Zero.cs Hq1) rfl rfl rfl ?_
  refine O.nil ?_
  refine X.cond (.tmp rfl) (fun c=>?_) (fun c=>?_)
  · rw [if_pos c] at h
    refine S.A 5 rfl rfl ?_
    refine X.ret ?_
    cases h
    exact S.R rfl rfl rfl
  · rw [if_neg (bf c)] at h
    refine X.skip ?_
    refine X.seq ?_
    refine S.O 2 rfl rfl ?_
    obtain ⟨q2,Hq2,h⟩:=Option.bind_eq_some_iff.1 h
    refine O.c (nat_Nat_Cmp.cs Hq2) rfl rfl rfl ?_
    refine S.e 1 rfl rfl ?_
    refine X.condP (.tmp rfl) (fun c=>?_) (fun c=>?_)
    · rw [if_pos c] at h
      refine S.D 5 rfl rfl ?_
      refine D.nil (by kernel_rfl) ?_
      refine X.ret ?_
      cases h
      exact S.R rfl rfl rfl
    · rw [if_neg c] at h
      refine X.skip ?_
      refine S.D 1 rfl rfl ?_
      obtain ⟨q3,Hq3,h⟩:=Option.bind_eq_some_iff.1 h
      refine D.puE (v':=.os 24 (1) 0 _ true) (b':=⟨1, .own,_,_⟩) (U.callF (ss:=[]) (.cons (.tmp (v:=.agg _) rfl) .nil) (.cons (.cl (.aggL (.cons .fi .nil))) .nil) (nat_Nat_Limbs.cs Hq3)) rfl rfl ?_
      refine S.d 1 rfl rfl ?_
      obtain ⟨q4,Hq4,h⟩:=Option.bind_eq_some_iff.1 h
      refine D.puE (v':=.os 26 (1) 0 _ true) (b':=⟨1, .own,_,_⟩) (U.callF (ss:=[]) (.cons (.tmp (v:=.agg _) rfl) .nil) (.cons (.cl (.aggL (.cons .fi .nil))) .nil) (nat_Nat_Limbs.cs Hq4)) rfl rfl ?_
      refine S.d 2 rfl rfl ?_
      refine D.nil (by kernel_rfl) ?_
      refine X.seq ?_
      refine S.O 1 rfl rfl ?_
      refine O.pu (Pu.lenO rfl (.tmp rfl)) ?_
      refine S.e 1 rfl rfl ?_
      refine X.condE (.tmp rfl) (fun c=>?_) (fun c=>?_)
      · rw [if_pos c] at h
        refine S.O 2 rfl rfl ?_
        repeat (rw [giff] at h;obtain ⟨_,h⟩:=h)
        refine O.pu (U.indexO0 rfl (.tmp rfl) rfl rfl .int (by first|omega|(simp only [List.length_set] at *;omega)) (by first|omega|(simp only [List.length_set] at *;omega)) rfl rfl) ?_
        refine O.pu (U.rdO (.tmp rfl) rfl rfl rfl rfl rfl) ?_
        obtain ⟨q5,Hq5,h⟩:=Option.bind_eq_some_iff.1 h
        refine O.ef (U.callZ (ss:=[24]) (.cons (.tmp (v:=.os _ _ _ _ _) rfl) (.cons (.tmp (v:=.int _ _) rfl) .nil)) (.cons (.osIf (by simp) rfl (Mode.live_ne rfl) rfl (by first|rfl|(simp only [List.length_set];done)|(simp only [List.length_drop,List.length_take,List.length_append,List.length_set] at *;omega))) (.cons (.cl .int) .nil)) (quot_by.cs Hq5) (.tupL (.cons .fi (.cons .int .nil))) (nowin rfl)) ?_
        refine S.e 5 rfl rfl ?_
        refine S.O 1 rfl rfl ?_
        obtain ⟨q6,Hq6,h⟩:=Option.bind_eq_some_iff.1 h
        refine O.c (nat_Of.cs Hq6) rfl rfl rfl ?_
        refine S.r 1 rfl rfl ?_
        refine O.puE (v':=.os 41 (1) 0 _ true) (b':=⟨1, .own,_,_⟩) (U.litI rfl rfl (.cons (.tmp (v:=.int _ _) rfl) .nil) rfl rfl) rfl rfl ?_
        obtain ⟨q7,Hq7,h⟩:=Option.bind_eq_some_iff.1 h
        refine O.ef (U.callZ (ss:=[41]) (.cons (.tmp (v:=.os _ _ _ _ _) rfl) .nil) (.cons (.osIf (by simp) rfl (Mode.live_ne rfl) rfl (by first|rfl|(simp only [List.length_set];done)|(simp only [List.length_drop,List.length_take,List.length_append,List.length_set] at *;omega))) .nil) (nat_Of.cs Hq7) (.aggL (.cons .fi .nil)) (nowin rfl)) ?_
        refine S.e 3 rfl rfl ?_
        refine X.ret ?_
        cases h
        exact S.R rfl rfl rfl
      · rw [if_neg c] at h
        refine X.skip ?_
        refine S.O 2 rfl rfl ?_
        obtain ⟨q8,Hq8,h⟩:=Option.bind_eq_some_iff.1 h
        refine O.ef (U.callZ (ss:=[24,26]) (.cons (.tmp (v:=.os _ _ _ _ _) rfl) (.cons (.tmp (v:=.os _ _ _ _ _) rfl) .nil)) (.cons (.osIf (by simp) rfl (Mode.live_ne rfl) rfl (by first|rfl|(simp only [List.length_set];done)|(simp only [List.length_drop,List.length_take,List.length_append,List.length_set] at *;omega))) (.cons (.osIf (by simp) rfl (Mode.live_ne rfl) rfl (by first|rfl|(simp only [List.length_set];done)|(simp only [List.length_drop,List.length_take,List.length_append,List.length_set] at *;omega))) .nil)) (quot_long.cs Hq8) (.tupL (.cons .fi (.cons .fi .nil))) (nowin rfl)) ?_
        refine S.e 5 rfl rfl ?_
        refine S.O 1 rfl rfl ?_
        obtain ⟨q9,Hq9,h⟩:=Option.bind_eq_some_iff.1 h
        refine O.c (nat_Of.cs Hq9) rfl rfl rfl ?_
        refine S.r 1 rfl rfl ?_
        obtain ⟨q10,Hq10,h⟩:=Option.bind_eq_some_iff.1 h
        refine O.c (nat_Of.cs Hq10) rfl rfl rfl ?_
        refine S.e 3 rfl rfl ?_
        refine X.ret ?_
        cases h
        exact S.R rfl rfl rfl
noncomputable def c83:Code:=Tryz.f83.body.getD .skip
theorem fn83:FnOk Tryz.prog 83 Tryz.f83 c83:=⟨Tryz.func83,rfl,by kernel_rfl,by kernel_rfl,mixed⟩
theorem quot_Gcd.cs {k:Nat} {l0_0:List Int} {l1_0:List Int} {r:List Int} (h:quot_Gcd.f k l0_0 l1_0=some r):CS Tryz.prog 83 [.agg [.fi .u64 l0_0], .agg [.fi .u64 l1_0]] .no [.agg [.fi .u64 r]]:=by
  unfold quot_Gcd.f at h
  refine E.pure fn83 rfl ?_
  refine S.A 3 rfl rfl ?_
  refine X.seq ?_
  refine X.block ?_
  refine X.inv (fun k s=>∃ x388000 x389000 u2 u3 u4,s.t 2 = .op 2 u2 0 0∧s.b 2=⟨u2, .own, .vals [.agg [.fi .u64 x388000]],45⟩∧s.t 3 = .op 3 u3 0 0∧s.b 3=⟨u3, .own, .vals [.agg [.fi .u64 x389000]],45⟩∧s.t 4 = .op 4 u4 0 0∧s.b 4=⟨u4, .own, .vals [.agg [.fi .u64 []]],45⟩∧quot_Gcd.l0 k x388000 x389000=some r) ?_ ?_ ⟨_,_,_,_,_,rfl,rfl,rfl,rfl,rfl,rfl,h⟩
  · rintro s ⟨_,_,_,_,_,_,_,_,_,_,_,h⟩;unfold quot_Gcd.l0 at h;cases h
  · rintro k1 s1 ⟨x388000,x389000,u2,u3,u4,e0,e1,e2,e3,e4,e5,h⟩
    unfold quot_Gcd.l0 at h
    rw [St.fixT e0,St.fixB e1,St.fixT e2,St.fixB e3,St.fixT e4,St.fixB e5]
    refine X.seq ?_
    refine S.O 1 rfl rfl ?_
    obtain ⟨q1,Hq1,h⟩:=Option.bind_eq_some_iff.1 h
    refine O.c (nat_Nat_Zero.cs Hq1) rfl rfl rfl ?_
    refine S.e 1 rfl rfl ?_
    refine X.condNot (.tmp rfl) (fun c=>?_) (fun c=>?_)
    · rw [if_neg (bf c)] at h
      refine X.skip ?_
      refine X.block ?_
      refine S.O 2 rfl rfl ?_
      obtain ⟨q2,Hq2,h⟩:=Option.bind_eq_some_iff.1 h
      refine O.c (quot_Div.cs Hq2) rfl rfl rfl ?_
      refine S.e 9 rfl rfl ?_
      refine X.drawn ?_
      refine S.d 4 rfl rfl ?_
      refine D.nil (by kernel_rfl) ?_
      exact ⟨_,(by omega),_,_,_,_,_,rfl,rfl,rfl,rfl,rfl,rfl,h⟩
    · rw [if_pos c] at h
      refine X.exit (B.out ?_)
      refine S.A 2 rfl rfl ?_
      refine X.ret ?_
      cases h
      exact S.R rfl rfl rfl
noncomputable def c124:Code:=Tryz.f124.body.getD .skip
theorem fn124:FnOk Tryz.prog 124 Tryz.f124 c124:=⟨Tryz.func124,rfl,by kernel_rfl,by kernel_rfl,mixed⟩
theorem nat_Nat_limb.cs {l0_0:List Int} {a1:Int} {r:Int} (h:nat_Nat_limb.f l0_0 a1=some r):CS Tryz.prog 124 [.agg [.fi .u64 l0_0], .int .i64 a1] .no [.int .u64 r]:=by
  unfold nat_Nat_limb.f at h
  refine E.pure fn124 rfl ?_
  refine S.A 2 rfl rfl ?_
  refine X.seq ?_
  refine S.O 3 rfl rfl ?_
  refine O.pu (Pu.lenI rfl (.tmp rfl)) ?_
  refine S.e 1 rfl rfl ?_
  refine X.condP (.tmp rfl) (fun c=>?_) (fun c=>?_)
  · rw [if_pos c] at h
    refine S.A 1 rfl rfl ?_
    refine X.ret ?_
    cases h
    exact S.R rfl rfl rfl
  · rw [if_neg c] at h
    refine X.skip ?_
    refine S.O 3 rfl rfl ?_
    repeat (rw [giff] at h;obtain ⟨_,h⟩:=h)
    refine O.pu (U.rdI rfl rfl (.tmp rfl) (.tmp rfl) (by omega) (by omega)) ?_
    refine S.e 2 rfl rfl ?_
    refine X.ret ?_
    cases h
    exact S.R rfl rfl rfl
noncomputable def c85:Code:=Tryz.f85.body.getD .skip
theorem fn85:FnOk Tryz.prog 85 Tryz.f85 c85:=⟨Tryz.func85,rfl,by kernel_rfl,by kernel_rfl,mixed⟩
theorem nat_Nat_Sub.cs {k:Nat} {l0_0:List Int} {l1_0:List Int} {r:List Int×Bool} (h:nat_Nat_Sub.f k l0_0 l1_0=some r):CS Tryz.prog 85 [.agg [.fi .u64 l0_0], .agg [.fi .u64 l1_0]] .no [.agg [.fi .u64 r.1], .bool r.2]:=by
  unfold nat_Nat_Sub.f at h
  refine E.pure fn85 rfl ?_
  refine S.A 4 rfl rfl ?_
  refine X.seq ?_
  refine S.O 2 rfl rfl ?_
  obtain ⟨q1,Hq1,h⟩:=Option.bind_eq_some_iff.1 h
  refine O.c (nat_Nat_Cmp.cs Hq1) rfl rfl rfl ?_
  refine S.e 1 rfl rfl ?_
  refine X.condP (.tmp rfl) (fun c=>?_) (fun c=>?_)
  · rw [if_pos c] at h
    refine S.A 3 rfl rfl ?_
    refine X.ret ?_
    cases h
    exact S.R rfl rfl rfl
  · rw [if_neg c] at h
    refine X.skip ?_
    refine S.O 2 rfl rfl ?_
    refine O.pu (Pu.lenI rfl (.tmp rfl)) ?_
    repeat first|(rw [giff] at h;obtain ⟨_,h⟩:=h)|rw [bdff] at h
    refine O.puE (v':=.os 17 (1) 0 _ true) (b':=⟨1, .own,_,_⟩) (U.makeI rfl rfl (.tmp rfl) (.tmp rfl) (by omega) (by omega) rfl (by omega)) rfl rfl ?_
    refine S.e 1 rfl rfl ?_
    refine S.A 1 rfl rfl ?_
    refine X.seq ?_
    refine S.O 1 rfl rfl ?_
    refine O.pu (Pu.lenO rfl (.tmp rfl)) ?_
    refine S.e 1 rfl rfl ?_
    refine X.block ?_
    refine X.inv (fun k s=>∃ x6 x7 x19 x20 x403000 x404000 n6 u17 u2 u3 u4,s.b 17=⟨u17, .own, .ints .u64 x6,102⟩∧s.t 6 = .os 17 u17 0 n6 true∧x6.length=n6∧s.t 7 = .int .u64 x7∧s.t 19 = .int .i64 x19∧s.t 20 = .int .i64 x20∧s.t 2 = .op 2 u2 0 0∧s.b 2=⟨u2, .own, .vals [.agg [.fi .u64 x403000]],45⟩∧s.t 3 = .op 3 u3 0 0∧s.b 3=⟨u3, .own, .vals [.agg [.fi .u64 x404000]],45⟩∧s.t 4 = .op 4 u4 0 0∧s.b 4=⟨u4, .own, .vals [.agg [.fi .u64 []]],45⟩∧nat_Nat_Sub.l0 k x6 x7 x19 x20 x403000 x404000=some r) ?_ ?_ ⟨_,_,_,_,_,_,_,_,_,_,_,rfl,rfl,rfl,rfl,rfl,rfl,rfl,rfl,rfl,rfl,rfl,rfl,h⟩
    · rintro s ⟨_,_,_,_,_,_,_,_,_,_,_,_,_,_,_,_,_,_,_,_,_,_,_,h⟩;unfold nat_Nat_Sub.l0 at h;cases h
    · rintro k1 s1 ⟨x6,x7,x19,x20,x403000,x404000,n6,u17,u2,u3,u4,e0,e1,rfl,e3,e4,e5,e6,e7,e8,e9,e10,e11,h⟩
      unfold nat_Nat_Sub.l0 at h
      rw [St.fixB e0,St.fixT e1,St.fixT e3,St.fixT e4,St.fixT e5,St.fixT e6,St.fixB e7,St.fixT e8,St.fixB e9,St.fixT e10,St.fixB e11]
      refine S.A 1 rfl rfl ?_
      refine X.seq ?_
      refine X.condP (.tmp rfl) (fun c=>?_) (fun c=>?_)
      · rw [if_pos c] at h
        refine X.skip ?_
        refine X.seq ?_
        refine X.block ?_
        refine S.A 2 rfl rfl ?_
        refine X.drawn ?_
        refine S.d 5 rfl rfl ?_
        repeat (rw [giff] at h;obtain ⟨_,h⟩:=h)
        refine D.pu (U.rdI rfl rfl (.tmp rfl) (.tmp rfl) (by omega) (by omega)) ?_
        refine S.d 3 rfl rfl ?_
        obtain ⟨q2,Hq2,h⟩:=Option.bind_eq_some_iff.1 h
        refine D.c (nat_Nat_limb.cs Hq2) rfl rfl rfl ?_
        refine S.d 1 rfl rfl ?_
        repeat (rw [giff] at h;obtain ⟨_,h⟩:=h)
        refine D.pu (U.call (ss:=[]) (.cons (.tmp (v:=.int _ _) rfl) (.cons (.tmp (v:=.int _ _) rfl) (.cons (.tmp (v:=.int _ _) rfl) .nil))) (.cons (.cl .int) (.cons (.cl .int) (.cons (.cl .int) .nil))) (sub64_cs (by omega)) (.inl rfl) (.tupL (.cons .int (.cons .int .nil)))) ?_
        refine S.d 3 rfl rfl ?_
        refine D.pu (U.indexO0 rfl (.tmp rfl) rfl rfl (.tmp rfl) (by first|omega|(simp only [List.length_set] at *;omega)) (by first|omega|(simp only [List.length_set] at *;omega)) rfl rfl) ?_
        refine D.ef0 (C.storeE (.tmp rfl) rfl rfl (.tmp (v:=.int _ _) rfl) rfl rfl (.whole (notBad_ne rfl) rfl) .ints) ?_
        refine S.d 1 rfl rfl ?_
        refine D.nil (by kernel_rfl) ?_
        refine X.still ?_
        refine S.e 2 rfl rfl ?_
        exact ⟨_,(by omega),_,_,_,_,_,_,_,_,_,_,_,rfl,rfl,(by first|rfl|(simp only [List.length_set];done)|(simp only [List.length_drop,List.length_take,List.length_append,List.length_set] at *;omega)),rfl,rfl,rfl,rfl,rfl,rfl,rfl,rfl,rfl,h⟩
      · rw [if_neg c] at h
        refine X.exit (B.out ?_)
        refine S.O 1 rfl rfl ?_
        obtain ⟨q4,Hq4,h⟩:=Option.bind_eq_some_iff.1 h
        refine O.ef (U.callZ (ss:=[17]) (.cons (.tmp (v:=.os _ _ _ _ _) rfl) .nil) (.cons (.osIf (by simp) rfl (Mode.live_ne rfl) rfl (by first|rfl|(simp only [List.length_set];done)|(simp only [List.length_drop,List.length_take,List.length_append,List.length_set] at *;omega))) .nil) (nat_trimmed.cs Hq4) (.aggL (.cons .fi .nil)) (nowin rfl)) ?_
        refine S.e 2 rfl rfl ?_
        refine X.ret ?_
        cases h
        exact S.R rfl rfl rfl
noncomputable def c52:Code:=Tryz.f52.body.getD .skip
theorem fn52:FnOk Tryz.prog 52 Tryz.f52 c52:=⟨Tryz.func52,rfl,by kernel_rfl,by kernel_rfl,mixed⟩
theorem frac_made.cs {k:Nat} {l0_0:List Int} {a0_1:Bool} {l1_0:List Int} {r:List Int×Bool×List Int} (h:frac_made.f k l0_0 a0_1 l1_0=some r):CS Tryz.prog 52 [.agg [.fi .u64 l0_0, .bool a0_1], .agg [.fi .u64 l1_0]] .no [.agg [.fi .u64 r.1, .bool r.2.1, .fi .u64 r.2.2]]:=by
  unfold frac_made.f at h
  refine E.pure fn52 rfl ?_
  refine S.A 3 rfl rfl ?_
  refine S.D 1 rfl rfl ?_
  obtain ⟨q1,Hq1,h⟩:=Option.bind_eq_some_iff.1 h
  refine D.c (whole_Int_Abs.cs Hq1) rfl rfl rfl ?_
  refine S.d 1 rfl rfl ?_
  obtain ⟨q2,Hq2,h⟩:=Option.bind_eq_some_iff.1 h
  refine D.c (quot_Gcd.cs Hq2) rfl rfl rfl ?_
  refine S.d 2 rfl rfl ?_
  refine D.nil (by kernel_rfl) ?_
  refine S.D 1 rfl rfl ?_
  obtain ⟨q3,Hq3,h⟩:=Option.bind_eq_some_iff.1 h
  refine D.c (whole_Int_Abs.cs Hq3) rfl rfl rfl ?_
  refine S.d 1 rfl rfl ?_
  obtain ⟨q4,Hq4,h⟩:=Option.bind_eq_some_iff.1 h
  refine D.c (quot_Div.cs Hq4) rfl rfl rfl ?_
  refine S.d 9 rfl rfl ?_
  refine D.nil (by kernel_rfl) ?_
  refine S.O 2 rfl rfl ?_
  obtain ⟨q5,Hq5,h⟩:=Option.bind_eq_some_iff.1 h
  refine O.c (quot_Div.cs Hq5) rfl rfl rfl ?_
  refine S.e 9 rfl rfl ?_
  refine S.D 1 rfl rfl ?_
  refine D.puE (v':=.os 35 (1) 0 _ true) (b':=⟨1, .own,_,_⟩) (U.litI rfl rfl (.cons .int .nil) rfl rfl) rfl rfl ?_
  obtain ⟨q6,Hq6,h⟩:=Option.bind_eq_some_iff.1 h
  refine D.ef (C.callZ (ss:=[35]) (.cons (.tmp (v:=.os _ _ _ _ _) rfl) .nil) (.cons (.osIf (by simp) rfl (Mode.live_ne rfl) rfl (by first|rfl|(simp only [List.length_set];done)|(simp only [List.length_drop,List.length_take,List.length_append,List.length_set] at *;omega))) .nil) (nat_Of.cs Hq6) (.aggL (.cons .fi .nil)) (nowin rfl)) ?_
  obtain ⟨q7,Hq7,h⟩:=Option.bind_eq_some_iff.1 h
  refine D.c (nat_Nat_Sub.cs Hq7) rfl rfl rfl ?_
  refine S.d 6 rfl rfl ?_
  refine D.nil (by kernel_rfl) ?_
  refine S.D 2 rfl rfl ?_
  obtain ⟨q8,Hq8,h⟩:=Option.bind_eq_some_iff.1 h
  refine D.c (whole_Int_Sign.cs Hq8) rfl rfl rfl ?_
  refine S.d 1 rfl rfl ?_
  obtain ⟨q9,Hq9,h⟩:=Option.bind_eq_some_iff.1 h
  refine D.c (whole_Of.cs Hq9) rfl rfl rfl ?_
  refine S.d 3 rfl rfl ?_
  refine D.nil (by kernel_rfl) ?_
  refine X.ret ?_
  cases h
  exact S.R rfl rfl rfl
noncomputable def c17:Code:=Tryz.f17.body.getD .skip
theorem fn17:FnOk Tryz.prog 17 Tryz.f17 c17:=⟨Tryz.func17,rfl,by kernel_rfl,by kernel_rfl,mixed⟩
theorem frac_Of.cs {k:Nat} {l0_0:List Int} {a0_1:Bool} {l1_0:List Int} {a1_1:Bool} {r:List Int×Bool×List Int×Int} (h:frac_Of.f k l0_0 a0_1 l1_0 a1_1=some r):CS Tryz.prog 17 [.agg [.fi .u64 l0_0, .bool a0_1], .agg [.fi .u64 l1_0, .bool a1_1]] .no [.agg [.fi .u64 r.1, .bool r.2.1, .fi .u64 r.2.2.1], .int .i64 r.2.2.2]:=by
  unfold frac_Of.f at h
  refine E.pure fn17 rfl ?_
  refine S.A 4 rfl rfl ?_
  refine X.seq ?_
  refine S.O 1 rfl rfl ?_
  obtain ⟨q1,Hq1,h⟩:=Option.bind_eq_some_iff.1 h
  refine O.c (whole_Int_Sign.cs Hq1) rfl rfl rfl ?_
  refine O.nil ?_
  refine X.block ?_
  refine S.A 2 rfl rfl ?_
  refine X.condE (.tmp rfl) (fun c=>?_) (fun c=>?_)
  · rw [if_pos c] at h
    refine S.A 3 rfl rfl ?_
    refine X.ret ?_
    cases h
    exact S.R rfl rfl rfl
  · rw [if_neg c] at h
    refine S.A 2 rfl rfl ?_
    refine X.condE (.tmp rfl) (fun c=>?_) (fun c=>?_)
    · rw [if_pos c] at h
      refine X.still ?_
      refine S.r 1 rfl rfl ?_
      obtain ⟨q2,Hq2,h⟩:=Option.bind_eq_some_iff.1 h
      refine O.c (whole_Int_Neg.cs Hq2) rfl rfl rfl ?_
      refine S.e 1 rfl rfl ?_
      refine S.D 2 rfl rfl ?_
      obtain ⟨q3,Hq3,h⟩:=Option.bind_eq_some_iff.1 h
      refine D.c (whole_Int_Abs.cs Hq3) rfl rfl rfl ?_
      obtain ⟨q4,Hq4,h⟩:=Option.bind_eq_some_iff.1 h
      refine D.c (frac_made.cs Hq4) rfl rfl rfl ?_
      refine S.d 2 rfl rfl ?_
      refine D.nil (by kernel_rfl) ?_
      refine X.ret ?_
      cases h
      exact S.R rfl rfl rfl
    · rw [if_neg c] at h
      refine X.skip ?_
      refine S.D 2 rfl rfl ?_
      obtain ⟨q5,Hq5,h⟩:=Option.bind_eq_some_iff.1 h
      refine D.c (whole_Int_Abs.cs Hq5) rfl rfl rfl ?_
      obtain ⟨q6,Hq6,h⟩:=Option.bind_eq_some_iff.1 h
      refine D.c (frac_made.cs Hq6) rfl rfl rfl ?_
      refine S.d 2 rfl rfl ?_
      refine D.nil (by kernel_rfl) ?_
      refine X.ret ?_
      cases h
      exact S.R rfl rfl rfl
noncomputable def c42:Code:=Tryz.f42.body.getD .skip
theorem fn42:FnOk Tryz.prog 42 Tryz.f42 c42:=⟨Tryz.func42,rfl,by kernel_rfl,by kernel_rfl,mixed⟩
theorem count_part.cs {k:Nat} {a0:Int} {a1:Int} {r:List Int×Bool×List Int} (h:count_part.f k a0 a1=some r):CS Tryz.prog 42 [.int .i64 a0, .int .i64 a1] .no [.agg [.fi .u64 r.1, .bool r.2.1, .fi .u64 r.2.2]]:=by
  unfold count_part.f at h
  refine E.pure fn42 rfl ?_
  refine S.A 1 rfl rfl ?_
  refine S.O 1 rfl rfl ?_
  obtain ⟨q1,Hq1,h⟩:=Option.bind_eq_some_iff.1 h
  refine O.c (whole_From.cs Hq1) rfl rfl rfl ?_
  refine S.r 1 rfl rfl ?_
  obtain ⟨q2,Hq2,h⟩:=Option.bind_eq_some_iff.1 h
  refine O.c (whole_From.cs Hq2) rfl rfl rfl ?_
  obtain ⟨q3,Hq3,h⟩:=Option.bind_eq_some_iff.1 h
  refine O.c (frac_Of.cs Hq3) rfl rfl rfl ?_
  refine S.e 6 rfl rfl ?_
  refine S.A 2 rfl rfl ?_
  refine X.ret ?_
  cases h
  exact S.R rfl rfl rfl
noncomputable def c41:Code:=Tryz.f41.body.getD .skip
theorem fn41:FnOk Tryz.prog 41 Tryz.f41 c41:=⟨Tryz.func41,rfl,by kernel_rfl,by kernel_rfl,mixed⟩
theorem count_thirty.cs {k:Nat} {a0_0:Int} {a0_1:Int} {a0_2:Int} {a1_0:Int} {a1_1:Int} {a1_2:Int} {r:List Int×Bool×List Int} (h:count_thirty.f k a0_0 a0_1 a0_2 a1_0 a1_1 a1_2=some r):CS Tryz.prog 41 [.agg [.int .i64 a0_0, .int .i64 a0_1, .int .i64 a0_2], .agg [.int .i64 a1_0, .int .i64 a1_1, .int .i64 a1_2]] .no [.agg [.fi .u64 r.1, .bool r.2.1, .fi .u64 r.2.2]]:=by
  unfold count_thirty.f at h
  refine E.pure fn41 rfl ?_
  refine S.A 3 rfl rfl ?_
  refine X.seq ?_
  refine S.A 3 rfl rfl ?_
  refine X.condP (.tmp rfl) (fun c=>?_) (fun c=>?_)
  · rw [if_pos c] at h
    refine X.still ?_
    refine S.e 2 rfl rfl ?_
    refine X.seq ?_
    refine S.O 4 rfl rfl ?_
    refine O.splitP (fun c=>?_) (fun c=>?_)
    · rw [if_pos c] at h
      refine S.e 4 rfl rfl ?_
      refine X.condE (.tmp rfl) (fun c=>?_) (fun c=>?_)
      · refine X.still ?_
        refine S.e 2 rfl rfl ?_
        refine S.O 19 rfl rfl ?_
        obtain ⟨q1,Hq1,h⟩:=Option.bind_eq_some_iff.1 h
        refine O.c (count_part.cs Hq1) rfl rfl rfl ?_
        refine S.e 1 rfl rfl ?_
        refine X.ret ?_
        cases h
        exact S.R rfl rfl rfl
      · exact absurd rfl c
    · rw [if_neg c] at h
      refine S.e 4 rfl rfl ?_
      refine X.condF (.tmp rfl) ?_
      refine X.skip ?_
      refine S.O 19 rfl rfl ?_
      obtain ⟨q2,Hq2,h⟩:=Option.bind_eq_some_iff.1 h
      refine O.c (count_part.cs Hq2) rfl rfl rfl ?_
      refine S.e 1 rfl rfl ?_
      refine X.ret ?_
      cases h
      exact S.R rfl rfl rfl
  · rw [if_neg c] at h
    refine X.skip ?_
    refine X.seq ?_
    refine S.O 4 rfl rfl ?_
    refine O.splitP (fun c=>?_) (fun c=>?_)
    · rw [if_pos c] at h
      refine S.e 4 rfl rfl ?_
      refine X.condE (.tmp rfl) (fun c=>?_) (fun c=>?_)
      · rw [if_pos c] at h
        refine X.still ?_
        refine S.e 2 rfl rfl ?_
        refine S.O 19 rfl rfl ?_
        obtain ⟨q3,Hq3,h⟩:=Option.bind_eq_some_iff.1 h
        refine O.c (count_part.cs Hq3) rfl rfl rfl ?_
        refine S.e 1 rfl rfl ?_
        refine X.ret ?_
        cases h
        exact S.R rfl rfl rfl
      · rw [if_neg c] at h
        refine X.skip ?_
        refine S.O 19 rfl rfl ?_
        obtain ⟨q4,Hq4,h⟩:=Option.bind_eq_some_iff.1 h
        refine O.c (count_part.cs Hq4) rfl rfl rfl ?_
        refine S.e 1 rfl rfl ?_
        refine X.ret ?_
        cases h
        exact S.R rfl rfl rfl
    · rw [if_neg c] at h
      refine S.e 4 rfl rfl ?_
      refine X.condF (.tmp rfl) ?_
      refine X.skip ?_
      refine S.O 19 rfl rfl ?_
      obtain ⟨q5,Hq5,h⟩:=Option.bind_eq_some_iff.1 h
      refine O.c (count_part.cs Hq5) rfl rfl rfl ?_
      refine S.e 1 rfl rfl ?_
      refine X.ret ?_
      cases h
      exact S.R rfl rfl rfl
noncomputable def c29:Code:=Tryz.f29.body.getD .skip
theorem fn29:FnOk Tryz.prog 29 Tryz.f29 c29:=⟨Tryz.func29,rfl,by kernel_rfl,by kernel_rfl,mixed⟩
theorem month_Between.cs {k:Nat} {a0_0:Int} {a0_1:Int} {a0_2:Int} {a1_0:Int} {a1_1:Int} {a1_2:Int} {r:Int×Int} (h:month_Between.f k a0_0 a0_1 a0_2 a1_0 a1_1 a1_2=some r):CS Tryz.prog 29 [.agg [.int .i64 a0_0, .int .i64 a0_1, .int .i64 a0_2], .agg [.int .i64 a1_0, .int .i64 a1_1, .int .i64 a1_2]] .no [.int .i64 r.1, .int .i64 r.2]:=by
  unfold month_Between.f at h
  refine E.pure fn29 rfl ?_
  refine S.A 4 rfl rfl ?_
  refine S.O 1 rfl rfl ?_
  obtain ⟨q1,Hq1,h⟩:=Option.bind_eq_some_iff.1 h
  refine O.c (date_Number.cs Hq1) rfl rfl rfl ?_
  refine S.e 5 rfl rfl ?_
  refine X.seq ?_
  refine S.A 2 rfl rfl ?_
  refine X.condN (.tmp rfl) (fun c=>?_) (fun c=>?_)
  · rw [if_neg c] at h
    refine S.A 3 rfl rfl ?_
    refine X.ret ?_
    cases h
    exact S.R rfl rfl rfl
  · rw [if_pos c] at h
    refine X.skip ?_
    refine S.O 1 rfl rfl ?_
    obtain ⟨q2,Hq2,h⟩:=Option.bind_eq_some_iff.1 h
    refine O.c (date_Number.cs Hq2) rfl rfl rfl ?_
    refine S.e 5 rfl rfl ?_
    refine X.seq ?_
    refine S.A 2 rfl rfl ?_
    refine X.condN (.tmp rfl) (fun c=>?_) (fun c=>?_)
    · rw [if_neg c] at h
      refine S.A 3 rfl rfl ?_
      refine X.ret ?_
      cases h
      exact S.R rfl rfl rfl
    · rw [if_pos c] at h
      refine X.skip ?_
      refine S.A 5 rfl rfl ?_
      refine X.ret ?_
      cases h
      exact S.R rfl rfl rfl
noncomputable def c43:Code:=Tryz.f43.body.getD .skip
theorem fn43:FnOk Tryz.prog 43 Tryz.f43 c43:=⟨Tryz.func43,rfl,by kernel_rfl,by kernel_rfl,mixed⟩
theorem count_days.cs {k:Nat} {a0_0:Int} {a0_1:Int} {a0_2:Int} {a1_0:Int} {a1_1:Int} {a1_2:Int} {r:Int} (h:count_days.f k a0_0 a0_1 a0_2 a1_0 a1_1 a1_2=some r):CS Tryz.prog 43 [.agg [.int .i64 a0_0, .int .i64 a0_1, .int .i64 a0_2], .agg [.int .i64 a1_0, .int .i64 a1_1, .int .i64 a1_2]] .no [.int .i64 r]:=by
  unfold count_days.f at h
  refine E.pure fn43 rfl ?_
  refine S.A 3 rfl rfl ?_
  refine S.O 2 rfl rfl ?_
  obtain ⟨q1,Hq1,h⟩:=Option.bind_eq_some_iff.1 h
  refine O.c (month_Between.cs Hq1) rfl rfl rfl ?_
  refine S.e 5 rfl rfl ?_
  refine S.A 2 rfl rfl ?_
  refine X.ret ?_
  cases h
  exact S.R rfl rfl rfl
noncomputable def c95:Code:=Tryz.f95.body.getD .skip
theorem fn95:FnOk Tryz.prog 95 Tryz.f95 c95:=⟨Tryz.func95,rfl,by kernel_rfl,by kernel_rfl,mixed⟩
theorem nat_Nat_Add.cs {k:Nat} {l0_0:List Int} {l1_0:List Int} {r:List Int} (h:nat_Nat_Add.f k l0_0 l1_0=some r):CS Tryz.prog 95 [.agg [.fi .u64 l0_0], .agg [.fi .u64 l1_0]] .no [.agg [.fi .u64 r]]:=by
  unfold nat_Nat_Add.f at h
  refine E.pure fn95 rfl ?_
  refine S.A 3 rfl rfl ?_
  refine S.O 2 rfl rfl ?_
  refine O.pu (Pu.lenI rfl (.tmp rfl)) ?_
  refine S.r 2 rfl rfl ?_
  refine O.pu (Pu.lenI rfl (.tmp rfl)) ?_
  refine O.pu (U.mx (.tmp rfl) (.tmp rfl)) ?_
  refine S.r 1 rfl rfl ?_
  repeat first|(rw [giff] at h;obtain ⟨_,h⟩:=h)|rw [bdff] at h
  refine O.puE (v':=.os 16 (1) 0 _ true) (b':=⟨1, .own,_,_⟩) (U.makeI rfl rfl (.tmp rfl) (.tmp rfl) (by omega) (by omega) rfl (by omega)) rfl rfl ?_
  refine S.e 1 rfl rfl ?_
  refine S.A 1 rfl rfl ?_
  refine X.seq ?_
  refine S.O 1 rfl rfl ?_
  refine O.pu (Pu.lenO rfl (.tmp rfl)) ?_
  refine S.e 1 rfl rfl ?_
  refine X.block ?_
  refine X.inv (fun k s=>∃ x5 x6 x18 x19 x564000 x565000 n5 u16 u2 u3 u4,s.b 16=⟨u16, .own, .ints .u64 x5,102⟩∧s.t 5 = .os 16 u16 0 n5 true∧x5.length=n5∧s.t 6 = .int .u64 x6∧s.t 18 = .int .i64 x18∧s.t 19 = .int .i64 x19∧s.t 2 = .op 2 u2 0 0∧s.b 2=⟨u2, .own, .vals [.agg [.fi .u64 x564000]],45⟩∧s.t 3 = .op 3 u3 0 0∧s.b 3=⟨u3, .own, .vals [.agg [.fi .u64 x565000]],45⟩∧s.t 4 = .op 4 u4 0 0∧s.b 4=⟨u4, .own, .vals [.agg [.fi .u64 []]],45⟩∧nat_Nat_Add.l0 k x5 x6 x18 x19 x564000 x565000=some r) ?_ ?_ ⟨_,_,_,_,_,_,_,_,_,_,_,rfl,rfl,rfl,rfl,rfl,rfl,rfl,rfl,rfl,rfl,rfl,rfl,h⟩
  · rintro s ⟨_,_,_,_,_,_,_,_,_,_,_,_,_,_,_,_,_,_,_,_,_,_,_,h⟩;unfold nat_Nat_Add.l0 at h;cases h
  · rintro k1 s1 ⟨x5,x6,x18,x19,x564000,x565000,n5,u16,u2,u3,u4,e0,e1,rfl,e3,e4,e5,e6,e7,e8,e9,e10,e11,h⟩
    unfold nat_Nat_Add.l0 at h
    rw [St.fixB e0,St.fixT e1,St.fixT e3,St.fixT e4,St.fixT e5,St.fixT e6,St.fixB e7,St.fixT e8,St.fixB e9,St.fixT e10,St.fixB e11]
    refine S.A 1 rfl rfl ?_
    refine X.seq ?_
    refine X.condP (.tmp rfl) (fun c=>?_) (fun c=>?_)
    · rw [if_pos c] at h
      refine X.skip ?_
      refine X.seq ?_
      refine X.block ?_
      refine S.A 2 rfl rfl ?_
      refine X.drawn ?_
      refine S.d 4 rfl rfl ?_
      obtain ⟨q1,Hq1,h⟩:=Option.bind_eq_some_iff.1 h
      refine D.c (nat_Nat_limb.cs Hq1) rfl rfl rfl ?_
      refine S.d 2 rfl rfl ?_
      obtain ⟨q2,Hq2,h⟩:=Option.bind_eq_some_iff.1 h
      refine D.c (nat_Nat_limb.cs Hq2) rfl rfl rfl ?_
      refine S.d 1 rfl rfl ?_
      repeat (rw [giff] at h;obtain ⟨_,h⟩:=h)
      refine D.pu (U.call (ss:=[]) (.cons (.tmp (v:=.int _ _) rfl) (.cons (.tmp (v:=.int _ _) rfl) (.cons (.tmp (v:=.int _ _) rfl) .nil))) (.cons (.cl .int) (.cons (.cl .int) (.cons (.cl .int) .nil))) (add64_cs (by omega)) (.inl rfl) (.tupL (.cons .int (.cons .int .nil)))) ?_
      refine S.d 3 rfl rfl ?_
      refine D.pu (U.indexO0 rfl (.tmp rfl) rfl rfl (.tmp rfl) (by first|omega|(simp only [List.length_set] at *;omega)) (by first|omega|(simp only [List.length_set] at *;omega)) rfl rfl) ?_
      refine D.ef0 (C.storeE (.tmp rfl) rfl rfl (.tmp (v:=.int _ _) rfl) rfl rfl (.whole (notBad_ne rfl) rfl) .ints) ?_
      refine S.d 1 rfl rfl ?_
      refine D.nil (by kernel_rfl) ?_
      refine X.still ?_
      refine S.e 2 rfl rfl ?_
      exact ⟨_,(by omega),_,_,_,_,_,_,_,_,_,_,_,rfl,rfl,(by first|rfl|(simp only [List.length_set];done)|(simp only [List.length_drop,List.length_take,List.length_append,List.length_set] at *;omega)),rfl,rfl,rfl,rfl,rfl,rfl,rfl,rfl,rfl,h⟩
    · rw [if_neg c] at h
      refine X.exit (B.out ?_)
      refine S.O 1 rfl rfl ?_
      obtain ⟨q4,Hq4,h⟩:=Option.bind_eq_some_iff.1 h
      refine O.ef (U.callZ (ss:=[16]) (.cons (.tmp (v:=.os _ _ _ _ _) rfl) .nil) (.cons (.osIf (by simp) rfl (Mode.live_ne rfl) rfl (by first|rfl|(simp only [List.length_set];done)|(simp only [List.length_drop,List.length_take,List.length_append,List.length_set] at *;omega))) .nil) (nat_trimmed.cs Hq4) (.aggL (.cons .fi .nil)) (nowin rfl)) ?_
      refine S.e 1 rfl rfl ?_
      refine X.ret ?_
      cases h
      exact S.R rfl rfl rfl
noncomputable def c60:Code:=Tryz.f60.body.getD .skip
theorem fn60:FnOk Tryz.prog 60 Tryz.f60 c60:=⟨Tryz.func60,rfl,by kernel_rfl,by kernel_rfl,mixed⟩
theorem frac_Frac_Den.cs {k:Nat} {l0_0:List Int} {a0_1:Bool} {l0_2:List Int} {r:List Int} (h:frac_Frac_Den.f k l0_0 a0_1 l0_2=some r):CS Tryz.prog 60 [.agg [.fi .u64 l0_0, .bool a0_1, .fi .u64 l0_2]] .no [.agg [.fi .u64 r]]:=by
  unfold frac_Frac_Den.f at h
  refine E.pure fn60 rfl ?_
  refine S.A 2 rfl rfl ?_
  refine S.D 2 rfl rfl ?_
  refine D.puE (v':=.os 5 (1) 0 _ true) (b':=⟨1, .own,_,_⟩) (U.litI rfl rfl (.cons .int .nil) rfl rfl) rfl rfl ?_
  obtain ⟨q1,Hq1,h⟩:=Option.bind_eq_some_iff.1 h
  refine D.ef (C.callZ (ss:=[5]) (.cons (.tmp (v:=.os _ _ _ _ _) rfl) .nil) (.cons (.osIf (by simp) rfl (Mode.live_ne rfl) rfl (by first|rfl|(simp only [List.length_set];done)|(simp only [List.length_drop,List.length_take,List.length_append,List.length_set] at *;omega))) .nil) (nat_Of.cs Hq1) (.aggL (.cons .fi .nil)) (nowin rfl)) ?_
  obtain ⟨q2,Hq2,h⟩:=Option.bind_eq_some_iff.1 h
  refine D.c (nat_Nat_Add.cs Hq2) rfl rfl rfl ?_
  refine S.d 1 rfl rfl ?_
  refine D.nil (by kernel_rfl) ?_
  refine X.ret ?_
  cases h
  exact S.R rfl rfl rfl
noncomputable def c103:Code:=Tryz.f103.body.getD .skip
theorem fn103:FnOk Tryz.prog 103 Tryz.f103 c103:=⟨Tryz.func103,rfl,by kernel_rfl,by kernel_rfl,mixed⟩
theorem nat_Nat_row.cs {k:Nat} {l0_0:List Int} {a1:Int} {l2:List Int} {r:List Int} (h:nat_Nat_row.f k l0_0 a1 l2=some r):CS Tryz.prog 103 [.agg [.fi .u64 l0_0], .int .u64 a1, .os 2 1 0 l2.length false] ⟨some (2, .ints .u64 l2, .ints .u64 r,102),none⟩ []:=by
  have hl:=nat_Nat_row_len h
  unfold nat_Nat_row.f at h
  refine E.win fn103 rfl hl (.tupL .nil) ?_
  refine S.A 1 rfl rfl ?_
  refine S.A 1 rfl rfl ?_
  refine X.seq ?_
  refine S.O 2 rfl rfl ?_
  refine O.pu (Pu.lenI rfl (.tmp rfl)) ?_
  refine S.e 1 rfl rfl ?_
  refine X.block ?_
  refine X.inv (fun k s=>∃ x1 x2 x6 x13 x14 x15 x587000 n2 u3,s.t 1 = .int .u64 x1∧s.b 2=⟨1, .win, .ints .u64 x2,102⟩∧s.t 2 = .os 2 1 0 n2 false∧x2.length=n2∧s.t 6 = .int .u64 x6∧s.t 13 = .fi .u64 x13∧s.t 14 = .int .i64 x14∧s.t 15 = .int .i64 x15∧s.t 3 = .op 3 u3 0 0∧s.b 3=⟨u3, .own, .vals [.agg [.fi .u64 x587000]],45⟩∧nat_Nat_row.l0 k x1 x2 x6 x13 x14 x15 x587000=some r) ?_ ?_ ⟨_,_,_,_,_,_,_,_,_,rfl,rfl,rfl,rfl,rfl,rfl,rfl,rfl,rfl,rfl,h⟩
  · rintro s ⟨_,_,_,_,_,_,_,_,_,_,_,_,_,_,_,_,_,_,_,h⟩;unfold nat_Nat_row.l0 at h;cases h
  · rintro k1 s1 ⟨x1,x2,x6,x13,x14,x15,x587000,n2,u3,e0,e1,e2,rfl,e4,e5,e6,e7,e8,e9,h⟩
    unfold nat_Nat_row.l0 at h
    rw [St.fixT e0,St.fixB e1,St.fixT e2,St.fixT e4,St.fixT e5,St.fixT e6,St.fixT e7,St.fixT e8,St.fixB e9]
    refine S.A 1 rfl rfl ?_
    refine X.seq ?_
    refine X.condP (.tmp rfl) (fun c=>?_) (fun c=>?_)
    · rw [if_pos c] at h
      refine X.skip ?_
      refine X.seq ?_
      refine X.block ?_
      refine S.O 1 rfl rfl ?_
      repeat (rw [giff] at h;obtain ⟨_,h⟩:=h)
      refine O.pu (U.rdI rfl rfl (.tmp rfl) (.tmp rfl) (by omega) (by omega)) ?_
      refine S.e 3 rfl rfl ?_
      refine S.O 2 rfl rfl ?_
      obtain ⟨q1,Hq1,h⟩:=Option.bind_eq_some_iff.1 h
      refine O.c (bits_Mul64.cs Hq1) rfl rfl rfl ?_
      refine S.e 5 rfl rfl ?_
      refine S.A 1 rfl rfl ?_
      refine S.O 2 rfl rfl ?_
      repeat (rw [giff] at h;obtain ⟨_,h⟩:=h)
      refine O.pu (U.call (ss:=[]) (.cons (.tmp (v:=.int _ _) rfl) (.cons (.tmp (v:=.int _ _) rfl) (.cons .int .nil))) (.cons (.cl .int) (.cons (.cl .int) (.cons (.cl .int) .nil))) (add64_cs (by omega)) (.inl rfl) (.tupL (.cons .int (.cons .int .nil)))) ?_
      refine S.e 5 rfl rfl ?_
      refine S.A 4 rfl rfl ?_
      refine S.O 4 rfl rfl ?_
      refine O.pu (U.indexO0 rfl (.tmp rfl) rfl rfl (.tmp rfl) (by first|omega|(simp only [List.length_set] at *;omega)) (by first|omega|(simp only [List.length_set] at *;omega)) rfl rfl) ?_
      refine O.pu (U.rdO (.tmp rfl) rfl rfl rfl rfl rfl) ?_
      refine S.r 1 rfl rfl ?_
      refine O.pu (U.call (ss:=[]) (.cons (.tmp (v:=.int _ _) rfl) (.cons (.tmp (v:=.int _ _) rfl) (.cons .int .nil))) (.cons (.cl .int) (.cons (.cl .int) (.cons (.cl .int) .nil))) (add64_cs (by omega)) (.inl rfl) (.tupL (.cons .int (.cons .int .nil)))) ?_
      refine S.r 3 rfl rfl ?_
      refine O.pu (U.indexO0 rfl (.tmp rfl) rfl rfl (.tmp rfl) (by first|omega|(simp only [List.length_set] at *;omega)) (by first|omega|(simp only [List.length_set] at *;omega)) rfl rfl) ?_
      refine O.ef0 (U.storeE (.tmp rfl) rfl rfl (.tmp (v:=.int _ _) rfl) rfl rfl (.whole (notBad_ne rfl) rfl) .ints) ?_
      refine S.e 1 rfl rfl ?_
      refine X.still ?_
      refine S.e 4 rfl rfl ?_
      refine X.still ?_
      refine S.e 2 rfl rfl ?_
      exact ⟨_,(by omega),_,_,_,_,_,_,_,_,_,rfl,rfl,rfl,(by first|rfl|(simp only [List.length_set];done)|(simp only [List.length_drop,List.length_take,List.length_append,List.length_set] at *;omega)),rfl,rfl,rfl,rfl,rfl,rfl,h⟩
    · rw [if_neg c] at h
      refine X.exit (B.out ?_)
      refine X.still ?_
      refine S.r 3 rfl rfl ?_
      refine O.pu (Pu.lenI rfl (.tmp rfl)) ?_
      repeat (rw [giff] at h;obtain ⟨_,h⟩:=h)
      refine O.pu (U.indexO0 rfl (.tmp rfl) rfl rfl (.tmp rfl) (by first|omega|(simp only [List.length_set] at *;omega)) (by first|omega|(simp only [List.length_set] at *;omega)) rfl rfl) ?_
      refine O.pu (U.rdO (.tmp rfl) rfl rfl rfl rfl rfl) ?_
      refine S.r 2 rfl rfl ?_
      refine O.pu (U.indexO0 rfl (.tmp rfl) rfl rfl (.tmp rfl) (by first|omega|(simp only [List.length_set] at *;omega)) (by first|omega|(simp only [List.length_set] at *;omega)) rfl rfl) ?_
      refine O.ef0 (U.storeE (.tmp rfl) rfl rfl (.tmp (v:=.int _ _) rfl) rfl rfl (.whole (notBad_ne rfl) rfl) .ints) ?_
      refine O.nil ?_
      cases h
      exact E.finW .nil rfl
noncomputable def c69:Code:=Tryz.f69.body.getD .skip
theorem fn69:FnOk Tryz.prog 69 Tryz.f69 c69:=⟨Tryz.func69,rfl,by kernel_rfl,by kernel_rfl,mixed⟩
theorem nat_Nat_Mul.cs {k:Nat} {l0_0:List Int} {l1_0:List Int} {r:List Int} (h:nat_Nat_Mul.f k l0_0 l1_0=some r):CS Tryz.prog 69 [.agg [.fi .u64 l0_0], .agg [.fi .u64 l1_0]] .no [.agg [.fi .u64 r]]:=by
  unfold nat_Nat_Mul.f at h
  refine E.pure fn69 rfl ?_
  refine S.A 3 rfl rfl ?_
  refine S.O 2 rfl rfl ?_
  refine O.pu (Pu.lenI rfl (.tmp rfl)) ?_
  refine S.r 2 rfl rfl ?_
  refine O.pu (Pu.lenI rfl (.tmp rfl)) ?_
  refine S.r 2 rfl rfl ?_
  repeat (rw [giff] at h;obtain ⟨_,h⟩:=h)
  refine O.puE (v':=.os 16 (1) 0 _ true) (b':=⟨1, .own,_,_⟩) (U.makeI rfl rfl (.tmp rfl) (.tmp rfl) (by omega) (by omega) rfl (by omega)) rfl rfl ?_
  refine S.e 1 rfl rfl ?_
  refine X.seq ?_
  refine S.O 2 rfl rfl ?_
  refine O.pu (Pu.lenI rfl (.tmp rfl)) ?_
  refine S.e 1 rfl rfl ?_
  refine X.block ?_
  refine X.inv (fun k s=>∃ x5 x18 x19 x20 x595000 n5 u16 u2 u3 u4 z3_0,s.b 16=⟨u16, .own, .ints .u64 x5,102⟩∧s.t 5 = .os 16 u16 0 n5 true∧x5.length=n5∧s.t 18 = .fi .u64 x18∧s.t 19 = .int .i64 x19∧s.t 20 = .int .i64 x20∧s.t 2 = .op 2 u2 0 0∧s.b 2=⟨u2, .own, .vals [.agg [.fi .u64 x595000]],45⟩∧s.t 3 = .op 3 u3 0 0∧s.b 3=⟨u3, .own, .vals [.agg [.fi .u64 z3_0]],45⟩∧s.t 4 = .op 4 u4 0 0∧s.b 4=⟨u4, .own, .vals [.agg [.fi .u64 []]],45⟩∧nat_Nat_Mul.l0 k x5 x18 x19 x20 x595000=some r) ?_ ?_ ⟨_,_,_,_,_,_,_,_,_,_,_,rfl,rfl,rfl,rfl,rfl,rfl,rfl,rfl,rfl,rfl,rfl,rfl,h⟩
  · rintro s ⟨_,_,_,_,_,_,_,_,_,_,_,_,_,_,_,_,_,_,_,_,_,_,_,h⟩;unfold nat_Nat_Mul.l0 at h;cases h
  · rintro k1 s1 ⟨x5,x18,x19,x20,x595000,n5,u16,u2,u3,u4,z3_0,e0,e1,rfl,e3,e4,e5,e6,e7,e8,e9,e10,e11,h⟩
    unfold nat_Nat_Mul.l0 at h
    rw [St.fixB e0,St.fixT e1,St.fixT e3,St.fixT e4,St.fixT e5,St.fixT e6,St.fixB e7,St.fixT e8,St.fixB e9,St.fixT e10,St.fixB e11]
    refine S.A 1 rfl rfl ?_
    refine X.seq ?_
    refine X.condP (.tmp rfl) (fun c=>?_) (fun c=>?_)
    · rw [if_pos c] at h
      refine X.skip ?_
      refine X.seq ?_
      refine X.block ?_
      refine S.O 1 rfl rfl ?_
      repeat (rw [giff] at h;obtain ⟨_,h⟩:=h)
      refine O.pu (U.rdI rfl rfl (.tmp rfl) (.tmp rfl) (by omega) (by omega)) ?_
      refine S.e 3 rfl rfl ?_
      refine X.drawn ?_
      refine S.d 4 rfl rfl ?_
      obtain ⟨q1,Hq1,h⟩:=Option.bind_eq_some_iff.1 h
      obtain ⟨⟨_,_,_⟩,q2,Hq2,rfl⟩:=win_e Hq1
      have hlq2:=nat_Nat_row_len Hq2
      refine D.pu (U.sliceO0 rfl (.tmp rfl) rfl rfl ⟨rfl,rfl⟩ (.yes (.tmp rfl) (by omega)) .no .no (by omega) (by omega)) ?_
      refine D.any (U.callW (res:=[]) (ss:=[]) (.cons (.tmp (v:=.agg _) rfl) (.cons (.tmp (v:=.int _ _) rfl) (.cons (.tmp (v:=.os _ _ _ _ _) rfl) .nil))) (.cons (.cl (.aggL (.cons .fi .nil))) (.cons (.cl .int) (.hole ⟨rfl,fun i hi=>absurd hi (Nat.not_lt_zero i)⟩))) rfl rfl rfl rfl rfl (by simp only [List.length_drop,List.length_take,List.length_append,List.length_set] at *;omega) (by simp only [List.length_drop,List.length_take,List.length_append,List.length_set] at *;omega) (by simp only [List.length_drop,List.length_take,List.length_append,List.length_set] at *;omega) (by simp only [List.length_drop,List.length_take,List.length_append,List.length_set] at *;omega) (.tupL .nil) (nat_Nat_row.cs Hq2)) ?_
      refine D.nil (by kernel_rfl) ?_
      refine X.still ?_
      refine S.e 2 rfl rfl ?_
      exact ⟨_,(by omega),_,_,_,_,_,_,_,_,_,_,_,rfl,rfl,(by first|rfl|(simp only [List.length_set];done)|(simp only [List.length_drop,List.length_take,List.length_append,List.length_set] at *;omega)),rfl,rfl,rfl,rfl,rfl,rfl,rfl,rfl,rfl,h⟩
    · rw [if_neg c] at h
      refine X.exit (B.out ?_)
      refine S.O 1 rfl rfl ?_
      obtain ⟨q3,Hq3,h⟩:=Option.bind_eq_some_iff.1 h
      refine O.ef (U.callZ (ss:=[16]) (.cons (.tmp (v:=.os _ _ _ _ _) rfl) .nil) (.cons (.osIf (by simp) rfl (Mode.live_ne rfl) rfl (by first|rfl|(simp only [List.length_set];done)|(simp only [List.length_drop,List.length_take,List.length_append,List.length_set] at *;omega))) .nil) (nat_trimmed.cs Hq3) (.aggL (.cons .fi .nil)) (nowin rfl)) ?_
      refine S.e 1 rfl rfl ?_
      refine X.ret ?_
      cases h
      exact S.R rfl rfl rfl
noncomputable def c66:Code:=Tryz.f66.body.getD .skip
theorem fn66:FnOk Tryz.prog 66 Tryz.f66 c66:=⟨Tryz.func66,rfl,by kernel_rfl,by kernel_rfl,mixed⟩
theorem whole_Int_Mul.cs {k:Nat} {l0_0:List Int} {a0_1:Bool} {l1_0:List Int} {a1_1:Bool} {r:List Int×Bool} (h:whole_Int_Mul.f k l0_0 a0_1 l1_0 a1_1=some r):CS Tryz.prog 66 [.agg [.fi .u64 l0_0, .bool a0_1], .agg [.fi .u64 l1_0, .bool a1_1]] .no [.agg [.fi .u64 r.1, .bool r.2]]:=by
  unfold whole_Int_Mul.f at h
  refine E.pure fn66 rfl ?_
  refine S.A 3 rfl rfl ?_
  refine S.D 4 rfl rfl ?_
  obtain ⟨q1,Hq1,h⟩:=Option.bind_eq_some_iff.1 h
  refine D.c (nat_Nat_Mul.cs Hq1) rfl rfl rfl ?_
  refine S.d 5 rfl rfl ?_
  obtain ⟨q2,Hq2,h⟩:=Option.bind_eq_some_iff.1 h
  refine D.c (whole_Of.cs Hq2) rfl rfl rfl ?_
  refine S.d 1 rfl rfl ?_
  refine D.nil (by kernel_rfl) ?_
  refine X.ret ?_
  cases h
  exact S.R rfl rfl rfl
noncomputable def c67:Code:=Tryz.f67.body.getD .skip
theorem fn67:FnOk Tryz.prog 67 Tryz.f67 c67:=⟨Tryz.func67,rfl,by kernel_rfl,by kernel_rfl,mixed⟩
theorem frac_Frac_den.cs {k:Nat} {l0_0:List Int} {a0_1:Bool} {l0_2:List Int} {r:List Int×Bool} (h:frac_Frac_den.f k l0_0 a0_1 l0_2=some r):CS Tryz.prog 67 [.agg [.fi .u64 l0_0, .bool a0_1, .fi .u64 l0_2]] .no [.agg [.fi .u64 r.1, .bool r.2]]:=by
  unfold frac_Frac_den.f at h
  refine E.pure fn67 rfl ?_
  refine S.A 2 rfl rfl ?_
  refine S.O 1 rfl rfl ?_
  obtain ⟨q1,Hq1,h⟩:=Option.bind_eq_some_iff.1 h
  refine O.c (frac_Frac_Den.cs Hq1) rfl rfl rfl ?_
  obtain ⟨q2,Hq2,h⟩:=Option.bind_eq_some_iff.1 h
  refine O.c (whole_Of.cs Hq2) rfl rfl rfl ?_
  refine S.e 1 rfl rfl ?_
  refine X.ret ?_
  cases h
  exact S.R rfl rfl rfl
noncomputable def c90:Code:=Tryz.f90.body.getD .skip
theorem fn90:FnOk Tryz.prog 90 Tryz.f90 c90:=⟨Tryz.func90,rfl,by kernel_rfl,by kernel_rfl,mixed⟩
theorem whole_Int_Add.cs {k:Nat} {l0_0:List Int} {a0_1:Bool} {l1_0:List Int} {a1_1:Bool} {r:List Int×Bool} (h:whole_Int_Add.f k l0_0 a0_1 l1_0 a1_1=some r):CS Tryz.prog 90 [.agg [.fi .u64 l0_0, .bool a0_1], .agg [.fi .u64 l1_0, .bool a1_1]] .no [.agg [.fi .u64 r.1, .bool r.2]]:=by
  unfold whole_Int_Add.f at h
  refine E.pure fn90 rfl ?_
  refine S.A 3 rfl rfl ?_
  refine X.seq ?_
  refine S.A 5 rfl rfl ?_
  refine X.cond (.tmp rfl) (fun c=>?_) (fun c=>?_)
  · rw [if_pos c] at h
    refine S.D 4 rfl rfl ?_
    obtain ⟨q1,Hq1,h⟩:=Option.bind_eq_some_iff.1 h
    refine D.c (nat_Nat_Add.cs Hq1) rfl rfl rfl ?_
    refine S.d 2 rfl rfl ?_
    obtain ⟨q2,Hq2,h⟩:=Option.bind_eq_some_iff.1 h
    refine D.c (whole_Of.cs Hq2) rfl rfl rfl ?_
    refine S.d 1 rfl rfl ?_
    refine D.nil (by kernel_rfl) ?_
    refine X.ret ?_
    cases h
    exact S.R rfl rfl rfl
  · rw [if_neg (bf c)] at h
    refine X.skip ?_
    refine X.seq ?_
    refine S.O 4 rfl rfl ?_
    obtain ⟨q3,Hq3,h⟩:=Option.bind_eq_some_iff.1 h
    refine O.c (nat_Nat_Sub.cs Hq3) rfl rfl rfl ?_
    refine S.e 6 rfl rfl ?_
    refine S.A 1 rfl rfl ?_
    refine X.cond (.tmp rfl) (fun c=>?_) (fun c=>?_)
    · rw [if_pos c] at h
      refine S.O 3 rfl rfl ?_
      obtain ⟨q4,Hq4,h⟩:=Option.bind_eq_some_iff.1 h
      refine O.c (whole_Of.cs Hq4) rfl rfl rfl ?_
      refine S.e 1 rfl rfl ?_
      refine X.ret ?_
      cases h
      exact S.R rfl rfl rfl
    · rw [if_neg (bf c)] at h
      refine X.skip ?_
      refine S.O 4 rfl rfl ?_
      obtain ⟨q5,Hq5,h⟩:=Option.bind_eq_some_iff.1 h
      refine O.c (nat_Nat_Sub.cs Hq5) rfl rfl rfl ?_
      refine S.e 6 rfl rfl ?_
      refine S.O 3 rfl rfl ?_
      obtain ⟨q6,Hq6,h⟩:=Option.bind_eq_some_iff.1 h
      refine O.c (whole_Of.cs Hq6) rfl rfl rfl ?_
      refine S.e 1 rfl rfl ?_
      refine X.ret ?_
      cases h
      exact S.R rfl rfl rfl
noncomputable def c56:Code:=Tryz.f56.body.getD .skip
theorem fn56:FnOk Tryz.prog 56 Tryz.f56 c56:=⟨Tryz.func56,rfl,by kernel_rfl,by kernel_rfl,mixed⟩
theorem frac_Frac_Add.cs {k:Nat} {l0_0:List Int} {a0_1:Bool} {l0_2:List Int} {l1_0:List Int} {a1_1:Bool} {l1_2:List Int} {r:List Int×Bool×List Int} (h:frac_Frac_Add.f k l0_0 a0_1 l0_2 l1_0 a1_1 l1_2=some r):CS Tryz.prog 56 [.agg [.fi .u64 l0_0, .bool a0_1, .fi .u64 l0_2], .agg [.fi .u64 l1_0, .bool a1_1, .fi .u64 l1_2]] .no [.agg [.fi .u64 r.1, .bool r.2.1, .fi .u64 r.2.2]]:=by
  unfold frac_Frac_Add.f at h
  refine E.pure fn56 rfl ?_
  refine S.A 3 rfl rfl ?_
  refine S.D 3 rfl rfl ?_
  obtain ⟨q1,Hq1,h⟩:=Option.bind_eq_some_iff.1 h
  refine D.c (frac_Frac_den.cs Hq1) rfl rfl rfl ?_
  obtain ⟨q2,Hq2,h⟩:=Option.bind_eq_some_iff.1 h
  refine D.c (whole_Int_Mul.cs Hq2) rfl rfl rfl ?_
  refine S.d 3 rfl rfl ?_
  obtain ⟨q3,Hq3,h⟩:=Option.bind_eq_some_iff.1 h
  refine D.c (frac_Frac_den.cs Hq3) rfl rfl rfl ?_
  obtain ⟨q4,Hq4,h⟩:=Option.bind_eq_some_iff.1 h
  refine D.c (whole_Int_Mul.cs Hq4) rfl rfl rfl ?_
  obtain ⟨q5,Hq5,h⟩:=Option.bind_eq_some_iff.1 h
  refine D.c (whole_Int_Add.cs Hq5) rfl rfl rfl ?_
  refine S.d 1 rfl rfl ?_
  obtain ⟨q6,Hq6,h⟩:=Option.bind_eq_some_iff.1 h
  refine D.c (frac_Frac_Den.cs Hq6) rfl rfl rfl ?_
  refine S.d 1 rfl rfl ?_
  obtain ⟨q7,Hq7,h⟩:=Option.bind_eq_some_iff.1 h
  refine D.c (frac_Frac_Den.cs Hq7) rfl rfl rfl ?_
  obtain ⟨q8,Hq8,h⟩:=Option.bind_eq_some_iff.1 h
  refine D.c (nat_Nat_Mul.cs Hq8) rfl rfl rfl ?_
  obtain ⟨q9,Hq9,h⟩:=Option.bind_eq_some_iff.1 h
  refine D.c (frac_made.cs Hq9) rfl rfl rfl ?_
  refine S.d 1 rfl rfl ?_
  refine D.nil (by kernel_rfl) ?_
  refine X.ret ?_
  cases h
  exact S.R rfl rfl rfl
noncomputable def c79:Code:=Tryz.f79.body.getD .skip
theorem fn79:FnOk Tryz.prog 79 Tryz.f79 c79:=⟨Tryz.func79,rfl,by kernel_rfl,by kernel_rfl,mixed⟩
theorem count_year.cs {a0:Int} {r:Int} (h:count_year.f a0=some r):CS Tryz.prog 79 [.int .i64 a0] .no [.int .i64 r]:=by
  unfold count_year.f at h
  refine E.pure fn79 rfl ?_
  refine S.A 1 rfl rfl ?_
  refine X.seq ?_
  refine S.O 1 rfl rfl ?_
  obtain ⟨q1,Hq1,h⟩:=Option.bind_eq_some_iff.1 h
  refine O.c (date_Leap.cs Hq1) rfl rfl rfl ?_
  refine O.nil ?_
  refine X.cond (.tmp rfl) (fun c=>?_) (fun c=>?_)
  · rw [if_pos c] at h
    refine S.A 1 rfl rfl ?_
    refine X.ret ?_
    cases h
    exact S.R rfl rfl rfl
  · rw [if_neg (bf c)] at h
    refine X.skip ?_
    refine S.A 1 rfl rfl ?_
    refine X.ret ?_
    cases h
    exact S.R rfl rfl rfl
noncomputable def c44:Code:=Tryz.f44.body.getD .skip
theorem fn44:FnOk Tryz.prog 44 Tryz.f44 c44:=⟨Tryz.func44,rfl,by kernel_rfl,by kernel_rfl,mixed⟩
theorem count_actual.cs {k:Nat} {a0_0:Int} {a0_1:Int} {a0_2:Int} {a1_0:Int} {a1_1:Int} {a1_2:Int} {r:List Int×Bool×List Int} (h:count_actual.f k a0_0 a0_1 a0_2 a1_0 a1_1 a1_2=some r):CS Tryz.prog 44 [.agg [.int .i64 a0_0, .int .i64 a0_1, .int .i64 a0_2], .agg [.int .i64 a1_0, .int .i64 a1_1, .int .i64 a1_2]] .no [.agg [.fi .u64 r.1, .bool r.2.1, .fi .u64 r.2.2]]:=by
  unfold count_actual.f at h
  refine E.pure fn44 rfl ?_
  refine S.A 3 rfl rfl ?_
  refine X.seq ?_
  refine S.A 5 rfl rfl ?_
  refine X.condE (.tmp rfl) (fun c=>?_) (fun c=>?_)
  · rw [if_pos c] at h
    refine S.D 2 rfl rfl ?_
    obtain ⟨q1,Hq1,h⟩:=Option.bind_eq_some_iff.1 h
    refine D.c (count_days.cs Hq1) rfl rfl rfl ?_
    refine S.d 2 rfl rfl ?_
    obtain ⟨q2,Hq2,h⟩:=Option.bind_eq_some_iff.1 h
    refine D.c (count_year.cs Hq2) rfl rfl rfl ?_
    obtain ⟨q3,Hq3,h⟩:=Option.bind_eq_some_iff.1 h
    refine D.c (count_part.cs Hq3) rfl rfl rfl ?_
    refine S.d 1 rfl rfl ?_
    refine D.nil (by kernel_rfl) ?_
    refine X.ret ?_
    cases h
    exact S.R rfl rfl rfl
  · rw [if_neg c] at h
    refine X.skip ?_
    refine S.O 4 rfl rfl ?_
    obtain ⟨q4,Hq4,h⟩:=Option.bind_eq_some_iff.1 h
    refine O.c (count_days.cs Hq4) rfl rfl rfl ?_
    refine S.e 2 rfl rfl ?_
    refine S.O 4 rfl rfl ?_
    obtain ⟨q5,Hq5,h⟩:=Option.bind_eq_some_iff.1 h
    refine O.c (count_days.cs Hq5) rfl rfl rfl ?_
    refine S.e 1 rfl rfl ?_
    refine S.D 3 rfl rfl ?_
    obtain ⟨q6,Hq6,h⟩:=Option.bind_eq_some_iff.1 h
    refine D.c (count_year.cs Hq6) rfl rfl rfl ?_
    obtain ⟨q7,Hq7,h⟩:=Option.bind_eq_some_iff.1 h
    refine D.c (count_part.cs Hq7) rfl rfl rfl ?_
    refine S.d 6 rfl rfl ?_
    obtain ⟨q8,Hq8,h⟩:=Option.bind_eq_some_iff.1 h
    refine D.c (count_part.cs Hq8) rfl rfl rfl ?_
    obtain ⟨q9,Hq9,h⟩:=Option.bind_eq_some_iff.1 h
    refine D.c (frac_Frac_Add.cs Hq9) rfl rfl rfl ?_
    refine S.d 3 rfl rfl ?_
    obtain ⟨q10,Hq10,h⟩:=Option.bind_eq_some_iff.1 h
    refine D.c (count_year.cs Hq10) rfl rfl rfl ?_
    obtain ⟨q11,Hq11,h⟩:=Option.bind_eq_some_iff.1 h
    refine D.c (count_part.cs Hq11) rfl rfl rfl ?_
    obtain ⟨q12,Hq12,h⟩:=Option.bind_eq_some_iff.1 h
    refine D.c (frac_Frac_Add.cs Hq12) rfl rfl rfl ?_
    refine S.d 1 rfl rfl ?_
    refine D.nil (by kernel_rfl) ?_
    refine X.ret ?_
    cases h
    exact S.R rfl rfl rfl
theorem count_Year.j0_e {k y0 y1 y2 y3 y4 y5 y6 y7 r}:(count_Year.j0 k y0 y1 y2 y3 y4 y5 y6 y7=some r) = ∃ j,k=j + 1∧count_Year.j0 (j + 1) y0 y1 y2 y3 y4 y5 y6 y7=some r:=propext ⟨fun h=>by cases k with|zero=>(unfold count_Year.j0 at h;cases h)|succ k=>exact ⟨k,rfl,h⟩,fun ⟨j,hj,h⟩=>by subst hj;exact h⟩
noncomputable def c12:Code:=Tryz.f12.body.getD .skip
theorem fn12:FnOk Tryz.prog 12 Tryz.f12 c12:=⟨Tryz.func12,rfl,by kernel_rfl,by kernel_rfl,mixed⟩
theorem count_Year.cs {k:Nat} {a0:Int} {a1_0:Int} {a1_1:Int} {a1_2:Int} {a2_0:Int} {a2_1:Int} {a2_2:Int} {r:List Int×Bool×List Int×Int} (h:count_Year.f k a0 a1_0 a1_1 a1_2 a2_0 a2_1 a2_2=some r):CS Tryz.prog 12 [.int .i64 a0, .agg [.int .i64 a1_0, .int .i64 a1_1, .int .i64 a1_2], .agg [.int .i64 a2_0, .int .i64 a2_1, .int .i64 a2_2]] .no [.agg [.fi .u64 r.1, .bool r.2.1, .fi .u64 r.2.2.1], .int .i64 r.2.2.2]:=by
  unfold count_Year.f at h
  refine E.pure fn12 rfl ?_
  refine S.A 4 rfl rfl ?_
  refine X.seq ?_
  refine X.block ?_
  refine S.O 1 rfl rfl ?_
  obtain ⟨q1,Hq1,h⟩:=Option.bind_eq_some_iff.1 h
  refine O.c (count_Basis_good.cs Hq1) rfl rfl rfl ?_
  refine S.e 2 rfl rfl ?_
  refine X.condNot (.tmp rfl) (fun c=>?_) (fun c=>?_)
  · rw [if_neg (bf c)] at h
    refine S.A 3 rfl rfl ?_
    refine X.ret ?_
    cases h
    exact S.R rfl rfl rfl
  · rw [if_pos c] at h
    refine S.O 1 rfl rfl ?_
    obtain ⟨q2,Hq2,h⟩:=Option.bind_eq_some_iff.1 h
    refine O.c (date_Check.cs Hq2) rfl rfl rfl ?_
    refine S.r 2 rfl rfl ?_
    refine O.splitN (fun c=>?_) (fun c=>?_)
    · rw [if_neg c] at h
      refine S.e 5 rfl rfl ?_
      repeat (rw [count_Year.j0_e] at h;obtain ⟨k,_,h⟩:=h;unfold count_Year.j0 at h;try dsimp only at h)
      rw [if_pos rfl] at h
      refine X.condT (.tmp rfl) ?_
      refine S.A 3 rfl rfl ?_
      refine X.ret ?_
      cases h
      exact S.R rfl rfl rfl
    · rw [if_pos c] at h
      refine S.r 1 rfl rfl ?_
      obtain ⟨q3,Hq3,h⟩:=Option.bind_eq_some_iff.1 h
      refine G.pu (W.t rfl rfl) (U.call (ss:=[]) (.cons (.tmp (v:=.agg _) rfl) .nil) (.cons (.cl (.aggL (.cons .int (.cons .int (.cons .int .nil))))) .nil) (date_Check.cs Hq3) (.inl rfl) (.int)) ?_
      refine S.e 3 rfl rfl ?_
      repeat (rw [count_Year.j0_e] at h;obtain ⟨k,_,h⟩:=h;unfold count_Year.j0 at h;try dsimp only at h)
      refine X.condN (.tmp rfl) (fun c=>?_) (fun c=>?_)
      · rw [if_pos (ne1 c)] at h
        refine S.A 3 rfl rfl ?_
        refine X.ret ?_
        cases h
        exact S.R rfl rfl rfl
      · rw [if_neg (ne0 c)] at h
        refine S.O 2 rfl rfl ?_
        obtain ⟨q4,Hq4,h⟩:=Option.bind_eq_some_iff.1 h
        refine O.c (date_Cmp.cs Hq4) rfl rfl rfl ?_
        refine S.e 2 rfl rfl ?_
        refine X.condP (.tmp rfl) (fun c=>?_) (fun c=>?_)
        · rw [if_pos c] at h
          refine S.A 3 rfl rfl ?_
          refine X.ret ?_
          cases h
          exact S.R rfl rfl rfl
        · rw [if_neg c] at h
          refine X.skip ?_
          refine X.seq ?_
          refine S.A 1 rfl rfl ?_
          refine X.block ?_
          refine S.A 2 rfl rfl ?_
          refine X.condE (.tmp rfl) (fun c=>?_) (fun c=>?_)
          · rw [if_pos c] at h
            refine S.O 2 rfl rfl ?_
            obtain ⟨q5,Hq5,h⟩:=Option.bind_eq_some_iff.1 h
            refine O.c (count_thirty.cs Hq5) rfl rfl rfl ?_
            refine S.e 2 rfl rfl ?_
            refine X.ret ?_
            cases h
            exact S.R rfl rfl rfl
          · rw [if_neg c] at h
            refine S.A 2 rfl rfl ?_
            refine X.condE (.tmp rfl) (fun c=>?_) (fun c=>?_)
            · rw [if_pos c] at h
              refine S.O 2 rfl rfl ?_
              obtain ⟨q6,Hq6,h⟩:=Option.bind_eq_some_iff.1 h
              refine O.c (count_days.cs Hq6) rfl rfl rfl ?_
              obtain ⟨q7,Hq7,h⟩:=Option.bind_eq_some_iff.1 h
              refine O.c (count_part.cs Hq7) rfl rfl rfl ?_
              refine S.e 2 rfl rfl ?_
              refine X.ret ?_
              cases h
              exact S.R rfl rfl rfl
            · rw [if_neg c] at h
              refine X.skip ?_
              refine S.O 2 rfl rfl ?_
              obtain ⟨q8,Hq8,h⟩:=Option.bind_eq_some_iff.1 h
              refine O.c (count_actual.cs Hq8) rfl rfl rfl ?_
              refine S.e 2 rfl rfl ?_
              refine X.ret ?_
              cases h
              exact S.R rfl rfl rfl
noncomputable def c25:Code:=Tryz.f25.body.getD .skip
theorem fn25:FnOk Tryz.prog 25 Tryz.f25 c25:=⟨Tryz.func25,rfl,by kernel_rfl,by kernel_rfl,mixed⟩
theorem frac_Frac_Mul.cs {k:Nat} {l0_0:List Int} {a0_1:Bool} {l0_2:List Int} {l1_0:List Int} {a1_1:Bool} {l1_2:List Int} {r:List Int×Bool×List Int} (h:frac_Frac_Mul.f k l0_0 a0_1 l0_2 l1_0 a1_1 l1_2=some r):CS Tryz.prog 25 [.agg [.fi .u64 l0_0, .bool a0_1, .fi .u64 l0_2], .agg [.fi .u64 l1_0, .bool a1_1, .fi .u64 l1_2]] .no [.agg [.fi .u64 r.1, .bool r.2.1, .fi .u64 r.2.2]]:=by
  unfold frac_Frac_Mul.f at h
  refine E.pure fn25 rfl ?_
  refine S.A 3 rfl rfl ?_
  refine S.D 4 rfl rfl ?_
  obtain ⟨q1,Hq1,h⟩:=Option.bind_eq_some_iff.1 h
  refine D.c (whole_Int_Mul.cs Hq1) rfl rfl rfl ?_
  refine S.d 1 rfl rfl ?_
  obtain ⟨q2,Hq2,h⟩:=Option.bind_eq_some_iff.1 h
  refine D.c (frac_Frac_Den.cs Hq2) rfl rfl rfl ?_
  refine S.d 1 rfl rfl ?_
  obtain ⟨q3,Hq3,h⟩:=Option.bind_eq_some_iff.1 h
  refine D.c (frac_Frac_Den.cs Hq3) rfl rfl rfl ?_
  obtain ⟨q4,Hq4,h⟩:=Option.bind_eq_some_iff.1 h
  refine D.c (nat_Nat_Mul.cs Hq4) rfl rfl rfl ?_
  obtain ⟨q5,Hq5,h⟩:=Option.bind_eq_some_iff.1 h
  refine D.c (frac_made.cs Hq5) rfl rfl rfl ?_
  refine S.d 1 rfl rfl ?_
  refine D.nil (by kernel_rfl) ?_
  refine X.ret ?_
  cases h
  exact S.R rfl rfl rfl
noncomputable def c20:Code:=Tryz.f20.body.getD .skip
theorem fn20:FnOk Tryz.prog 20 Tryz.f20 c20:=⟨Tryz.func20,rfl,by kernel_rfl,by kernel_rfl,mixed⟩
theorem split_Weighted.cs {k:Nat} {a0:Int} {l1:List (S55)} {l2:List (S49)} {r:List Int×Bool×List Int×Int} (h:split_Weighted.f k a0 l1 l2=some r):CS Tryz.prog 20 [.int .i64 a0, .fv (List.map en55 l1), .fv (List.map en49 l2)] .no [.agg [.fi .u64 r.1, .bool r.2.1, .fi .u64 r.2.2.1], .int .i64 r.2.2.2]:=by
  unfold split_Weighted.f at h
  refine E.pure fn20 rfl ?_
  refine S.A 2 rfl rfl ?_
  refine X.seq ?_
  refine S.O 1 rfl rfl ?_
  refine O.pu (U.lenS rfl (.tmp rfl)) ?_
  refine S.r 1 rfl rfl ?_
  refine O.pu (U.lenS rfl (.tmp rfl)) ?_
  refine S.e 1 rfl rfl ?_
  refine X.condN (.tmp rfl) (fun c=>?_) (fun c=>?_)
  · rw [if_neg c] at h
    refine S.A 3 rfl rfl ?_
    refine X.ret ?_
    cases h
    exact S.R rfl rfl rfl
  · rw [if_pos c] at h
    refine X.skip ?_
    refine S.A 1 rfl rfl ?_
    refine X.seq ?_
    refine S.O 1 rfl rfl ?_
    refine O.pu (U.lenS rfl (.tmp rfl)) ?_
    refine S.e 1 rfl rfl ?_
    refine X.block ?_
    refine X.inv (fun k s=>∃ x0 x2 x19 x20 x21 x797000 x797001 x797002 u6 u8 z6_0 z6_1 z6_2,s.t 0 = .int .i64 x0∧s.t 2 = .fv (List.map en49 x2)∧s.t 19 = .fv (List.map en55 x19)∧s.t 20 = .int .i64 x20∧s.t 21 = .int .i64 x21∧s.t 6 = .op 6 u6 0 0∧s.b 6=⟨u6, .own, .vals [.agg [.fi .u64 z6_0, .bool z6_1, .fi .u64 z6_2]],49⟩∧s.t 8 = .op 8 u8 0 0∧s.b 8=⟨u8, .own, .vals [.agg [.fi .u64 x797000, .bool x797001, .fi .u64 x797002]],49⟩∧split_Weighted.l0 k x0 x2 x19 x20 x21 x797000 x797001 x797002=some r) ?_ ?_ ⟨_,_,_,_,_,_,_,_,_,_,_,_,_,rfl,rfl,rfl,rfl,rfl,rfl,rfl,rfl,rfl,h⟩
    · rintro s ⟨_,_,_,_,_,_,_,_,_,_,_,_,_,_,_,_,_,_,_,_,_,_,h⟩;unfold split_Weighted.l0 at h;cases h
    · rintro k1 s1 ⟨x0,x2,x19,x20,x21,x797000,x797001,x797002,u6,u8,z6_0,z6_1,z6_2,e0,e1,e2,e3,e4,e5,e6,e7,e8,h⟩
      unfold split_Weighted.l0 at h
      rw [St.fixT e0,St.fixT e1,St.fixT e2,St.fixT e3,St.fixT e4,St.fixT e5,St.fixB e6,St.fixT e7,St.fixB e8]
      refine S.A 1 rfl rfl ?_
      refine X.seq ?_
      refine X.condP (.tmp rfl) (fun c=>?_) (fun c=>?_)
      · rw [if_pos c] at h
        refine X.skip ?_
        refine X.seq ?_
        refine X.block ?_
        refine S.O 1 rfl rfl ?_
        repeat (rw [giff] at h;obtain ⟨_,h⟩:=h)
        refine O.pu (U.rdVS z55 rfl (fun _=>⟨rfl,rfl⟩) (.tmp rfl) (.tmp rfl) (by omega) (by omega)) ?_
        refine S.e 4 rfl rfl ?_
        refine S.O 5 rfl rfl ?_
        obtain ⟨q1,Hq1,h⟩:=Option.bind_eq_some_iff.1 h
        refine O.c (count_Year.cs Hq1) rfl rfl rfl ?_
        refine S.e 6 rfl rfl ?_
        refine X.seq ?_
        refine S.A 2 rfl rfl ?_
        refine X.condN (.tmp rfl) (fun c=>?_) (fun c=>?_)
        · rw [if_neg c] at h
          refine S.A 4 rfl rfl ?_
          refine X.ret ?_
          cases h
          exact S.R rfl rfl rfl
        · rw [if_pos c] at h
          refine X.skip ?_
          refine X.drawn ?_
          refine S.d 4 rfl rfl ?_
          repeat (rw [giff] at h;obtain ⟨_,h⟩:=h)
          refine D.pu (U.rdVS z49 rfl (fun _=>⟨rfl,rfl⟩) (.tmp rfl) (.tmp rfl) (by omega) (by omega)) ?_
          refine S.d 1 rfl rfl ?_
          obtain ⟨q2,Hq2,h⟩:=Option.bind_eq_some_iff.1 h
          refine D.c (frac_Frac_Mul.cs Hq2) rfl rfl rfl ?_
          obtain ⟨q3,Hq3,h⟩:=Option.bind_eq_some_iff.1 h
          refine D.c (frac_Frac_Add.cs Hq3) rfl rfl rfl ?_
          refine S.d 1 rfl rfl ?_
          refine D.nil (by kernel_rfl) ?_
          refine X.still ?_
          refine S.e 2 rfl rfl ?_
          exact ⟨_,(by omega),_,_,_,_,_,_,_,_,_,_,_,_,_,rfl,rfl,rfl,rfl,rfl,rfl,rfl,rfl,rfl,h⟩
      · rw [if_neg c] at h
        refine X.exit (B.out ?_)
        refine S.A 3 rfl rfl ?_
        refine X.ret ?_
        cases h
        exact S.R rfl rfl rfl
noncomputable def c33:Code:=Tryz.f33.body.getD .skip
theorem fn33:FnOk Tryz.prog 33 Tryz.f33 c33:=⟨Tryz.func33,rfl,by kernel_rfl,by kernel_rfl,mixed⟩
theorem split_wrong.cs {k:Nat} {a0_0:Int} {a0_1:Int} {a0_2:Int} {r:Bool} (h:split_wrong.f k a0_0 a0_1 a0_2=some r):CS Tryz.prog 33 [.agg [.int .i64 a0_0, .int .i64 a0_1, .int .i64 a0_2]] .no [.bool r]:=by
  unfold split_wrong.f at h
  refine E.pure fn33 rfl ?_
  refine S.A 2 rfl rfl ?_
  refine S.O 1 rfl rfl ?_
  obtain ⟨q1,Hq1,h⟩:=Option.bind_eq_some_iff.1 h
  refine O.c (date_Check.cs Hq1) rfl rfl rfl ?_
  refine S.e 2 rfl rfl ?_
  refine X.ret ?_
  cases h
  exact S.R rfl rfl rfl
end Go.Proofs.YtakidmbnkkhojaaGreat
end

section
namespace Go.Proofs.YtakidmbnkkhojaaGreat
open Go.AVL Go.RowKit Go.Shelf Go.Proofs.YtakidmbnkkhojaaGreat.F Go.Proofs.YtakidmbnkkhojaaGreatX Go.Proofs.YtakidmbnkkhojaaGreatW.PrintWords Go.Proofs.YtakidmbnkkhojaaGreatW.PrintLast Go.Proofs.YtakidmbnkkhojaaGreatW.PrintMore
set_option linter.unusedVariables false
set_option maxRecDepth 100000
theorem wrong_eq (y m d:Int):split_wrong.f 1 y m d=some (wrD (y,m,d)):=by
  unfold split_wrong.f
  rw [YtakidmbnkkhojaaGreatM.date_check y m d 1 (by omega),Option.bind_some]
  have e:wrD (y,m,d)=!(decide (YtakidmbnkkhojaaGreatM.Right y m d)):=rfl
  rw [e]
  by_cases h:YtakidmbnkkhojaaGreatM.Right y m d
  · rw [if_pos h,decide_eq_true h];rfl
  · rw [if_neg h,decide_eq_false h];rfl
theorem hWrong (W:World) (x:D3):Calls Tryz.prog 33 #[.agg (enD x).toArray] W fun e w'=>e = .returned (.bool (wrD x))∧RowKit.Below W.heap.size W w':=by
  have hv:VRa W (fun _=>default) [.agg [.int .i64 x.1, .int .i64 x.2.1, .int .i64 x.2.2]] [.agg (enD x).toArray]:=.cons (arr_vr (l:=[x.1,x.2.1,x.2.2])) .nil
  refine (calls_of_cs fn33 (split_wrong.cs (wrong_eq x.1 x.2.1 x.2.2)) hv).mono ?_
  rintro e w' ⟨v,rfl,hb,I',m',hr⟩
  have hr:VR I' w' noB m' (.bool (wrD x)) v:=hr
  rw [hr.bool_inv]
  exact ⟨rfl,hb⟩
theorem flat_get {α:Type} (f:α→List Value) {sz:Nat} (hf : ∀ x,(f x).length=sz) : ∀ (l:List α) (i j:Nat) (hi:i < l.length),j < sz→(l.flatMap f)[i * sz + j]?=(f l[i])[j]?
  | [],i,j,hi,hj=>absurd hi (Nat.not_lt_zero i)
  | x :: l,0,j,hi,hj=>by
    rw [List.flatMap_cons,Nat.zero_mul,Nat.zero_add,List.getElem?_append_left (by rw [hf];exact hj)]
    rfl
  | x :: l,i + 1,j,hi,hj=>by
    rw [List.flatMap_cons,List.getElem?_append_right (by rw [hf,Nat.succ_mul];omega),hf,show (i + 1) * sz + j - sz=i * sz + j by rw [Nat.succ_mul];omega]
    exact flat_get f hf l i j (by simpa using hi) hj
theorem fv_of_own {α:Type} {en:α→AV} {f:α→List Value} {sz:Nat} {I:Nat→Prop} {w:World} {B:Nat→Blk} {m:Nat→Reg} (hf : ∀ x,(f x).length=sz) (h1 : ∀ x,∀ u ∈ f x,u.oneCell'=true) {l:List α} (hvr : ∀ x ∈ l,VR I w B m (en x) (.agg (f x).toArray)) {base n e:Nat} {v:Value}
    (own:w.ownsRow base e sz v n (l.flatMap f)) (hn:n=l.length) (hI : ∀ k,base≤k→k < w.heap.size→I k):VR I w B m (.fv (l.map en)) v:=by
  subst hn
  rcases own.2 with ⟨rfl,h0⟩|⟨g,cap,cur,rfl,hb,hg,hnc,hcm,hcs,ht⟩
  · rw [List.eq_nil_of_length_eq_zero h0]
    exact .fv [] none 0 0 (fun _=>undef) (Nat.le_refl _) (fun i hi=>absurd hi (Nat.not_lt_zero i)) fun i hi=>absurd hi (Nat.not_lt_zero i)
  · have hlt:g < w.heap.size:=(Array.getElem?_eq_some_iff.1 hg).1
    have:=VR.fv (I:=I) (w:=w) (B:=B) (m:=m) (l.map en) (some ⟨g,0,none⟩) cap sz (fun i=>if h:i < l.length then .agg (f l[i]).toArray else undef) (by rw [List.length_map];exact hnc) (fun i hi=>?_) (fun i hi=>?_)
    · rwa [List.length_map] at this
    · rw [List.length_map] at hi
      rw [dif_pos hi,List.getD_eq_getElem?_getD,List.getElem?_map,List.getElem?_eq_getElem hi]
      exact hvr _ (List.getElem_mem hi)
    · rw [List.length_map] at hi
      rw [dif_pos hi]
      refine ⟨by simp [Value.cells,hf],fun u hu=>h1 _ u (by simpa [Value.cells] using hu),⟨g,0,none⟩,rfl,rfl,hI _ hb hlt,fun j hj=>?_⟩
      have hle:i * sz + j < l.length * sz:=by
        have:=Nat.mul_le_mul_right sz (show i + 1≤l.length by omega)
        rw [Nat.succ_mul] at this
        omega
      have h3:=flat_get f hf l i j hi hj
      rw [← ht,List.getElem?_take,if_pos hle,Array.getElem?_toList] at h3
      simp only [World.cell?,hg,Nat.zero_add]
      rw [h3]
      simp [Value.cells]
theorem reads_of_fv {A:Nat→Prop} {w:World} {B:Nat→Blk} {m:Nat→Reg} (hA : ∀ k,A k→k < w.heap.size) {l:List S28} {V:Value} (h:VR A w B m (.fv (l.map en28)) V) : ∃ a cap,V = .slice a l.length cap∧ReadsD w a (l.map toD):=by
  cases h with
  | fv _ a cap sz V h1 h2 h3 =>
    refine ⟨a,cap,by rw [List.length_map],?_⟩
    by_cases h0:l.length=0
    · exact .inl (by rw [List.length_map];exact h0)
    · obtain ⟨_,_,ad,e1,e2,e3,_⟩:=h3 0 (by rw [List.length_map];omega)
      subst e1
      obtain ⟨b,off,s⟩:=ad
      simp only at e2
      subst e2
      refine .inr ⟨b,off,rfl,hA _ e3,fun j u hj=>?_⟩
      have hjl:j < (l.map toD).length * 3:=by rw [← flatD_len];exact (List.getElem?_eq_some_iff.1 hj).1
      rw [List.length_map] at hjl
      have hi:j / 3 < l.length:=by omega
      obtain ⟨s1,s2,ad,e1,e2,_,hc⟩:=h3 (j / 3) (by rw [List.length_map];exact hi)
      cases e1
      have hv:=h2 (j / 3) (by rw [List.length_map];exact hi)
      rw [List.getD_eq_getElem?_getD,List.getElem?_map,List.getElem?_eq_getElem hi] at hv
      have hv:=arr_inv (l:=[l[j / 3].f0,l[j / 3].f1,l[j / 3].f2]) hv
      have hsz:sz=3:=by rw [← s1,hv];rfl
      have:=hc (j % 3) (by omega)
      rw [hv,hsz] at this
      have e3:off + j / 3 * 3 + j % 3=off + j:=by omega
      simp only [e3] at this
      rw [this]
      have hg:=flatD_get (l.map toD) j (by rw [List.length_map];exact hjl)
      rw [hg] at hj
      cases hj
      have e4:(l.map toD)[j / 3]! = toD l[j / 3]:=by simp [hi]
      rw [e4]
      have hm:j % 3=0∨j % 3=1∨j % 3=2:=by omega
      rcases hm with hm|hm|hm <;> rw [hm] <;> rfl
theorem flat_vals {f:D3×D3→List Value} {sz:Nat} (hf : ∀ x,(f x).length=sz) {l:List (D3×D3)} {cur:Array Value} (ht:cur.toList.take (l.length * sz)=l.flatMap f) {i j:Nat} (hi:i < l.length) (hj:j < sz):cur[i * sz + j]?=(f l[i])[j]?:=by
  have hle:i * sz + j < l.length * sz:=by
    have:=Nat.mul_le_mul_right sz (show i + 1≤l.length by omega)
    rw [Nat.succ_mul] at this
    omega
  have h3:=flat_get f hf l i j hi hj
  rw [← ht,List.getElem?_take,if_pos hle,Array.getElem?_toList] at h3
  exact h3
theorem parts_W {a0_0 a0_1 a0_2 a1_0 a1_1 a1_2:Int} {l2:List S28} (hl:l2.length≤1000000000000) {A:Nat→Prop} {w:World} {m:Nat→Reg} {V:Array Value} (hA : ∀ k,A k→k < w.heap.size) (hs:V.size=3)
    (hv : ∀ i,i < 3→VR A w noB m (([.agg [.int .i64 a0_0, .int .i64 a0_1, .int .i64 a0_2], .agg [.int .i64 a1_0, .int .i64 a1_1, .int .i64 a1_2], .fv (List.map en28 l2)]:List AV).getD i .bad) (V.getD i undef)) {K:Value→World→Prop}
    (hK : ∀ v w',w'.ownsRow w.heap.size 55 6 v (partsD wrD (a0_0,a0_1,a0_2) (a1_0,a1_1,a1_2) (l2.map toD)).1.length (flatP (partsD wrD (a0_0,a0_1,a0_2) (a1_0,a1_1,a1_2) (l2.map toD)).1)→Below w.heap.size w w'→K (.tuple #[v, .int .i64 (partsD wrD (a0_0,a0_1,a0_2) (a1_0,a1_1,a1_2) (l2.map toD)).2]) w') :
    CallW Tryz.prog 11 V w K:=by
  have v0:=arr_inv (l:=[a0_0,a0_1,a0_2]) (hv 0 (by omega))
  have v1:=arr_inv (l:=[a1_0,a1_1,a1_2]) (hv 1 (by omega))
  obtain ⟨a,cap,v2,hr⟩:=reads_of_fv hA (l:=l2) (hv 2 (by omega))
  have hV:V = #[.agg #[.int .i64 a0_0, .int .i64 a0_1, .int .i64 a0_2], .agg #[.int .i64 a1_0, .int .i64 a1_1, .int .i64 a1_2], .slice a (l2.map toD).length cap]:=by
    apply Array.ext
    · exact hs
    · intro i h1 h2
      have e:V[i]=V.getD i undef:=by simp [Array.getD,h1]
      rw [e]
      have hi:i=0∨i=1∨i=2:=by omega
      rcases hi with rfl|rfl|rfl
      · exact v0
      · exact v1
      · rw [List.length_map];exact v2
  have he:(callFunc 11 V).run Tryz.prog w = .ok (.enter 11 V) w:=enters_of Tryz.func11 (by kernel_rfl) rfl V w
  unfold CallW
  rw [he,hV]
  refine (hParts wrD hWrong a0_0 a0_1 a0_2 a1_0 a1_1 a1_2 a cap (l2.map toD) w hr (by rw [List.length_map];exact hl)).mono ?_
  rintro e w' ⟨v,rfl,own,hb⟩
  exact hK v w' own hb
theorem split_Parts.cs {a0_0 a0_1 a0_2 a1_0 a1_1 a1_2:Int} {l2:List S28} {r:List S55×Int} (h:split_Parts.f a0_0 a0_1 a0_2 a1_0 a1_1 a1_2 l2=some r) :
    CS Tryz.prog 11 [.agg [.int .i64 a0_0, .int .i64 a0_1, .int .i64 a0_2], .agg [.int .i64 a1_0, .int .i64 a1_1, .int .i64 a1_2], .fv (List.map en28 l2)] .no [.fv (List.map en55 r.1), .int .i64 r.2]:=by
  unfold split_Parts.f at h
  by_cases hl:l2.length≤1000000000000
  case neg=>rw [if_neg hl] at h;cases h
  rw [if_pos hl] at h
  cases h
  intro A wg w m V hwg hw hs hv
  obtain rfl:=hwg rfl
  refine parts_W hl (fun k hk=>(hw.imm k hk).1) hs (fun i hi=>hv i hi) fun v w' own hb=>?_
  refine ⟨fun k=>A k∨(w.heap.size≤k∧k < w'.heap.size∧¬ False),m,(hw.grow hb).close (fun _=>False) noB m (fun s hd=>absurd rfl hd) (fun s s' h _ _=>by rcases h.1 with h|h <;> cases h),(fun p r1 r2 e h=>by cases h),?_⟩
  refine VR.tup [_,_] #[v,_] rfl fun i hi=>?_
  have hi:i=0∨i=1:=by simp at hi;omega
  rcases hi with rfl|rfl
  · have:=fv_of_own (en:=fun x=>en55 (ofP x)) (f:=enP) (sz:=6) (fun x=>rfl) (fun x=>enP_one x) (B:=noB) (m:=m) (I:=fun k=>A k∨(w.heap.size≤k∧k < w'.heap.size∧¬ False)) (fun x _=>arr_vr (l:=[x.1.1,x.1.2.1,x.1.2.2,x.2.1,x.2.2.1,x.2.2.2])) own rfl (fun k h1 h2=>.inr ⟨h1,h2,fun h=>h⟩)
    show VR _ w' noB m (.fv (List.map en55 (List.map ofP _))) v
    rw [List.map_map]
    exact this
  · exact .int _ _
theorem split_Parts.csF {a0_0 a0_1 a0_2 a1_0 a1_1 a1_2:Int} {l2:List S28} {r:List S55×Int} (h:split_Parts.f a0_0 a0_1 a0_2 a1_0 a1_1 a1_2 l2=some r) :
    CS Tryz.prog 11 [.agg [.int .i64 a0_0, .int .i64 a0_1, .int .i64 a0_2], .agg [.int .i64 a1_0, .int .i64 a1_1, .int .i64 a1_2], .fv (List.map en28 l2)] ⟨none,some (.vals (List.map en55 r.1),55)⟩ [.os FRS 1 0 (Row.vals (List.map en55 r.1)).len true, .int .i64 r.2]:=by
  unfold split_Parts.f at h
  by_cases hl:l2.length≤1000000000000
  case neg=>rw [if_neg hl] at h;cases h
  rw [if_pos hl] at h
  cases h
  intro A wg w m V hwg hw hs hv
  obtain rfl:=hwg rfl
  have hA : ∀ k,A k→k < w.heap.size:=fun k hk=>(hw.imm k hk).1
  refine parts_W hl hA hs (fun i hi=>hv i hi) fun v w' own hb=>?_
  generalize (partsD wrD (a0_0,a0_1,a0_2) (a1_0,a1_1,a1_2) (l2.map toD)).1=L at own
  generalize (partsD wrD (a0_0,a0_1,a0_2) (a1_0,a1_1,a1_2) (l2.map toD)).2=e2
  have hlen:(Row.vals (List.map en55 (L.map ofP))).len=L.length:=by simp [Row.len]
  have c55:Tryz.prog.cellsOf 55=6:=by kernel_rfl
  have hwb:=hw.grow hb
  show ∃ I' m',WR _ I' m' (upd noB FRS ⟨1, .own, .vals (List.map en55 (L.map ofP)),55⟩) w'∧_∧VR I' w' (upd noB FRS ⟨1, .own, .vals (List.map en55 (L.map ofP)),55⟩) m' (.tup [.os FRS 1 0 (Row.vals (List.map en55 (L.map ofP))).len true, .int .i64 e2]) (.tuple #[v, .int .i64 e2])
  rcases own.2 with ⟨rfl,h0⟩|⟨g,cap,cur,rfl,hbg,hg,hnc,hcm,hcs,ht⟩
  · refine ⟨A,upd m FRS ⟨0,0,0,6⟩,hwb.slot (Nat.lt_succ_self 0) (fun _=>.inl ⟨rfl,by rw [hlen];exact h0⟩) (fun hc=>absurd rfl hc),(fun p r1 r2 e h=>by cases h),?_⟩
    refine VR.tup [_,_] #[_,_] rfl fun i hi=>?_
    have hi:i=0∨i=1:=by simp at hi;omega
    rcases hi with rfl|rfl
    · show VR _ w' _ _ (.os FRS 1 0 (Row.vals (List.map en55 (L.map ofP))).len true) (.slice none 0 0)
      rw [hlen,h0]
      refine .os _ _ _ _ _ _ _ (by rw [upd_same];exact Nat.le_refl _) fun _ _=>?_
      rw [upd_same,upd_same]
      exact ⟨Nat.zero_le _,Nat.le_refl _, .inl rfl,fun _=>⟨rfl,rfl,rfl⟩⟩
    · exact .int _ _
  · refine ⟨A,upd m FRS ⟨g,0,cap,6⟩,hwb.slot (Nat.lt_succ_self 0) (fun _=>.inr ⟨cur,hg,fun i hi=>?_,⟨⟨fun hn=>(by rw [show noIL (zc0 Tryz.prog 55)=false by kernel_rfl] at hn;cases hn),c55.symm⟩,by rw [hcs,Nat.zero_add],by rw [hlen];exact hnc,hcm,fun hi=>Nat.lt_irrefl _ (Nat.lt_of_lt_of_le (hA _ hi) hbg),hbg⟩⟩) (fun _ s _ ha=>by rcases ha.1 with h|h <;> cases h),(fun p r1 r2 e h=>by cases h),?_⟩
    · rw [hlen] at hi
      refine ⟨.agg (enP L[i]).toArray,?_,rfl,fun u hu=>enP_one L[i] u (by simpa [Value.cells] using hu),fun j hj=>?_⟩
      · have e:(Row.vals (List.map en55 (L.map ofP))).get i=en55 (ofP L[i]):=by
          show (List.map en55 (L.map ofP)).getD i .bad=_
          rw [List.getD_eq_getElem?_getD,List.getElem?_map,List.getElem?_map,List.getElem?_eq_getElem hi]
          rfl
        rw [e]
        exact arr_vr (l:=[L[i].1.1,L[i].1.2.1,L[i].1.2.2,L[i].2.1,L[i].2.2.1,L[i].2.2.2])
      · show cur[(0 + i) * 6 + j]?=_
        rw [Nat.zero_add,flat_vals (f:=enP) (sz:=6) (fun _=>rfl) ht hi (show j < 6 from hj)]
        simp [Value.cells]
    · refine VR.tup [_,_] #[_,_] rfl fun i hi=>?_
      have hi:i=0∨i=1:=by simp at hi;omega
      rcases hi with rfl|rfl
      · have:=VR.newOs (I:=A) (w:=w') (B:=noB) (m:=m) (d:=FRS) (row:=.vals (List.map en55 (L.map ofP))) (e:=55) (sz:=6) (cap:=cap) g 1 (by rw [hlen];exact hnc)
        show VR _ w' _ _ (.os FRS 1 0 (Row.vals (List.map en55 (L.map ofP))).len true) (.slice (some ⟨g,0,none⟩) L.length cap)
        rw [hlen] at this ⊢
        exact this
      · exact .int _ _
end Go.Proofs.YtakidmbnkkhojaaGreat
end

section
namespace Go.Proofs.YtakidmbnkkhojaaGreat
open Go.RowKit Go.Sort Go.Lib Go.Shelf Go.Proofs Go.Proofs.YtakidmbnkkhojaaGreatW.PrintWords Go.Proofs.YtakidmbnkkhojaaGreatW.PrintLast Go.Proofs.YtakidmbnkkhojaaGreatW.PrintMore
set_option linter.unusedVariables false
set_option linter.unusedSimpArgs false
set_option maxRecDepth 100000
theorem info49:(Tryz.prog.info? 49).map (fun i=>(i.zero,i.size,i.bytes))=some (some (.agg #[.slice none 0 0, .bool false, .slice none 0 0]),3,56):=by kernel_rfl
set_option maxHeartbeats 4000000 in
theorem hRepeat (c0 c1 c2:Value) (h1 : ∀ u ∈ [c0,c1,c2],u.oneCell'=true) (A:Addr) (cap0 n:Nat) (w:World) (hc : ∀ j v,[c0,c1,c2][j]?=some v→A.block < w.heap.size∧w.cell? (A.add j)=some v∧(A.add j).block=A.block) (hn:n≤4096) :
    Calls Tryz.prog 45 #[.slice (some A) 1 cap0, .int .i64 n] w fun e w'=>∃ v,e = .returned v∧w'.ownsRow w.heap.size 49 3 v n (reps [c0,c1,c2] n)∧Below w.heap.size w w':=by
  have hM:=fun W=>hMul W n hn
  obtain ⟨i49,hi,hz,hs,hby⟩ : ∃ i,Tryz.prog.info? 49=some i∧i.zero=some (.agg #[.slice none 0 0, .bool false, .slice none 0 0])∧i.size=3∧i.bytes=56:=by
    have h:=info49
    obtain ⟨i,h1,h2⟩:=Option.map_eq_some_iff.1 h
    simp only [Prod.mk.injEq] at h2
    exact ⟨i,h1,h2.1,h2.2.1,h2.2.2⟩
  have hsz:Aside ((Tryz.prog.info? 49).map (·.size)=some 3):=by show _=_;rw [hi];simp [hs]
  obtain ⟨Z,hZ⟩ : ∃ Z,Z=madeCells (Value.agg #[.slice none 0 0, .bool false, .slice none 0 0]).cells (n * 3):=⟨_,rfl⟩
  have hZs:Aside (Z.size=n * 3):=by show Z.size=_;rw [hZ,size_madeCells]
  have hmk : ∀ W:World,(Instr.makeSlice 61 (.int .i64 n) (.int .i64 n)).run Tryz.prog W = .ok (.slice (some ⟨W.heap.size,0,none⟩) n n) (W.alloc (.cells Z 49)):=by
    intro W
    have:=run_make (P:=Tryz.prog) W 61 49 i49 _ Tryz.underlying61 hi hz .i64 .i64 n n (by omega) (Int.le_refl _) (by rw [hby];omega) (by omega)
    rw [Int.toNat_natCast,hs,← hZ] at this
    exact this
  have HI:Aside (Tryz.prog.info? 49=some i49∧i49.size=3):=⟨hi,hs⟩
  have HC:Aside (∀ j v,[c0,c1,c2][j]?=some v→A.block < w.heap.size∧w.cell? (A.add j)=some v∧(A.add j).block=A.block):=hc
  have H1:Aside (∀ u ∈ [c0,c1,c2],u.oneCell'=true):=h1
  clear hZ hi hz hs hby hc h1
  have e1:decide ((n:Int) < 0)=false:=decide_eq_false (by omega)
  have e2:IntKind.u64.wrap (n:Int)=n:=by simp [IntKind.wrap,IntKind.bits,IntKind.signed];omega
  have e3:IntKind.i64.wrap (n:Int)=n:=by simp [IntKind.wrap,IntKind.bits,IntKind.signed];omega
  have e4:decide ((9223372036854775807:Int) < (n:Int))=false:=decide_eq_false (by omega)
  obtain ⟨q,hq0⟩ : ∃ q,Nat.min 1 n=q:=⟨_,rfl⟩
  have hq1:q≤1∧q≤n∧(n=0∨1≤q):=by
    have:q=if 1≤n then 1 else n:=by rw [← hq0];exact Nat.min_def
    split at this <;> omega
  have HQ:Aside (Nat.min 1 n=q∧q≤1∧q≤n∧(n=0∨1≤q)):=⟨hq0,hq1⟩
  clear hq0 hq1
  obtain ⟨cs,hcs⟩ : ∃ cs,Aside (cs=reps [c0,c1,c2] q):=⟨_,rfl⟩
  have HL:Aside (cs.length=q * 3):=by show cs.length=_;rw [hcs.out,reps_len];rfl
  go_enter Tryz.func45,Tryz.ntmps45
  go_wp2_with (first
    | (go_at_call 80;refine (hM _).mono ?_;rintro e w1 ⟨rfl,hb1⟩
       have HB1:Aside (Below w.heap.size w w1):=hb1
       clear hb1)
    | ((with_reducible refine gate_builtin (b:=.copy) rfl ?_);refine wpList_copyN rfl (.tmp 31) (.tmp 32) 61 61 rfl 49 3 Tryz.underlying61 hsz.out A n n 1 cap0 w1.heap.size 0 rfl rfl Z.toList 49 (by simpa using heap_alloc_new w1 (.cells Z 49)) cs q HQ.out.1 HL.out
        (fun j v hj=>by
          have h2:=reps_pre (c:=[c0,c1,c2]) (j:=q) (m:=1) (by rw [← hcs.out];exact hj) HQ.out.2.1
          rw [reps_one] at h2
          obtain ⟨a1,a2,a3⟩:=HC.out j v h2
          exact Go.Lib.cell?_alloc_some _ ((HB1.out.cell (p:=A.add j) (by rw [a3];exact a1)).trans a2)) (by have:=HQ.out.2.2.1;have:=HL.out;have:=hZs.out;simp;omega) (fun v hv=>reps_mem H1.out v (by rw [← hcs.out];exact hv)) w.heap.size w (HB1.out.alloc HB1.out.size _) HB1.out.size ?_
       intro w2 hg2 hb2
       have HG2:Aside (w2.heap[w1.heap.size]?=some (.cells (splice Z.toList 0 cs).toArray 49 (0,0))):=hg2.out
       have HB2:Aside (Below w.heap.size w w2):=hb2
       clear hg2 hb2))
  obtain ⟨C0,hC0⟩ : ∃ C0,Aside (C0=splice Z.toList 0 cs):=⟨_,rfl⟩
  have HL0:Aside (C0.length=n * 3∧C0.take (q * 3)=reps [c0,c1,c2] q):=by
    have h1:=HL.out
    have h2:=hZs.out
    have h3:=HQ.out.2.2.1
    refine ⟨by rw [hC0.out,length_splice _ _ _ (by simp;omega)];simpa using h2,?_⟩
    have h4:=take_spliceN [c0,c1,c2] Z.toList 0 q (by simp;omega) (by simp [reps])
    simp only [List.length_cons,List.length_nil,Nat.zero_mul,Nat.zero_add] at h4
    rw [hC0.out,hcs.out]
    exact h4
  have HGB:Aside (w.heap.size≤w1.heap.size):=HB1.out.size
  rw [← hC0.out] at HG2
  generalize w1.heap.size=g at *
  go_loopg [8] n (fun gg v8 w'=>∃ (m:Nat) (C:List Value),v8 = .int .i64 (m:Int)∧m≤n∧n - m≤gg∧Aside (n=0∨1≤m)∧Aside (C.length=n * 3∧C.take (m * 3)=reps [c0,c1,c2] m)∧Aside (w'.heap[g]?=some (.cells C.toArray 49 (0,0)))∧Aside (Below w.heap.size w w'))
  case atStart=>exact ⟨q,C0,rfl,HQ.out.2.2.1,by omega,HQ.out.2.2.2,HL0,HG2,HB2⟩
  case round =>
    obtain ⟨m,C,rfl,hm,hgg,H0,HCm,HG,HB⟩:=hrel
    by_cases hlt:m < n
    · obtain ⟨j,hj⟩ : ∃ j,Aside (Nat.min m (n - m)=j):=⟨_,rfl⟩
      have hj1:m + j≤n∧1≤j∧j≤m:=by
        have h0:=H0.out
        have:j=if m≤n - m then m else n - m:=by rw [← hj.out];exact Nat.min_def
        split at this <;> omega
      have hd:(m:Int) < (n:Int):=by omega
      have e6:IntKind.i64.wrap ((m:Int) + (j:Int))=((m + j:Nat):Int):=by simp [IntKind.wrap,IntKind.bits,IntKind.signed];omega
      have e7:wrap64 ((m:Int) + (j:Int))=((m + j:Nat):Int):=by unfold wrap64;omega
      have hcA : ∀ W:World,(Instr.slice 61 (.slice (some ⟨g,0,none⟩) n n) (some (.int .i64 (m:Int))) none none).run Tryz.prog W = .ok (.slice (some ⟨g,m * 3,none⟩) (n - m) (n - m)) W:=by
        intro W
        have:=cut_from (P:=Tryz.prog) 61 49 .i64 Tryz.underlying61 HI.out.1 3 HI.out.2 (some ⟨g,0,none⟩) n n (m:Int) (by omega) (by omega) W
        rw [this]
        have hne : ¬ n=m:=by omega
        simp [hne,Addr.add_lit]
      have hcB : ∀ W:World,(Instr.slice 61 (.slice (some ⟨g,0,none⟩) n n) none (some (.int .i64 (m:Int))) none).run Tryz.prog W = .ok (.slice (some ⟨g,0,none⟩) m n) W:=by
        intro W
        exact cut_to (P:=Tryz.prog) 61 49 .i64 Tryz.underlying61 HI.out.1 (some ⟨g,0,none⟩) n n (m:Int) (by omega) (by omega) (by omega) W
      have HR:Aside (∀ (i:Nat) v,(reps [c0,c1,c2] j)[i]?=some v→wr.cell? (Addr.add ⟨g,0,none⟩ i)=some v):=by
        intro i v hv
        have h5:=reps_pre hv hj1.2.2
        rw [← HCm.out.2] at h5
        have hi:i < m * 3:=by
          have h6:=(List.getElem?_eq_some_iff.1 h5).1
          rw [List.length_take] at h6
          omega
        rw [List.getElem?_take,if_pos hi] at h5
        rw [Addr.add_lit,Nat.zero_add]
        simp [World.cell?,HG.out,h5]
      have HJ:Aside (m + j≤n∧1≤j∧j≤m):=hj1
      clear hj1
      go_wp2
      go_region_law (refine step_copyN rfl (.tmp 41) (.tmp 44) 61 61 rfl 49 3 Tryz.underlying61 hsz.out ⟨g,0,none⟩ (n - m) (n - m) m n g (m * 3) (by kernel_rfl) (by kernel_rfl) C 49 (by first|exact HG.out|(simp only [World.drewN,World.drew];exact HG.out)) (reps [c0,c1,c2] j) j hj.out (by rw [reps_len];rfl) (by first|exact HR.out|(simp only [World.drewN,World.drew];exact HR.out)) (by rw [reps_len];have:=HJ.out;have:=HCm.out.1;simp;omega) (reps_mem H1.out) w.heap.size w (by repeat (first|(with_reducible first|exact HB.out|apply below_alloc|apply pw_below_drewN|apply below_drew1)|exact HB.out)) HGB.out ?_;intro w9 hg9 hb9;have HG9:Aside (w9.heap[g]?=some (.cells (splice C (m * 3) (reps [c0,c1,c2] j)).toArray 49 (0,0))):=hg9.out;have HB9:Aside (Below w.heap.size w w9):=hb9;clear hg9 hb9)
      go_wp2
      go_roundg (n - (m + j))
      case measure=>have:=HJ.out;omega
      case rel =>
        have h1:=HJ.out
        have h2:=take_spliceN [c0,c1,c2] C m j (by have:=HCm.out.1;simp;omega) (by simpa using HCm.out.2)
        exact ⟨m + j,splice C (m * 3) (reps [c0,c1,c2] j),by first|rfl|(congr 1;first|exact e6|exact e7),h1.1,Nat.le_refl _, .inr (by omega),⟨by rw [length_splice _ _ _ (by rw [reps_len];have:=HCm.out.1;simp;omega)];exact HCm.out.1,h2⟩,HG9,HB9⟩
    · have hmn:m=n:=by omega
      subst hmn
      have hd : ¬ (m:Int) < (m:Int):=by omega
      go_wp2
      go_ret
      exact ⟨_,rfl,⟨by rw [reps_len];rfl, .inr ⟨g,m,C.toArray,rfl,HGB.out,HG.out,Nat.le_refl _,by simp only [maxLen];omega,by simpa using HCm.out.1,by simpa using HCm.out.2⟩⟩,HB.out⟩
theorem reps_x {α:Type} (x:α) (c:List Value) (n:Nat):(List.replicate n x).flatMap (fun _=>c)=reps c n:=by
  induction n with
  | zero=>rfl
  | succ n ih =>
    show _=(List.replicate (n + 1) ()).flatMap fun _=>c
    rw [List.replicate_succ,List.replicate_succ,List.flatMap_cons,List.flatMap_cons,ih]
    rfl
theorem three_of : ∀ (vs:Array Value),vs.size=3→∃ c0 c1 c2,vs = #[c0,c1,c2]
  | ⟨[a,b,c]⟩,_=>⟨a,b,c,rfl⟩
open Go.AVL Go.Proofs.YtakidmbnkkhojaaGreat.F in
theorem frac_Frac.cs {l0:List S49} {a1:Int} {r:List S49} (h:frac_Frac.f l0 a1=some r):CS Tryz.prog 45 [.fv (List.map en49 l0), .int .i64 a1] .no [.fv (List.map en49 r)]:=by
  unfold frac_Frac.f at h
  by_cases hl:l0.length=1∧0≤a1∧a1≤4096
  case neg=>rw [if_neg hl] at h;cases h
  rw [if_pos hl] at h
  cases h
  obtain ⟨h1,h2,h3⟩:=hl
  obtain ⟨x,rfl⟩ : ∃ x,l0 = [x]:=List.length_eq_one_iff.mp h1
  obtain ⟨n,rfl⟩ : ∃ n:Nat,a1=(n:Int):=⟨a1.toNat,by omega⟩
  intro A wg w m V hwg hw hs hv
  obtain rfl:=hwg rfl
  have hA : ∀ k,A k→k < w.heap.size:=fun k hk=>(hw.imm k hk).1
  have v0:VR A w noB m (.fv [en49 x]) (V.getD 0 undef):=hv 0 (by simp)
  have v1:VR A w noB m (.int .i64 n) (V.getD 1 undef):=hv 1 (by simp)
  have v1:=v1.int_inv
  generalize hV0:V.getD 0 undef=V0 at v0
  cases v0 with
  | fv _ a cap sz W e1 e2 e3 =>
  obtain ⟨s1,s2,ad,rfl,s3,s4,s5⟩:=e3 0 (by simp)
  have hx:VR A w noB m (en49 x) (W 0):=e2 0 (by simp)
  obtain ⟨vs,hvs,t1,t2,t3⟩:=VR.cell (show VR A w noB m (.agg [.fi .u64 x.f0.f0.f0, .bool x.f0.f1, .fi .u64 x.f1.f0]) (W 0) from hx)
  have t1:vs.size=3:=by simpa using t1.symm
  obtain ⟨c0,c1,c2,hc⟩:=three_of vs t1
  subst hc
  have hsz:sz=3:=by rw [← s1,hvs];rfl
  subst hsz
  obtain ⟨b,off,sp⟩:=ad
  simp only at s3
  subst s3
  have hV:V = #[.slice (some ⟨b,off,none⟩) 1 cap, .int .i64 n]:=by
    have hs2:V.size=2:=hs
    apply Array.ext
    · exact hs2
    · intro i hi1 hi2
      have e:V[i]=V.getD i undef:=by simp [Array.getD,hi1]
      rw [e]
      have hi:i=0∨i=1:=by omega
      rcases hi with rfl|rfl
      · exact hV0
      · exact v1
  have he:(callFunc 45 V).run Tryz.prog w = .ok (.enter 45 V) w:=enters_of Tryz.func45 (by kernel_rfl) rfl V w
  unfold CallW
  rw [he,hV]
  refine (hRepeat c0 c1 c2 (by simpa using t2) ⟨b,off,none⟩ cap n w (fun j v hj=>?_) (by omega)).mono ?_
  · rw [Addr.add_lit]
    refine ⟨hA _ s4,?_,rfl⟩
    have hj3:j < 3:=(List.getElem?_eq_some_iff.1 hj).1
    have:=s5 j hj3
    rw [hvs] at this
    simp only [Nat.zero_mul,Nat.add_zero] at this
    rw [this]
    simpa [Value.cells] using hj
  · rintro e w' ⟨v,rfl,own,hb⟩
    refine ⟨fun k=>A k∨(w.heap.size≤k∧k < w'.heap.size∧¬ False),m,(hw.grow hb).close (fun _=>False) noB m (fun s hd=>absurd rfl hd) (fun s s' h _ _=>by rcases h.1 with h|h <;> cases h),(fun p r1 r2 e h=>by cases h),?_⟩
    show VR _ w' noB m (.fv (List.map en49 (List.replicate (Int.toNat (n:Int)) (rd_T49 [x] 0)))) v
    rw [Int.toNat_natCast]
    rw [← reps_x x] at own
    refine fv_of_own (en:=en49) (f:=fun _=>[c0,c1,c2]) (sz:=3) (fun _=>rfl) (fun _=>by simpa using t2) (fun y hy=>?_) own (by simp) (fun k h1 h2=>.inr ⟨h1,h2,fun h=>h⟩)
    rw [(List.mem_replicate.1 hy).2]
    rw [hvs] at hx
    exact hx.grow (fun k hk=>.inl hk) fun k hk=>hb.block k (hA k hk)
end Go.Proofs.YtakidmbnkkhojaaGreat
end

section
namespace Go.Proofs.YtakidmbnkkhojaaGreat
open Go.AVL Go.RowKit Go.Proofs.YtakidmbnkkhojaaGreat.F Go.Proofs.YtakidmbnkkhojaaGreatX Go.Proofs.YtakidmbnkkhojaaGreatW.PrintWords Go.Proofs.YtakidmbnkkhojaaGreatW.PrintLast Go.Proofs.YtakidmbnkkhojaaGreatW.PrintMore
set_option linter.unusedVariables false
set_option linter.unusedSimpArgs false
set_option maxRecDepth 100000
set_option maxHeartbeats 16000000
noncomputable def c13:Code:=Tryz.f13.body.getD .skip
theorem fn13:FnOk Tryz.prog 13 Tryz.f13 c13:=⟨Tryz.func13,rfl,by kernel_rfl,by kernel_rfl,mixed⟩
theorem split_Years.cs {k:Nat} {a0:Int} {l1:List (S55)} {r:List Int×Bool×List Int×Int} (h:split_Years.f k a0 l1=some r):CS Tryz.prog 13 [.int .i64 a0, .fv (List.map en55 l1)] .no [.agg [.fi .u64 r.1, .bool r.2.1, .fi .u64 r.2.2.1], .int .i64 r.2.2.2]:=by
  unfold split_Years.f at h
  refine E.pure fn13 rfl ?_
  refine S.A 2 rfl rfl ?_
  refine S.O 2 rfl rfl ?_
  obtain ⟨q1,Hq1,h⟩:=Option.bind_eq_some_iff.1 h
  refine O.c (whole_From.cs Hq1) rfl rfl rfl ?_
  obtain ⟨q2,Hq2,h⟩:=Option.bind_eq_some_iff.1 h
  refine O.c (frac_From.cs Hq2) rfl rfl rfl ?_
  refine O.puE (v':=.os 10 (1) 0 _ true) (b':=⟨1, .own,_,_⟩) (U.litS (en:=en49) (l:=[⟨⟨⟨_⟩,_⟩,⟨_⟩⟩]) rfl (.cons (.tmp (v:=.agg _) rfl) rfl .nil) rfl rfl rfl (fun _=>rfl)) rfl rfl ?_
  refine S.r 1 rfl rfl ?_
  refine O.pu (U.lenS rfl (.tmp rfl)) ?_
  obtain ⟨q3,Hq3,h⟩:=Option.bind_eq_some_iff.1 h
  refine O.ef (U.callZ (ss:=[10]) (.cons (.tmp (v:=.os _ _ _ _ _) rfl) (.cons (.tmp (v:=.int _ _) rfl) .nil)) (.cons (.osVf (by simp) rfl (Mode.live_ne rfl) rfl (ClL.map fun _=>.aggL (.cons .fi (.cons .bool (.cons .fi .nil)))) (by first|rfl|(simp only [List.length_map,List.length_append,List.length_cons,List.length_nil] at *;done)|(simp only [List.length_map,List.length_append,List.length_cons,List.length_nil] at *;omega))) (.cons (.cl .int) .nil)) (frac_Frac.cs Hq3) (.fv (ClL.map fun _=>.aggL (.cons .fi (.cons .bool (.cons .fi .nil))))) (nowin rfl)) ?_
  obtain ⟨q4,Hq4,h⟩:=Option.bind_eq_some_iff.1 h
  refine O.pu (U.call (ss:=[]) (.cons (.tmp (v:=.int _ _) rfl) (.cons (.tmp (v:=.fv _) rfl) (.cons (.tmp (v:=.fv _) rfl) .nil))) (.cons (.cl .int) (.cons (.cl (.fv (ClL.map fun _=>.aggL (.cons .int (.cons .int (.cons .int (.cons .int (.cons .int (.cons .int .nil))))))))) (.cons (.cl (.fv (ClL.map fun _=>.aggL (.cons .fi (.cons .bool (.cons .fi .nil)))))) .nil))) (split_Weighted.cs Hq4) (.inl rfl) (.tupL (.cons (.aggL (.cons .fi (.cons .bool (.cons .fi .nil)))) (.cons .int .nil)))) ?_
  refine S.e 4 rfl rfl ?_
  refine X.ret ?_
  cases h
  exact S.R rfl rfl rfl
end Go.Proofs.YtakidmbnkkhojaaGreat
end

section
namespace Go.AVL
open Go.RowKit
set_option linter.unusedVariables false
section
variable {P : Program} {c : Ctx P} {I : Nat → Prop} {m : Nat → Reg} {w w' : World} {st : St} {a : Act} {ops : Array Oper} {K : Act → World → Prop} {Q : Exit → Act → World → Prop}
def keeps (ds:List Nat) (a a':Act):Prop:=a'.defers=a.defers∧a'.tmps.size=a.tmps.size∧∀ x,x ∉ ds→a'.tmps.getD x undef=a.tmps.getD x undef
theorem keeps.refl {ds:List Nat} (a:Act):keeps ds a a:=⟨rfl,rfl,fun _ _=>rfl⟩
theorem keeps.trans {ds:List Nat} {a b d:Act} (h:keeps ds a b) (h':keeps ds b d):keeps ds a d:=⟨h'.1.trans h.1,h'.2.1.trans h.2.1,fun x hx=>(h'.2.2 x hx).trans (h.2.2 x hx)⟩
theorem keeps.put {ds:List Nat} {a:Act} {d:Nat} {V:Value} (hd:d ∈ ds):keeps ds a (a.put (some d) V):=by
  refine ⟨rfl,by rw [Act.put_tmps,Array.size_setIfInBounds],fun x hx=>?_⟩
  have hne:d≠x:=fun e=>hx (e ▸ hd)
  rw [Act.put_tmps]
  simp only [Array.getD_eq_getD_getElem?]
  rw [Array.getElem?_setIfInBounds_ne hne]
theorem put_at {a:Act} {d:Nat} {V:Value} (hd:d < a.tmps.size):(a.put (some d) V).tmps.getD d undef=V:=by rw [Act.put_tmps,getD_set hd,if_pos rfl]
theorem T.step {i:Nat} {rest:List Nat} {o:Oper} (hi:ops[i]?=some o) (hg:o.guard=none) (h:o.wp P a w (wpOps P ops Q rest) Q):wpOps P ops Q (i :: rest) a w:=by
  unfold wpOps
  simp only [hi]
  rw [if_pos (by simp [Region.wanted,hg])]
  exact .inl h
theorem T.pu {i:Nat} {rest:List Nat} {o:Oper} {d:Nat} {v:AV} {R:List Nat} {ds:List Nat} (hx:SRx c I m st a w) (hi:ops[i]?=some o) (hg:o.guard=none) (hd:o.dst=some d) (hn:d < c.n) (hds:d ∈ ds) (hp:Pu P st d o.op v none R)
    (hk : ∀ a' w' I' m',keeps ds a a'→SRx c I' m' (st.put d v) a' w'→wpOps P ops Q rest a' w'):wpOps P ops Q (i :: rest) a w:=by
  refine T.step hi hg (Pu.sound hx hp _ _ fun V w' I' m' h1 h2=>?_)
  rw [hd]
  exact hk _ w' I' m' (.put hds) (h1.put h2 (some d) (fun x hx=>by cases hx;exact hn))
theorem T.call {i:Nat} {rest:List Nat} {o:Oper} {f:FuncId} {fn:Func} {code:Code} {args:Array Operand} {ats:Array TypeId} {V:Array Value} {G:Ending→World→Prop} (hi:ops[i]?=some o) (hg:o.guard=none) (ho:o.op = .call ⟨.value (.func f),args,ats⟩) (hf:FnOk P f fn code)
    (hv:args.map a.eval=V) (hc:Calls P f V w G) (hk : ∀ e w',G e w'→∃ v,e = .returned v∧wpOps P ops Q rest (a.put o.dst v) w'):wpOps P ops Q (i :: rest) a w:=by
  refine T.step hi hg (wp_call (f:=f) (V:=V) ?_ (callW_of_calls hf (hc.mono fun e w' he=>?_)))
  · rw [exec_call (f:=f) (cv:=#[]) ho rfl,hv,Array.append_empty]
  · obtain ⟨v,rfl,h⟩:=hk e w' he
    exact h
theorem T.enter {n:Nat} (hs:a.tmps.size=n) (hd:a.defers = []) (hst : ∀ x,VR (fun k=>k < w.heap.size) w noB m (st.t x) (a.tmps.getD x undef)) (hb:st.b=noB) :
    SRx (⟨n,w,fun k=>k < w.heap.size,none⟩:Ctx P) (fun k=>k < w.heap.size) m st a w:=by
  refine ⟨?_,hd,hs,by rw [hb];exact hst⟩
  rw [hb]
  have h:=WR.fresh (P:=P) (fun k=>k < w.heap.size) w m fun k hk=>hk
  exact ⟨h.os,h.tape,h.output,h.size,h.frame,h.frameW,h.imm,h.blk,h.inj⟩
theorem T.below {n:Nat} {w0:World} {A:Nat→Prop} (hx:SRx (⟨n,w0,A,none⟩:Ctx P) I m st a w):Below w0.heap.size w0 w :=
  ⟨hx.wr.os,hx.wr.tape,hx.wr.output,hx.wr.size,fun k hk=>hx.wr.frame k hk (by simp)⟩
end
end Go.AVL
end

section
namespace Go.Proofs.YtakidmbnkkhojaaGreat
open Go.AVL Go.RowKit Go.Proofs.YtakidmbnkkhojaaGreat.F Go.Proofs.YtakidmbnkkhojaaGreatX Go.Proofs.YtakidmbnkkhojaaGreatW.PrintWords Go.Proofs.YtakidmbnkkhojaaGreatW.PrintLast Go.Proofs.YtakidmbnkkhojaaGreatW.PrintMore
set_option linter.unusedVariables false
set_option maxRecDepth 100000
noncomputable def c59:Code:=Tryz.f59.body.getD .skip
theorem fn59:FnOk Tryz.prog 59 Tryz.f59 c59:=⟨Tryz.func59,rfl,by kernel_rfl,by kernel_rfl,mixed⟩
noncomputable def tl32:Code:=match c59 with | .seq _ (.seq _ (.seq _ (.seq _ t)))=>t|_=>.skip
theorem info144:(Tryz.prog.info? 144).map (fun i=>(i.zero,i.size,i.bytes))=some (some (.agg #[.pointer none, .slice none 0 0]),2,32):=by kernel_rfl
theorem bgrow {B b:Nat} {bs:List Value} {w w':World} (h:Lib.IsBuilder 144 5 B b bs w) (hb:Below w.heap.size w w'):Lib.IsBuilder 144 5 B b bs w':=by
  have one : ∀ p,Lib.BuilderAt 144 5 B b p bs w→Lib.BuilderAt 144 5 B b p bs w':=by
    rintro p ⟨h1,v,h2,⟨h3,h4⟩,h5⟩
    refine ⟨h1,v,(hb.block b (lt_of_some h2)).trans h2,⟨h3,h4.imp (fun h=>h) ?_⟩,h5⟩
    rintro ⟨g,cap,cur,e1,e2,e3,e4⟩
    exact ⟨g,cap,cur,e1,e2,(hb.block g (lt_of_some e3)).trans e3,e4⟩
  exact h.imp (one _) (one _)
theorem bjoin {w w1 w2:World} (h:Below w.heap.size w w1) (h':Below w1.heap.size w1 w2):Below w.heap.size w w2 :=
  h.trans ⟨h'.os,h'.tape,h'.output,h'.size,fun k hk=>h'.block k (Nat.lt_of_lt_of_le hk h.size)⟩
noncomputable def c93:Code:=Tryz.f93.body.getD .skip
theorem fn93:FnOk Tryz.prog 93 Tryz.f93 c93:=⟨Tryz.func93,rfl,by kernel_rfl,by kernel_rfl,mixed⟩
noncomputable def c94:Code:=Tryz.f94.body.getD .skip
theorem fn94:FnOk Tryz.prog 94 Tryz.f94 c94:=⟨Tryz.func94,rfl,by kernel_rfl,by kernel_rfl,mixed⟩
theorem and_r {x y:Bool} (h:(x && y)=true):y=true:=(Bool.and_eq_true_iff.1 h).2
theorem and_l {x y:Bool} (h:(x && y)=true):x=true:=(Bool.and_eq_true_iff.1 h).1
def grp (l:List ByteArray):Nat→AV:=upd (fun _=>.bad) 3 (.fv (l.map .str))
def grp2 (l:List ByteArray) (i:Int):Nat→AV:=upd (grp l) 12 (.int .i64 i)
theorem grp_vr {l:List ByteArray} {w0 w:World} {m:Nat→Reg} {V3:Value} {f:Nat→Value} (hv:VR (fun k=>k < w0.heap.size) w0 noB m (.fv (l.map .str)) V3) (hb:Below w0.heap.size w0 w) (h3:f 3=V3) (x:Nat) :
    VR (fun k=>k < w.heap.size) w noB m (grp l x) (f x):=by
  unfold grp
  by_cases hx:x=3
  · subst hx
    rw [upd_same,h3]
    exact hv.grow (fun k hk=>Nat.lt_of_lt_of_le hk hb.size) fun k hk=>hb.block k hk
  · rw [upd_ne _ _ hx];exact .bad _
theorem grp2_vr {l:List ByteArray} {i:Int} {w0 w:World} {m:Nat→Reg} {V3:Value} {f:Nat→Value} (hv:VR (fun k=>k < w0.heap.size) w0 noB m (.fv (l.map .str)) V3) (hb:Below w0.heap.size w0 w) (h3:f 3=V3) (h12:f 12 = .int .i64 i) (x:Nat) :
    VR (fun k=>k < w.heap.size) w noB m (grp2 l i x) (f x):=by
  unfold grp2
  by_cases hx:x=12
  · subst hx
    rw [upd_same,h12]
    exact .int _ _
  · rw [upd_ne _ _ hx];exact grp_vr hv hb h3 x
def ds32:List Nat:=[12,44,45,46,47,48,49,50,51,52,53,54,55]
theorem tail32 {st:St} {Q:Out→St→Prop} {l:List ByteArray} {r:ByteArray} {u n e:Nat} (h3:st.t 3 = .os 3 u 0 n true) (hb:st.b 3=⟨u, .own, .vals (l.map .str),e⟩) (hn:l.length=n)
    (h:digits_joined.f l=some r) (hQ : ∀ s,s.t 2 = .str r→Q .ret s):ByHand Tryz.prog tl32 st Q:=by
  intro c Qc hd hq a w ⟨I,m,hx⟩
  obtain ⟨hl1,hl2,rfl⟩:=digits_joined.told h
  have hsz:57≤c.n:=by
    have h1:(Nat.blt 56 c.n && _)=true:=and_l (and_r (and_r hd))
    exact Nat.le_of_ble_eq_true (and_l h1)
  have hv3:VR (fun k=>k < w.heap.size) w noB m (.fv (l.map .str)) (a.tmps.getD 3 undef):=by
    have h1:=hx.tmp 3
    rw [h3] at h1
    have h2:=os_vals (B':=noB) (m':=m) hx.wr h1 (by rw [hb]) (by rw [hb];simp) (by rw [hb]) (fun i hi=>by
      rw [List.length_map] at hi
      rw [List.getD_eq_getElem?_getD,List.getElem?_map,List.getElem?_eq_getElem hi]
      exact .str) (J:=fun k=>k < w.heap.size) (fun k hk=>(hx.wr.imm k hk).1) (fun hz=>by
        rcases hx.wr.blk 3 (by rw [hb];simp) with h0|⟨cur,h3,_⟩
        · exact absurd h0 hz
        · exact lt_of_some h3)
    rwa [List.drop_zero,List.take_of_length_le (by rw [List.length_map];omega)] at h2
  generalize hV3:a.tmps.getD 3 undef=V3 at hv3
  have hs0:a.tmps.size=c.n:=hx.sz
  refine wp_seq ?_
  refine wp_region ?_
  refine T.step rfl rfl ?_
  unfold Oper.wp
  have he : ∀ o:Oper,o.op = .alloc 144→(execOp a.eval o).run Tryz.prog w = .ok (.value (.pointer (some ⟨w.heap.size,0,none⟩))) (w.alloc (.cells #[.pointer none, .slice none 0 0] 144)):=by
    intro o ho
    obtain ⟨i0,hi,h1,h2,_⟩:=info_parts info144
    simp [execOp,ho,Instr.alloc,zeroValue,typeInfo,hi,h1,run_newVar,Value.cells]
  rw [he _ rfl]
  have hg:(a.put (some 11) (.pointer (some ⟨w.heap.size,0,none⟩))).tmps.getD 11 undef = .pointer (some ⟨w.heap.size,0,none⟩):=put_at (by omega)
  have hk:=keeps.put (ds:=[11]) (a:=a) (V:=.pointer (some ⟨w.heap.size,0,none⟩)) (List.mem_singleton.2 rfl)
  have hBu:=bfresh w
  have hBe:=below_alloc (Below.refl w.heap.size w) (.cells #[.pointer none, .slice none 0 0] 144)
  show Code.wp Tryz.prog _ _ (a.put (some 11) (.pointer (some ⟨w.heap.size,0,none⟩))) (w.alloc (.cells #[.pointer none, .slice none 0 0] 144))
  generalize a.put (some 11) (.pointer (some ⟨w.heap.size,0,none⟩))=a1 at hg hk ⊢
  generalize (w.alloc (.cells #[.pointer none, .slice none 0 0] 144))=w1 at hBu hBe ⊢
  refine wp_seq (wp_seq (wp_region ?_))
  have hx1:=T.enter (P:=Tryz.prog) (st:=⟨grp l,noB⟩) (hk.2.1.trans hs0) (hk.1.trans hx.def0) (grp_vr hv3 hBe ((hk.2.2 3 (by simp)).trans hV3)) rfl
  have hlt : ∀ d,d≤56→d < c.n:=fun d hd=>by omega
  have hkk : ∀ {a':Act} (x:Nat),keeps ds32 a1 a'→x ∉ ds32→a'.tmps.getD x undef=a1.tmps.getD x undef:=fun x h hx=>h.2.2 x hx
  refine T.pu (ds:=ds32) hx1 rfl rfl rfl (hlt _ (by decide)) (by simp [ds32]) (.move (.tmp (v:=.fv _) rfl)) fun a2 w2 I2 m2 k2 hx2=>?_
  refine T.pu (ds:=ds32) hx2 rfl rfl rfl (hlt _ (by decide)) (by simp [ds32]) (.lenV rfl (.tmp rfl)) fun a3 w3 I3 m3 k3 hx3=>?_
  refine T.pu (ds:=ds32) hx3 rfl rfl rfl (hlt _ (by decide)) (by simp [ds32]) (.bin (.tmp rfl) .int U.sub64) fun a4 w4 I4 m4 k4 hx4=>?_
  refine T.pu (ds:=ds32) hx4 rfl rfl rfl (hlt _ (by decide)) (by simp [ds32]) (.assign (.tmp (v:=.int _ _) rfl)) fun a5 w5 I5 m5 k5 hx5=>?_
  have hk5:=((k2.trans k3).trans k4).trans k5
  have h12:a5.tmps.getD 12 undef = .int .i64 ((l.length:Int) - 1):=by
    have h1:=(show VR I5 w5 noB m5 (.int .i64 (wrap64 (((l.map AV.str).length:Int) - 1))) (a5.tmps.getD 12 undef) from hx5.tmp 12).int_inv
    rw [h1,List.length_map]
    congr 1
    unfold wrap64
    omega
  have hb5:=T.below hx5
  have hB5:=bgrow hBu hb5
  have hbb5:=bjoin hBe hb5
  clear hx1 hx2 hx3 hx4 hx5 k2 k3 k4 k5
  show Code.wp Tryz.prog _ _ a5 w5
  refine wp_block (wp_loop (fun a' w'=>keeps ds32 a1 a'∧Below w.heap.size w w'∧∃ k:Nat,k≤l.length∧a'.tmps.getD 12 undef = .int .i64 ((k:Int) - 1)∧Lib.IsBuilder 144 5 w.heap.size w.heap.size (Lib.byteCells (digits_joined.go l k)) w')
    (fun a' _=>match a'.tmps.getD 12 undef with | .int _ i=>(i + 1).toNat|_=>0) ?_ ?_)
  · exact ⟨hk5,hbb5,l.length,Nat.le_refl _,h12,by rw [digits_joined.end_];exact hB5⟩
  · clear h12 hB5 hb5 hbb5 hk5
    rintro a6 w6 ⟨k6,hb6,k,hkl,h12,hB6⟩
    have hx6:=T.enter (P:=Tryz.prog) (st:=⟨grp2 l ((k:Int) - 1),noB⟩) (w:=w6) (m:=m) ((k6.2.1.trans hk.2.1).trans hs0) ((k6.1.trans hk.1).trans hx.def0) (grp2_vr hv3 hb6 (((hkk 3 k6 (by simp [ds32])).trans (hk.2.2 3 (by simp))).trans hV3) h12) rfl
    rw [h12]
    refine wp_seq (wp_seq (wp_region ?_))
    refine T.pu (ds:=ds32) hx6 rfl rfl rfl (hlt _ (by decide)) (by simp [ds32]) (.move (.tmp (v:=.int _ _) rfl)) fun a7 w7 I7 m7 k7 hx7=>?_
    refine T.pu (ds:=ds32) hx7 rfl rfl rfl (hlt _ (by decide)) (by simp [ds32]) (.bin (.tmp rfl) .int .geq) fun a8 w8 I8 m8 k8 hx8=>?_
    show Code.wp Tryz.prog _ _ a8 w8
    have k68:=(k6.trans k7).trans k8
    have hB8:=bgrow hB6 (T.below hx8)
    refine wp_cond_split (hx8.tmp 48).bool_inv (fun hc=>?_) fun hc=>?_
    · have hc:=of_decide_eq_true hc
      obtain ⟨k,rfl⟩ : ∃ j,k=j + 1:=⟨k - 1,by omega⟩
      have hn:(((k + 1:Nat):Int) - 1).toNat=k:=by omega
      have hes:(l.map AV.str).getD (((k + 1:Nat):Int) - 1).toNat .bad = .str (rdOf ByteArray.empty l (k:Int)):=by
        rw [hn]
        unfold rdOf
        rw [Int.toNat_natCast,List.getD_eq_getElem?_getD,List.getElem?_map,List.getD_eq_getElem?_getD,List.getElem?_eq_getElem (show k < l.length by omega)]
        rfl
      refine wp_skip ?_
      show Code.wp Tryz.prog _ _ a8 w8
      refine wp_seq (wp_block (wp_region ?_))
      refine T.pu (ds:=ds32) hx8 rfl rfl rfl (hlt _ (by decide)) (by simp [ds32]) (.move (.tmp (v:=.fv _) rfl)) fun a9 w9 I9 m9 k9 hx9=>?_
      refine T.pu (ds:=ds32) hx9 rfl rfl rfl (hlt _ (by decide)) (by simp [ds32]) (.move (.tmp (v:=.int _ _) rfl)) fun a10 w10 I10 m10 k10 hx10=>?_
      refine T.pu (ds:=ds32) hx10 rfl rfl rfl (hlt _ (by decide)) (by simp [ds32]) (.indexV rfl (by rw [hes];exact ⟨rfl,rfl⟩) (.tmp rfl) (.tmp rfl) hc (by rw [List.length_map];omega)) fun a11 w11 I11 m11 k11 hx11=>?_
      refine T.pu (ds:=ds32) hx11 rfl rfl rfl (hlt _ (by decide)) (by simp [ds32]) (.loadR (r:=.str (rdOf ByteArray.empty l (k:Int))) (.tmp rfl) (by rw [hes];exact U.self rfl rfl rfl)) fun a12 w12 I12 m12 k12 hx12=>?_
      have k912:=((k9.trans k10).trans k11).trans k12
      have hb12:=T.below hx12
      have hB12:=bgrow hB6 hb12
      have h54:=(show VR I12 w12 noB m12 (.str (rdOf ByteArray.empty l (k:Int))) (a12.tmps.getD 54 undef) from hx12.tmp 54).str_inv
      have h11:a12.tmps.getD 11 undef = .pointer (some ⟨w.heap.size,0,none⟩):=(hkk 11 (k68.trans k912) (by simp [ds32])).trans hg
      have hb612:=bjoin hb6 hb12
      refine T.call rfl rfl rfl fn93 (V:=#[.pointer (some ⟨w.heap.size,0,none⟩), .string (rdOf ByteArray.empty l (k:Int))]) (by have e1:a12.eval (.tmp 11)=_:=h11;have e2:a12.eval (.tmp 54)=_:=h54;simp only [List.map_toArray,List.map_cons,List.map_nil,e1,e2]) (bwrite _ _ _ _ _ hB12 (digits_joined.fits (by omega) hl2) hb612.size) ?_
      rintro e w13 ⟨rfl,hB13,hb13⟩
      refine ⟨_,rfl,?_⟩
      rw [← digits_joined.step l k (by omega)] at hB13
      have k13:keeps ds32 a1 (a12.put (some 55) (.tuple #[.int .i64 (rdOf ByteArray.empty l (k:Int)).size, .nilIface])):=(k68.trans k912).trans (.put (by simp [ds32]))
      have h12':(a12.put (some 55) (.tuple #[.int .i64 (rdOf ByteArray.empty l (k:Int)).size, .nilIface])).tmps.getD 12 undef = .int .i64 (((k + 1:Nat):Int) - 1):=by
        rw [(keeps.put (ds:=[55]) (a:=a12) (List.mem_singleton.2 rfl)).2.2 12 (by simp)]
        exact (show VR I12 w12 noB m12 (.int .i64 (((k + 1:Nat):Int) - 1)) (a12.tmps.getD 12 undef) from hx12.tmp 12).int_inv
      show Code.wp Tryz.prog _ _ (a12.put (some 55) (.tuple #[.int .i64 (rdOf ByteArray.empty l (k:Int)).size, .nilIface])) w13
      generalize a12.put (some 55) (.tuple #[.int .i64 (rdOf ByteArray.empty l (k:Int)).size, .nilIface])=a13 at k13 h12'
      have hb1:Below w.heap.size w w13:=hb612.trans hb13
      clear hx12 hx11 hx10 hx9 hx8 hx7 hx6
      have hx13:=T.enter (P:=Tryz.prog) (st:=⟨grp2 l (((k + 1:Nat):Int) - 1),noB⟩) (w:=w13) (m:=m) ((k13.2.1.trans hk.2.1).trans hs0) ((k13.1.trans hk.1).trans hx.def0) (grp2_vr hv3 hb1 (((hkk 3 k13 (by simp [ds32])).trans (hk.2.2 3 (by simp))).trans hV3) h12') rfl
      refine wp_region ?_
      refine T.pu (ds:=ds32) hx13 rfl rfl rfl (hlt _ (by decide)) (by simp [ds32]) (.move (.tmp (v:=.int _ _) rfl)) fun a14 w14 I14 m14 k14 hx14=>?_
      refine T.pu (ds:=ds32) hx14 rfl rfl rfl (hlt _ (by decide)) (by simp [ds32]) (.bin (.tmp rfl) .int U.sub64) fun a15 w15 I15 m15 k15 hx15=>?_
      refine T.pu (ds:=ds32) hx15 rfl rfl rfl (hlt _ (by decide)) (by simp [ds32]) (.assign (.tmp (v:=.int _ _) rfl)) fun a16 w16 I16 m16 k16 hx16=>?_
      have h12'':a16.tmps.getD 12 undef = .int .i64 ((k:Int) - 1):=by
        have h1:=(show VR I16 w16 noB m16 (.int .i64 (wrap64 (((k + 1:Nat):Int) - 1 - 1))) (a16.tmps.getD 12 undef) from hx16.tmp 12).int_inv
        rw [h1]
        congr 1
        unfold wrap64
        omega
      refine ⟨⟨((k13.trans k14).trans k15).trans k16,bjoin hb1 (T.below hx16),k,by omega,h12'',bgrow hB13 (T.below hx16)⟩,?_⟩
      rw [h12'']
      show ((k:Int) - 1 + 1).toNat < (((k + 1:Nat):Int) - 1 + 1).toNat
      omega
    · have hc:=of_decide_eq_false hc
      obtain rfl:k=0:=by omega
      refine wp_exit ?_
      show Code.wp Tryz.prog _ _ a8 w8
      have hb8:=bjoin hb6 (T.below hx8)
      have h11:a8.tmps.getD 11 undef = .pointer (some ⟨w.heap.size,0,none⟩):=(hkk 11 k68 (by simp [ds32])).trans hg
      refine wp_seq (wp_region ?_)
      refine T.call rfl rfl rfl fn94 (V:=#[.pointer (some ⟨w.heap.size,0,none⟩)]) (by have e1:a8.eval (.tmp 11)=_:=h11;simp only [List.map_toArray,List.map_cons,List.map_nil,e1]) (bstring _ _ _ _ hB8 hb8.size) ?_
      rintro e w9 ⟨rfl,hb9⟩
      refine ⟨_,rfl,?_⟩
      have hb:=hb8.trans hb9
      have hx9:=hx.grow (a:=a) hb
      have hz:((a8.put (some 56) (.string ⟨(digits_joined.go l 0).toArray⟩))).tmps.size=c.n:=by rw [Act.put_tmps,Array.size_setIfInBounds];exact (k68.2.1.trans hk.2.1).trans hs0
      have hd8:(a8.put (some 56) (.string ⟨(digits_joined.go l 0).toArray⟩)).defers = []:=(k68.1.trans hk.1).trans hx.def0
      have hv:(a8.put (some 56) (.string ⟨(digits_joined.go l 0).toArray⟩)).tmps.getD 56 undef = .string ⟨(digits_joined.go l 0).toArray⟩:=put_at (by have:=(k68.2.1.trans hk.2.1).trans hs0;omega)
      have hx10:SRx c I m ⟨upd (fun _=>.bad) 56 (.str ⟨(digits_joined.go l 0).toArray⟩),st.b⟩ (a8.put (some 56) (.string ⟨(digits_joined.go l 0).toArray⟩)) w9:=by
        refine ⟨hx9.wr,hd8,hz,fun x=>?_⟩
        show VR I w9 st.b m (upd (fun _=>.bad) 56 (.str _) x) _
        by_cases hx:x=56
        · subst hx;rw [upd_same,hv];exact .str _
        · rw [upd_ne _ _ hx];exact .bad _
      refine T.pu (ds:=[2]) hx10 rfl rfl rfl (hlt _ (by decide)) (by simp) (.assign (.tmp (v:=.str _) rfl)) fun a11 w11 I11 m11 k11 hx11=>?_
      show Code.wp Tryz.prog _ _ a11 w11
      exact wp_ret (hq .ret _ a11 w11 (hQ _ rfl) ⟨I11,m11,hx11⟩)
end Go.Proofs.YtakidmbnkkhojaaGreat
end

section
namespace Go.Proofs.YtakidmbnkkhojaaGreat.F
open Go.RowKit Go.Proofs.YtakidmbnkkhojaaGreatW.PrintWords Go.Proofs.YtakidmbnkkhojaaGreatW.PrintLast Go.Proofs.YtakidmbnkkhojaaGreatW.PrintMore Go.Proofs.YtakidmbnkkhojaaGreatX
attribute [local go_sem] max2_int cell_some xrun_add64 xrun_sub64
attribute [local go_sem] max2_int min2_int max_two min_two max_three min_three max_four min_four
set_option linter.unusedVariables false
set_option linter.unusedSimpArgs false
theorem digits_small.cells_at (acc:List Int) (h:acc.length < 20):(digits_small.cells acc)[19 - acc.length]?=some (Value.int .u8 0):=by
  unfold digits_small.cells
  rw [List.getElem?_toArray,List.getElem?_append_left (by simp;omega),List.getElem?_replicate,if_pos (by omega)]
theorem digits_small.cells_put (acc:List Int) (h:acc.length < 20) (x:Int):(digits_small.cells acc).setIfInBounds (19 - acc.length) (Value.int .u8 x)=digits_small.cells (x :: acc):=by
  unfold digits_small.cells
  rw [List.setIfInBounds_toArray]
  congr 1
  have e1:20 - acc.length=(19 - acc.length) + 1:=by omega
  have e2:20 - (x :: acc).length=19 - acc.length:=by simp
  rw [e2,e1,List.replicate_succ',List.append_assoc,List.set_append_right _ _ (by simp)]
  simp
theorem digits_small.step {n:Int} (h0:0≤n) (h1:n < 18446744073709551616):IntKind.u64.wrap (n.tdiv 10)=n / 10:=by
  rw [Int.tdiv_eq_ediv_of_nonneg h0]
  simp only [IntKind.wrap,IntKind.bits,IntKind.signed]
  simp
  omega
theorem digits_small.digit {n:Int} (h0:0≤n):IntKind.u64.wrap (48 + n.tmod 10) % 256=48 + n % 10:=by
  rw [Int.tmod_eq_emod_of_nonneg h0]
  simp only [IntKind.wrap,IntKind.bits,IntKind.signed]
  simp
  omega
theorem info5:(Tryz.prog.info? 5).map (fun i=>(i.zero,i.size,i.bytes))=some (some (.int .u8 0),1,1):=by kernel_rfl
theorem m0 {p:Prop} (h:p):Aside0 p:=⟨h⟩
set_option maxHeartbeats 1000000 in
set_option maxRecDepth 100000 in
theorem digits_small.calls (a0 a1:Int) (r:ByteArray) (w:World) (h:digits_small.f a0 a1=some r) :
    Calls Tryz.prog 92 #[.int .u64 a0, .int .i64 a1] w fun e w'=>e = .returned (.string r)∧Below w.heap.size w w':=by
  unfold digits_small.f at h
  by_cases hc:0≤a0∧a0 < 18446744073709551616
  rotate_left
  · rw [if_neg hc] at h
    cases h
  rw [if_pos hc] at h
  obtain ⟨R,hR,hr⟩:=Option.map_eq_some_iff.mp h
  clear h
  have HB:=m0 (Below.refl w.heap.size w)
  have HR:=m0 hR
  have HC:=m0 hc
  have HS:=m0 hr
  clear hR hc hr
  go_enter Tryz.func92,Tryz.ntmps92
  go_wp2
  go_loopg [0,6] 21 (fun kq v0 v6 w'=>∃ (n i:Int) (acc:List Int),v0 = .int .u64 n∧v6 = .int .i64 i∧Aside0 (i=20 - acc.length∧acc.length≤20∧0≤n∧n < 18446744073709551616)∧Aside0 (digits_small.l0 kq n a1 acc=some R)∧Aside0 (kq≤21)∧Aside0 (w'.heap[w.heap.size]?=some (.cells (digits_small.cells acc) 180 (0,0)))∧Aside0 (Below w.heap.size w w'))
  case atStart=>exact ⟨a0,20,[],rfl,rfl,⟨rfl,by simp,HC.out.1,HC.out.2⟩,HR,⟨Nat.le_refl _⟩,⟨blk_new w (.cells (digits_small.cells []) 180 (0,0))⟩,⟨below_alloc HB.out _⟩⟩
  case round =>
    clear HR HC
    obtain ⟨n,i,acc,rfl,rfl,HI,HA,HK1,BK,HB⟩:=hrel
    cases gk with
    | zero=>exact absurd HA.out (by simp [digits_small.l0])
    | succ k1 =>
      have H:=HA.out
      clear HA
      simp only [digits_small.l0] at H
      by_cases c:0 < n∨(acc.length:Int) < a1
      · rw [if_pos c] at H
        by_cases c3:acc.length < 20
        rotate_left
        · rw [if_neg c3] at H
          cases H
        rw [if_pos c3] at H
        have hw:wrap64 (i - 1)=((19 - acc.length:Nat):Int):=by have:=HI.out;unfold wrap64;omega
        have hw2:wrap64 (20 - i)=(acc.length:Int):=by have:=HI.out;unfold wrap64;omega
        have hb:0≤wrap64 (i - 1)∧wrap64 (i - 1) < 20:=by rw [hw];omega
        have hn:(wrap64 (i - 1)).toNat=19 - acc.length:=by rw [hw];simp
        have hcell:wr.cell? ⟨w.heap.size,(wrap64 (i - 1)).toNat,none⟩=some (.int .u8 0):=by rw [hn,blk_cell BK.out];exact digits_small.cells_at acc c3
        have hfro:wr.frozen? ⟨w.heap.size,(wrap64 (i - 1)).toNat,none⟩=false:=blk_frozen BK.out _
        have hput:(wr.setCell ⟨w.heap.size,(wrap64 (i - 1)).toNat,none⟩ (.int .u8 (IntKind.u64.wrap (48 + n.tmod 10) % 256))).heap[w.heap.size]?=some (.cells (digits_small.cells ((48 + n % 10) :: acc)) 180 (0,0)):=by
          rw [hn,digits_small.digit HI.out.2.2.1]
          exact blk_put BK.out _ _ (digits_small.cells_put acc c3 _)
        have hout:Below w.heap.size w (wr.setCell ⟨w.heap.size,(wrap64 (i - 1)).toNat,none⟩ (.int .u8 (IntKind.u64.wrap (48 + n.tmod 10) % 256))):=below_set HB.out (Nat.le_refl _)
        have HP:=m0 hput
        have HO:=m0 hout
        have HH:=m0 H
        have HN:=m0 hn
        clear hput hout H hn
        have hq:=digits_small.step HI.out.2.2.1 HI.out.2.2.2
        have HT:=m0 c
        have rel : ∀ W:World,W=wr.setCell ⟨w.heap.size,(wrap64 (i - 1)).toNat,none⟩ (.int .u8 (IntKind.u64.wrap (48 + n.tmod 10) % 256))→∃ (n' i':Int) (acc':List Int),Value.int .u64 (n / 10) = .int .u64 n'∧Value.int .i64 (wrap64 (i - 1)) = .int .i64 i'∧Aside0 (i'=20 - acc'.length∧acc'.length≤20∧0≤n'∧n' < 18446744073709551616)∧Aside0 (digits_small.l0 k1 n' a1 acc'=some R)∧Aside0 (k1≤21)∧Aside0 (W.heap[w.heap.size]?=some (.cells (digits_small.cells acc') 180 (0,0)))∧Aside0 (Below w.heap.size w W):=by
          rintro W rfl
          have h1:=HI.out
          exact ⟨n / 10,wrap64 (i - 1),(48 + n % 10) :: acc,rfl,rfl,⟨by rw [hw,List.length_cons];omega,by rw [List.length_cons];omega,by omega,by omega⟩,HH,⟨by have:=HK1.out;omega⟩,HP,HO⟩
        have HREL:=m0 rel
        clear rel hw c
        by_cases c1:0 < n
        · have c1b:decide (0 < n)=true:=decide_eq_true c1
          clear c1 hw2
          go_wp2
          go_roundg k1
          case measure=>have:=HK1.out;omega
          case rel=>exact HREL.out _ rfl
        · have c1b:decide (0 < n)=false:=decide_eq_false c1
          have c2b:decide (wrap64 (20 - i) < a1)=true:=decide_eq_true (by rw [hw2];exact HT.out.resolve_left c1)
          clear c1 hw2
          go_wp2
          go_roundg k1
          case measure=>have:=HK1.out;omega
          case rel=>exact HREL.out _ rfl
      · rw [if_neg c] at H
        obtain rfl:=Option.some.inj H
        have c1b:decide (0 < n)=false:=decide_eq_false (fun h=>c (Or.inl h))
        have hw2:wrap64 (20 - i)=(acc.length:Int):=by have:=HI.out;unfold wrap64;omega
        have c2b:decide (wrap64 (20 - i) < a1)=false:=decide_eq_false (fun h=>c (Or.inr (by rw [← hw2];exact h)))
        have hi0:i.toNat=20 - acc.length:=by have:=HI.out;omega
        have hi1:0≤i∧i≤20:=by have:=HI.out;omega
        have hlen:acc.length≤20:=HI.out.2.1
        have hal:Tryz.prog.arrayLen 180=20:=by kernel_rfl
        have hel:Tryz.prog.elem 180=5:=by kernel_rfl
        have hut:Tryz.prog.underlying 180=some (.array (Tryz.prog.arrayLen 180) (Tryz.prog.elem 180)):=by kernel_rfl
        obtain ⟨ad,hsl,had⟩ : ∃ ad:Addr,(∀ W:World,(Instr.sliceAt 180 (.pointer (some ⟨w.heap.size,0,none⟩)) (some (.int .i64 i)) none none).run Tryz.prog W = .ok (.slice (some ad) acc.length acc.length) W)∧(0 < acc.length→ad=⟨w.heap.size,20 - acc.length,none⟩):=by
          refine ⟨if 20=i.toNat then ⟨w.heap.size,0,none⟩ else (⟨w.heap.size,0,none⟩:Addr).add (i.toNat * 1),fun W=>?_,fun h=>?_⟩
          · rw [Go.run_sliceAt_array_l W 180 _ hut .i64 i hi1.1 (by rw [hal];exact hi1.2),hal,hel]
            obtain ⟨i0,hi,_,hsz,_⟩:=info_parts info5
            simp [sizeOf,typeInfo,hi,hsz,Result.andThen,Go.slicedAt]
            omega
          · rw [if_neg (by omega),hi0]
            simp [add_plain]
        have hrd:ReadsInt wr .u8 (some ad) acc.length acc:=by
          refine ⟨rfl,by omega,fun h=>⟨ad,rfl,fun j hj=>?_⟩⟩
          rw [had h,show (⟨w.heap.size,20 - acc.length,none⟩:Addr).add j=⟨w.heap.size,20 - acc.length + j,none⟩ by unfold Addr.add;split <;> simp_all,blk_cell BK.out]
          unfold digits_small.cells
          rw [List.getElem?_toArray,List.getElem?_append_right (by simp)]
          simp [hj]
        have hconv:=string_of_reads (P:=Tryz.prog) (src:=142) (dst:=9) (e:=5) (c:=acc.length) Tryz.underlying142 Tryz.underlying5 Tryz.underlying9 hrd
        obtain rfl:=HS.out
        clear HS
        clear hw2 c H hi0 hi1 hlen hal hel hut hrd had
        go_wp2
        go_ret
        exact ⟨rfl,HB.out⟩
end Go.Proofs.YtakidmbnkkhojaaGreat.F
namespace Go.Proofs.YtakidmbnkkhojaaGreat
open Go.AVL Go.RowKit Go.Proofs.YtakidmbnkkhojaaGreat.F
theorem int2_args {A:Nat→Prop} {w:World} {B:Nat→Blk} {m:Nat→Reg} {V:Array Value} {k k':IntKind} {a b:Int} (hs:V.size=2) (hv : ∀ i,i < 2→VR A w B m ([AV.int k a,AV.int k' b].getD i .bad) (V.getD i undef)):V = #[.int k a, .int k' b]:=by
  have h0:=(hv 0 (by omega)).int_inv
  have h1:=(hv 1 (by omega)).int_inv
  apply Array.ext
  · exact hs
  · intro i hi1 hi2
    rw [hs] at hi1
    rcases i with _|_|i
    · simpa [Array.getD,hs] using h0
    · simpa [Array.getD,hs] using h1
    · omega
noncomputable def c92:Code:=Tryz.f92.body.getD .skip
set_option maxRecDepth 100000
theorem fn92:FnOk Tryz.prog 92 Tryz.f92 c92:=⟨Tryz.func92,rfl,by kernel_rfl,by kernel_rfl,mixed⟩
theorem digits_small.cs {a0:Int} {a1:Int} {r:ByteArray} (h:digits_small.f a0 a1=some r):CS Tryz.prog 92 [.int .u64 a0, .int .i64 a1] .no [.str r]:=by
  intro A wg w m V hwg hw hs hv
  rw [int2_args hs hv]
  refine callW_of_calls fn92 ((digits_small.calls a0 a1 r w h).mono ?_)
  rintro e w' ⟨rfl,hb⟩
  exact ⟨A,m,hw.grow hb,(fun p r1 r2 e h=>by cases h), .str r⟩
end Go.Proofs.YtakidmbnkkhojaaGreat
end

section
namespace Go.Proofs.YtakidmbnkkhojaaGreat
open Go.AVL Go.RowKit Go.Proofs.YtakidmbnkkhojaaGreat.F Go.Proofs.YtakidmbnkkhojaaGreatX Go.Proofs.YtakidmbnkkhojaaGreatW.PrintWords Go.Proofs.YtakidmbnkkhojaaGreatW.PrintLast Go.Proofs.YtakidmbnkkhojaaGreatW.PrintMore
set_option linter.unusedVariables false
set_option linter.unusedSimpArgs false
set_option maxRecDepth 100000
set_option maxHeartbeats 16000000
theorem digits_Print.cs {k:Nat} {l0_0:List Int} {r:ByteArray} (h:digits_Print.f k l0_0=some r):CS Tryz.prog 59 [.agg [.fi .u64 l0_0]] .no [.str r]:=by
  unfold digits_Print.f at h
  refine E.pure fn59 rfl ?_
  refine S.A 2 rfl rfl ?_
  refine X.seq ?_
  refine S.O 1 rfl rfl ?_
  obtain ⟨q1,Hq1,h⟩:=Option.bind_eq_some_iff.1 h
  refine O.c (nat_Nat_Zero.cs Hq1) rfl rfl rfl ?_
  refine O.nil ?_
  refine X.cond (.tmp rfl) (fun c=>?_) (fun c=>?_)
  · rw [if_pos c] at h
    refine S.A 1 rfl rfl ?_
    refine X.ret ?_
    cases h
    exact S.R rfl rfl rfl
  · rw [if_neg (bf c)] at h
    refine X.skip ?_
    refine X.seq ?_
    refine X.still ?_
    refine O.ef (U.nilOE (u:=1) (row:=.vals (List.map AV.str [])) (e:=9) rfl rfl) ?_
    refine O.nil ?_
    refine X.seq ?_
    refine X.block ?_
    refine X.inv (fun k s=>∃ x3 x852000 n3 u1 u3,s.b 3=⟨u3, .own, .vals (List.map AV.str x3),9⟩∧s.t 3 = .os 3 u3 0 n3 true∧x3.length=n3∧s.t 1 = .op 1 u1 0 0∧s.b 1=⟨u1, .own, .vals [.agg [.fi .u64 x852000]],45⟩∧digits_Print.l0 k x3 x852000=some r) ?_ ?_ ⟨_,_,_,_,_,rfl,rfl,rfl,rfl,rfl,h⟩
    · rintro s ⟨_,_,_,_,_,_,_,_,_,_,h⟩;unfold digits_Print.l0 at h;cases h
    · rintro k1 s1 ⟨x3,x852000,n3,u1,u3,e0,e1,rfl,e3,e4,h⟩
      unfold digits_Print.l0 at h
      rw [St.fixB e0,St.fixT e1,St.fixT e3,St.fixB e4]
      refine X.seq ?_
      refine S.O 1 rfl rfl ?_
      obtain ⟨q2,Hq2,h⟩:=Option.bind_eq_some_iff.1 h
      refine O.c (nat_Nat_Zero.cs Hq2) rfl rfl rfl ?_
      refine S.e 1 rfl rfl ?_
      refine X.condNot (.tmp rfl) (fun c=>?_) (fun c=>?_)
      · rw [if_neg (bf c)] at h
        refine X.skip ?_
        refine X.block ?_
        refine S.D 1 rfl rfl ?_
        refine D.puE (v':=.os 20 ((s1.b 20).ver + 1) 0 _ true) (b':=⟨(s1.b 20).ver + 1, .own,_,_⟩) (U.litI rfl rfl (.cons .int .nil) rfl rfl) rfl rfl ?_
        obtain ⟨q3,Hq3,h⟩:=Option.bind_eq_some_iff.1 h
        refine D.ef (C.callZ (ss:=[20]) (.cons (.tmp (v:=.os _ _ _ _ _) rfl) .nil) (.cons (.osIf (by simp) rfl (Mode.live_ne rfl) rfl (by first|rfl|(simp only [List.length_set];done)|(simp only [List.length_drop,List.length_take,List.length_append,List.length_set] at *;omega))) .nil) (nat_Of.cs Hq3) (.aggL (.cons .fi .nil)) (nowin rfl)) ?_
        obtain ⟨q4,Hq4,h⟩:=Option.bind_eq_some_iff.1 h
        refine D.c (quot_Div.cs Hq4) rfl rfl rfl ?_
        refine S.d 9 rfl rfl ?_
        refine D.nil (by kernel_rfl) ?_
        refine S.A 1 rfl rfl ?_
        refine X.seq ?_
        refine S.O 1 rfl rfl ?_
        obtain ⟨q5,Hq5,h⟩:=Option.bind_eq_some_iff.1 h
        refine O.puE (v':=.os 27 ((s1.b 27).ver + 1) 0 _ true) (b':=⟨(s1.b 27).ver + 1, .own,_,_⟩) (U.callF (ss:=[]) (.cons (.tmp (v:=.agg _) rfl) .nil) (.cons (.cl (.aggL (.cons .fi .nil))) .nil) (nat_Nat_Limbs.cs Hq5)) rfl rfl ?_
        refine O.pu (Pu.lenO rfl (.tmp rfl)) ?_
        refine S.e 1 rfl rfl ?_
        refine X.block ?_
        refine X.inv (fun k s=>k≤k1∧∃ x3 x7 x27 x28 x29 x869000 n27 n3 u1 u27 u3 u4 u5 z1_0 z5_0,s.b 3=⟨u3, .own, .vals (List.map AV.str x3),9⟩∧s.t 3 = .os 3 u3 0 n3 true∧x3.length=n3∧s.t 7 = .int .u64 x7∧s.b 27=⟨u27, .own, .ints .u64 x27,102⟩∧s.t 27 = .os 27 u27 0 n27 true∧x27.length=n27∧s.t 28 = .int .i64 x28∧s.t 29 = .int .i64 x29∧s.t 1 = .op 1 u1 0 0∧s.b 1=⟨u1, .own, .vals [.agg [.fi .u64 z1_0]],45⟩∧s.t 4 = .op 4 u4 0 0∧s.b 4=⟨u4, .own, .vals [.agg [.fi .u64 x869000]],45⟩∧s.t 5 = .op 5 u5 0 0∧s.b 5=⟨u5, .own, .vals [.agg [.fi .u64 z5_0]],45⟩∧digits_Print.l1 k x3 x7 x27 x28 x29 x869000=some r) ?_ ?_ ⟨(by omega),_,_,_,_,_,_,_,_,_,_,_,_,_,_,_,rfl,rfl,(by first|rfl|(simp only [List.length_set];done)|(simp only [List.length_drop,List.length_take,List.length_append,List.length_set] at *;omega)),rfl,rfl,rfl,(by first|rfl|(simp only [List.length_set];done)|(simp only [List.length_drop,List.length_take,List.length_append,List.length_set] at *;omega)),rfl,rfl,rfl,rfl,rfl,rfl,rfl,rfl,h⟩
        · rintro s ⟨_,_,_,_,_,_,_,_,_,_,_,_,_,_,_,_,_,_,_,_,_,_,_,_,_,_,_,_,_,_,_,h⟩;unfold digits_Print.l1 at h;cases h
        · rintro k2 s2 ⟨kl2,x3,x7,x27,x28,x29,x869000,n27,n3,u1,u27,u3,u4,u5,z1_0,z5_0,e0,e1,rfl,e3,e4,e5,rfl,e7,e8,e9,e10,e11,e12,e13,e14,h⟩
          unfold digits_Print.l1 at h
          rw [St.fixB e0,St.fixT e1,St.fixT e3,St.fixB e4,St.fixT e5,St.fixT e7,St.fixT e8,St.fixT e9,St.fixB e10,St.fixT e11,St.fixB e12,St.fixT e13,St.fixB e14]
          refine S.A 1 rfl rfl ?_
          refine X.seq ?_
          refine X.condP (.tmp rfl) (fun c=>?_) (fun c=>?_)
          · rw [if_pos c] at h
            refine X.skip ?_
            refine X.seq ?_
            refine X.block ?_
            refine X.seq ?_
            refine X.still ?_
            repeat (rw [giff] at h;obtain ⟨_,h⟩:=h)
            refine O.pu (U.indexO0 rfl (.tmp rfl) rfl rfl (.tmp rfl) (by first|omega|(simp only [List.length_set] at *;omega)) (by first|omega|(simp only [List.length_set] at *;omega)) rfl rfl) ?_
            refine O.pu (U.rdO (.tmp rfl) rfl rfl rfl rfl rfl) ?_
            refine S.e 1 rfl rfl ?_
            refine X.still ?_
            refine S.e 2 rfl rfl ?_
            refine X.still ?_
            refine S.e 2 rfl rfl ?_
            exact ⟨_,(by omega),(by omega),_,_,_,_,_,_,_,_,_,_,_,_,_,_,_,rfl,rfl,(by first|rfl|(simp only [List.length_set];done)|(simp only [List.length_drop,List.length_take,List.length_append,List.length_set] at *;omega)),rfl,rfl,rfl,(by first|rfl|(simp only [List.length_set];done)|(simp only [List.length_drop,List.length_take,List.length_append,List.length_set] at *;omega)),rfl,rfl,rfl,rfl,rfl,rfl,rfl,rfl,h⟩
          · rw [if_neg c] at h
            refine X.exit (B.out ?_)
            refine S.A 1 rfl rfl ?_
            refine X.seq ?_
            refine S.O 1 rfl rfl ?_
            obtain ⟨q6,Hq6,h⟩:=Option.bind_eq_some_iff.1 h
            refine O.c (nat_Nat_Zero.cs Hq6) rfl rfl rfl ?_
            refine O.nil ?_
            refine X.cond (.tmp rfl) (fun c=>?_) (fun c=>?_)
            · rw [if_pos c] at h
              refine X.still ?_
              refine S.e 1 rfl rfl ?_
              refine S.O 3 rfl rfl ?_
              obtain ⟨q7,Hq7,h⟩:=Option.bind_eq_some_iff.1 h
              refine O.c (digits_small.cs Hq7) rfl rfl rfl ?_
              refine O.puE (v':=.os 41 ((s2.b 41).ver + 1) 0 _ true) (b':=⟨(s2.b 41).ver + 1, .own,_,_⟩) (U.litS (en:=AV.str) (l:=[_]) rfl (.cons (.tmp (v:=.str _) rfl) rfl .nil) rfl rfl rfl (fun _=>rfl)) rfl rfl ?_
              repeat (rw [giff] at h;obtain ⟨_,h⟩:=h)
              refine O.ef (U.appendSE (en:=AV.str) (u':=(s2.b 42).ver + 1) rfl (.tmp rfl) rfl (by first|rfl|(simp only [List.length_append,List.length_cons,List.length_nil] at *;omega)) (.tmp rfl) (.osVf (List.mem_singleton.2 rfl) rfl (Mode.live_ne rfl) rfl (ClL.map fun _=>.str) (by simp)) rfl (fun _=>⟨rfl,rfl⟩) (by simp only [maxLen,List.length_cons,List.length_nil];omega) (by simp only [List.length_cons,List.length_nil];omega) rfl) ?_
              refine O.ef (U.takeE (u':=u3 + 1) (.tmp rfl) rfl (ne_of_beq rfl) rfl) ?_
              refine O.nil ?_
              refine X.still ?_
              refine S.e 2 rfl rfl ?_
              exact ⟨_,(by omega),_,_,_,_,_,rfl,rfl,(by first|rfl|(simp only [List.length_set];done)|(simp only [List.length_drop,List.length_take,List.length_append,List.length_set] at *;omega)),rfl,rfl,h⟩
            · rw [if_neg (bf c)] at h
              refine X.skip ?_
              refine S.O 3 rfl rfl ?_
              obtain ⟨q8,Hq8,h⟩:=Option.bind_eq_some_iff.1 h
              refine O.c (digits_small.cs Hq8) rfl rfl rfl ?_
              refine O.puE (v':=.os 41 ((s2.b 41).ver + 1) 0 _ true) (b':=⟨(s2.b 41).ver + 1, .own,_,_⟩) (U.litS (en:=AV.str) (l:=[_]) rfl (.cons (.tmp (v:=.str _) rfl) rfl .nil) rfl rfl rfl (fun _=>rfl)) rfl rfl ?_
              repeat (rw [giff] at h;obtain ⟨_,h⟩:=h)
              refine O.ef (U.appendSE (en:=AV.str) (u':=(s2.b 42).ver + 1) rfl (.tmp rfl) rfl (by first|rfl|(simp only [List.length_append,List.length_cons,List.length_nil] at *;omega)) (.tmp rfl) (.osVf (List.mem_singleton.2 rfl) rfl (Mode.live_ne rfl) rfl (ClL.map fun _=>.str) (by simp)) rfl (fun _=>⟨rfl,rfl⟩) (by simp only [maxLen,List.length_cons,List.length_nil];omega) (by simp only [List.length_cons,List.length_nil];omega) rfl) ?_
              refine O.ef (U.takeE (u':=u3 + 1) (.tmp rfl) rfl (ne_of_beq rfl) rfl) ?_
              refine O.nil ?_
              refine X.still ?_
              refine S.e 2 rfl rfl ?_
              exact ⟨_,(by omega),_,_,_,_,_,rfl,rfl,(by first|rfl|(simp only [List.length_set];done)|(simp only [List.length_drop,List.length_take,List.length_append,List.length_set] at *;omega)),rfl,rfl,h⟩
      · rw [if_pos c] at h
        refine X.exit (B.out ?_)
        obtain ⟨qt,Hqt,h⟩:=Option.bind_eq_some_iff.1 h
        cases h
        exact X.sem (tail32 rfl rfl rfl Hqt fun s hs=>E.fin [] (.tmp (v:=.str _) hs .nil) (.cons (.cl .str) .nil))
noncomputable def c58:Code:=Tryz.f58.body.getD .skip
theorem fn58:FnOk Tryz.prog 58 Tryz.f58 c58:=⟨Tryz.func58,rfl,by kernel_rfl,by kernel_rfl,mixed⟩
theorem whole_Int_Print.cs {k:Nat} {l0_0:List Int} {a0_1:Bool} {r:ByteArray} (h:whole_Int_Print.f k l0_0 a0_1=some r):CS Tryz.prog 58 [.agg [.fi .u64 l0_0, .bool a0_1]] .no [.str r]:=by
  unfold whole_Int_Print.f at h
  refine E.pure fn58 rfl ?_
  refine S.A 2 rfl rfl ?_
  refine X.seq ?_
  refine S.A 2 rfl rfl ?_
  refine X.cond (.tmp rfl) (fun c=>?_) (fun c=>?_)
  · rw [if_pos c] at h
    refine S.O 2 rfl rfl ?_
    obtain ⟨q1,Hq1,h⟩:=Option.bind_eq_some_iff.1 h
    refine O.c (digits_Print.cs Hq1) rfl rfl rfl ?_
    repeat (rw [giff] at h;obtain ⟨_,h⟩:=h)
    refine O.pu (Pu.bin .str (.tmp rfl) (U.sadd (by first|assumption|omega))) ?_
    refine S.e 1 rfl rfl ?_
    refine X.ret ?_
    cases h
    exact S.R rfl rfl rfl
  · rw [if_neg (bf c)] at h
    refine X.skip ?_
    refine S.O 2 rfl rfl ?_
    obtain ⟨q2,Hq2,h⟩:=Option.bind_eq_some_iff.1 h
    refine O.c (digits_Print.cs Hq2) rfl rfl rfl ?_
    refine S.e 1 rfl rfl ?_
    refine X.ret ?_
    cases h
    exact S.R rfl rfl rfl
noncomputable def c21:Code:=Tryz.f21.body.getD .skip
theorem fn21:FnOk Tryz.prog 21 Tryz.f21 c21:=⟨Tryz.func21,rfl,by kernel_rfl,by kernel_rfl,mixed⟩
theorem frac_Frac_Print.cs {k:Nat} {l0_0:List Int} {a0_1:Bool} {l0_2:List Int} {r:ByteArray} (h:frac_Frac_Print.f k l0_0 a0_1 l0_2=some r):CS Tryz.prog 21 [.agg [.fi .u64 l0_0, .bool a0_1, .fi .u64 l0_2]] .no [.str r]:=by
  unfold frac_Frac_Print.f at h
  refine E.pure fn21 rfl ?_
  refine S.A 2 rfl rfl ?_
  refine X.seq ?_
  refine S.O 2 rfl rfl ?_
  obtain ⟨q1,Hq1,h⟩:=Option.bind_eq_some_iff.1 h
  refine O.c (nat_Nat_Zero.cs Hq1) rfl rfl rfl ?_
  refine O.nil ?_
  refine X.cond (.tmp rfl) (fun c=>?_) (fun c=>?_)
  · rw [if_pos c] at h
    refine S.O 2 rfl rfl ?_
    obtain ⟨q2,Hq2,h⟩:=Option.bind_eq_some_iff.1 h
    refine O.c (whole_Int_Print.cs Hq2) rfl rfl rfl ?_
    refine S.e 1 rfl rfl ?_
    refine X.ret ?_
    cases h
    exact S.R rfl rfl rfl
  · rw [if_neg (bf c)] at h
    refine X.skip ?_
    refine S.D 2 rfl rfl ?_
    obtain ⟨q3,Hq3,h⟩:=Option.bind_eq_some_iff.1 h
    refine D.c (whole_Int_Print.cs Hq3) rfl rfl rfl ?_
    repeat (rw [giff] at h;obtain ⟨_,h⟩:=h)
    refine D.pu (Pu.bin (.tmp rfl) .str (U.sadd (by first|assumption|omega))) ?_
    refine S.d 1 rfl rfl ?_
    obtain ⟨q4,Hq4,h⟩:=Option.bind_eq_some_iff.1 h
    refine D.c (frac_Frac_Den.cs Hq4) rfl rfl rfl ?_
    obtain ⟨q5,Hq5,h⟩:=Option.bind_eq_some_iff.1 h
    refine D.c (digits_Print.cs Hq5) rfl rfl rfl ?_
    repeat (rw [giff] at h;obtain ⟨_,h⟩:=h)
    refine D.pu (Pu.bin (.tmp rfl) (.tmp rfl) (U.sadd (by first|assumption|omega))) ?_
    refine S.d 1 rfl rfl ?_
    refine D.nil (by kernel_rfl) ?_
    refine X.ret ?_
    cases h
    exact S.R rfl rfl rfl
noncomputable def c9:Code:=Tryz.f9.body.getD .skip
theorem fn9:FnOk Tryz.prog 9 Tryz.f9 c9:=⟨Tryz.func9,rfl,by kernel_rfl,by kernel_rfl,mixed⟩
theorem chattellaw12_wakes.cs {k:Nat} {r:Bool} (h:chattellaw12_wakes.f k=some r):CS Tryz.prog 9 [] .no [.bool r]:=by
  unfold chattellaw12_wakes.f at h
  refine E.pure fn9 rfl ?_
  refine S.A 1 rfl rfl ?_
  refine S.A 6 rfl rfl ?_
  refine S.A 3 rfl rfl ?_
  refine S.O 4 rfl rfl ?_
  refine O.puE (v':=.os 18 (1) 0 _ true) (b':=⟨1, .own,_,_⟩) (U.litS (en:=en28) (l:=[⟨_,_,_⟩,⟨_,_,_⟩]) rfl (.cons (.tmp (v:=.agg _) rfl) rfl (.cons (.tmp (v:=.agg _) rfl) rfl .nil)) rfl rfl rfl (fun _=>rfl)) rfl rfl ?_
  obtain ⟨q1,Hq1,h⟩:=Option.bind_eq_some_iff.1 h
  refine O.ef (U.callZ (ss:=[18]) (.cons (.tmp (v:=.agg _) rfl) (.cons (.tmp (v:=.agg _) rfl) (.cons (.tmp (v:=.os _ _ _ _ _) rfl) .nil))) (.cons (.cl (.aggL (.cons .int (.cons .int (.cons .int .nil))))) (.cons (.cl (.aggL (.cons .int (.cons .int (.cons .int .nil))))) (.cons (.osVf (by simp) rfl (Mode.live_ne rfl) rfl (ClL.map fun _=>.aggL (.cons .int (.cons .int (.cons .int .nil)))) (by first|rfl|(simp only [List.length_map,List.length_append,List.length_cons,List.length_nil] at *;done)|(simp only [List.length_map,List.length_append,List.length_cons,List.length_nil] at *;omega))) .nil))) (split_Parts.cs Hq1) (.tupL (.cons (.fv (ClL.map fun _=>.aggL (.cons .int (.cons .int (.cons .int (.cons .int (.cons .int (.cons .int .nil)))))))) (.cons .int .nil))) (nowin rfl)) ?_
  refine S.e 5 rfl rfl ?_
  refine S.O 1 rfl rfl ?_
  obtain ⟨q2,Hq2,h⟩:=Option.bind_eq_some_iff.1 h
  refine O.pu (U.call (ss:=[]) (.cons .int (.cons (.tmp (v:=.fv _) rfl) .nil)) (.cons (.cl .int) (.cons (.cl (.fv (ClL.map fun _=>.aggL (.cons .int (.cons .int (.cons .int (.cons .int (.cons .int (.cons .int .nil))))))))) .nil)) (split_Years.cs Hq2) (.inl rfl) (.tupL (.cons (.aggL (.cons .fi (.cons .bool (.cons .fi .nil)))) (.cons .int .nil)))) ?_
  refine S.e 6 rfl rfl ?_
  refine S.O 2 rfl rfl ?_
  obtain ⟨q3,Hq3,h⟩:=Option.bind_eq_some_iff.1 h
  refine O.pu (U.call (ss:=[]) (.cons (.tmp (v:=.agg _) rfl) (.cons (.tmp (v:=.agg _) rfl) (.cons .nilV .nil))) (.cons (.cl (.aggL (.cons .int (.cons .int (.cons .int .nil))))) (.cons (.cl (.aggL (.cons .int (.cons .int (.cons .int .nil))))) (.cons (.cl (.fv ClL.nil)) .nil))) (split_Parts.cs Hq3) (.inl rfl) (.tupL (.cons (.fv (ClL.map fun _=>.aggL (.cons .int (.cons .int (.cons .int (.cons .int (.cons .int (.cons .int .nil)))))))) (.cons .int .nil)))) ?_
  refine S.e 5 rfl rfl ?_
  refine S.D 3 rfl rfl ?_
  refine D.splitE (fun c=>?_) (fun c=>?_)
  · rw [if_pos c] at h
    refine S.d 1 rfl rfl ?_
    refine D.gpu (W.t rfl rfl) (U.lenS rfl (.tmp rfl)) ?_
    refine S.d 3 rfl rfl ?_
    refine D.splitE (fun c=>?_) (fun c=>?_)
    · rw [if_pos c] at h
      refine S.d 1 rfl rfl ?_
      repeat (rw [giff] at h;obtain ⟨_,h⟩:=h)
      refine D.gpu (W.t rfl rfl) (U.rdVS z55 rfl (fun _=>⟨rfl,rfl⟩) (.tmp rfl) .int (by omega) (by omega)) ?_
      refine S.d 4 rfl rfl ?_
      refine D.gpu (W.t rfl rfl) (U.eql55 (.tmp rfl) (.tmp rfl)) ?_
      refine S.d 2 rfl rfl ?_
      refine D.split (fun c=>?_) (fun c=>?_)
      · replace h:=iteT c h
        refine S.d 1 rfl rfl ?_
        repeat (rw [giff] at h;obtain ⟨_,h⟩:=h)
        refine D.gpu (W.t rfl rfl) (U.rdVS z55 rfl (fun _=>⟨rfl,rfl⟩) (.tmp rfl) .int (by omega) (by omega)) ?_
        refine S.d 4 rfl rfl ?_
        refine D.gpu (W.t rfl rfl) (U.eql55 (.tmp rfl) (.tmp rfl)) ?_
        refine S.d 2 rfl rfl ?_
        refine D.split (fun c=>?_) (fun c=>?_)
        · replace h:=iteT c h
          refine S.d 1 rfl rfl ?_
          obtain ⟨q4,Hq4,h⟩:=Option.bind_eq_some_iff.1 h
          refine D.gpu (W.t rfl rfl) (U.call (ss:=[]) (.cons (.tmp (v:=.agg _) rfl) .nil) (.cons (.cl (.aggL (.cons .fi (.cons .bool (.cons .fi .nil))))) .nil) (frac_Frac_Print.cs Hq4) (.inl rfl) (.str)) ?_
          refine S.d 3 rfl rfl ?_
          refine D.splitS (l:=[57,49,47,51,54,53]) (by kernel_rfl) (fun c=>?_) (fun c=>?_)
          · rw [if_pos c] at h
            refine S.d 4 rfl rfl ?_
            refine D.splitE (fun c=>?_) (fun c=>?_)
            · rw [if_pos c] at h
              refine S.d 4 rfl rfl ?_
              refine D.nil (by kernel_rfl) ?_
              refine X.ret ?_
              cases h
              exact S.R rfl rfl rfl
            · rw [if_neg c] at h
              refine S.d 4 rfl rfl ?_
              refine D.nil (by kernel_rfl) ?_
              refine X.ret ?_
              cases h
              exact S.R rfl rfl rfl
          · rw [if_neg c] at h
            refine S.d 8 rfl rfl ?_
            refine D.nil (by kernel_rfl) ?_
            refine X.ret ?_
            cases h
            exact S.R rfl rfl rfl
        · replace h:=iteF c h
          refine S.d 13 rfl rfl ?_
          refine D.nil (by kernel_rfl) ?_
          refine X.ret ?_
          cases h
          exact S.R rfl rfl rfl
      · replace h:=iteF c h
        refine S.d 22 rfl rfl ?_
        refine D.nil (by kernel_rfl) ?_
        refine X.ret ?_
        cases h
        exact S.R rfl rfl rfl
    · rw [if_neg c] at h
      refine S.d 31 rfl rfl ?_
      refine D.nil (by kernel_rfl) ?_
      refine X.ret ?_
      cases h
      exact S.R rfl rfl rfl
  · rw [if_neg c] at h
    refine S.d 36 rfl rfl ?_
    refine D.nil (by kernel_rfl) ?_
    refine X.ret ?_
    cases h
    exact S.R rfl rfl rfl
noncomputable def c27:Code:=Tryz.f27.body.getD .skip
theorem fn27:FnOk Tryz.prog 27 Tryz.f27 c27:=⟨Tryz.func27,rfl,by kernel_rfl,by kernel_rfl,mixed⟩
theorem api_Date_27.cs {l0:List (S28)} {r:(List (S28))} (h:api_Date_27.f l0=some r):CS Tryz.prog 27 [.fv (List.map en28 l0)] ⟨none,some (.vals (List.map en28 r),28)⟩ [.os FRS 1 0 (Row.vals (List.map en28 r)).len true]:=by
  unfold api_Date_27.f at h
  refine E.freshT [] [] fn27 rfl (ClL.map fun _=>.aggL (.cons .int (.cons .int (.cons .int .nil)))) FlL.nil FlL.nil ?_
  refine X.seq ?_
  refine X.still ?_
  refine O.ef (U.nilOE (u:=1) (row:=.vals (List.map en28 [])) (e:=28) rfl rfl) ?_
  refine O.nil ?_
  refine X.seq ?_
  refine S.O 1 rfl rfl ?_
  refine O.nilc rfl (.tmp rfl) .fv (fun c0 hc0=>?_)
  refine O.nil ?_
  repeat first|(rw [giff] at h;obtain ⟨_,h⟩:=h)|rw [bdff] at h
  refine X.cond (.tmp rfl) (fun c=>?_) (fun c=>?_)
  · obtain rfl:=nil_map (hc0 c)
    refine X.seq ?_
    refine X.still ?_
    refine O.ef (U.nilOE (u:=2) (row:=.vals (List.map en28 [])) (e:=28) rfl rfl) ?_
    refine O.nil ?_
    refine X.ret ?_
    cases h
    exact E.finFV (s:=2) (.tmp (v:=.os _ _ _ _ _) rfl .nil) (by first|rfl|(simp only [List.length_set];done)|(simp only [List.length_drop,List.length_take,List.length_append,List.length_set] at *;omega)) rfl
  · refine X.skip ?_
    refine X.seq ?_
    refine X.still ?_
    refine O.puE (v':=.os 5 (1) 0 _ true) (b':=⟨1, .own,_,_⟩) (U.litS (en:=en28) (l:=[]) rfl .nil rfl rfl rfl (fun _=>rfl)) rfl rfl ?_
    refine S.r 1 rfl rfl ?_
    refine O.ef (U.appendSE (en:=en28) (u':=1) rfl (.tmp rfl) rfl (by first|rfl|(simp only [List.length_append,List.length_cons,List.length_nil] at *;omega)) (.tmp rfl) (.cl (ss:=[]) (.fv (ClL.map fun _=>.aggL (.cons .int (.cons .int (.cons .int .nil)))))) rfl (fun _=>⟨rfl,rfl⟩) (by simp only [maxLen,List.length_cons,List.length_nil];omega) (by simp only [List.length_cons,List.length_nil];omega) rfl) ?_
    refine O.ef (U.takeE (u':=2) (.tmp rfl) rfl (ne_of_beq rfl) rfl) ?_
    refine O.nil ?_
    refine X.ret ?_
    cases h
    exact E.finFV (s:=2) (.tmp (v:=.os _ _ _ _ _) rfl .nil) (by first|rfl|(simp only [List.length_set];done)|(simp only [List.length_drop,List.length_take,List.length_append,List.length_set] at *;omega)) rfl
end Go.Proofs.YtakidmbnkkhojaaGreat
end
