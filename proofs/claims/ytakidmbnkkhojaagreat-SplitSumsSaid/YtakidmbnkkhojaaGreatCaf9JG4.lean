-- Joined of: G15 G86 G87 G54 G88 G129 G130 G99 G132 G133 G126 G125 G89 G55 G19 G62 G61 G22 G98 G100 G131 G101 G65 G96 G63 G64 G23 G102 G68 G24 G5
import Derived.Test.YtakidmbnkkhojaaGreatCaf9JG3
import Derived.Test.YtakidmbnkkhojaaGreatCaf9JG2
import Derived.Test.YtakidmbnkkhojaaGreatCaf9Sp15
import Derived.Test.YtakidmbnkkhojaaGreatCaf9Sp17
section
namespace Go.Proofs.YtakidmbnkkhojaaGreat
open Go.AVL Go.RowKit Go.Proofs.YtakidmbnkkhojaaGreat.F Go.Proofs.YtakidmbnkkhojaaGreatX Go.Proofs.YtakidmbnkkhojaaGreatW.PrintWords Go.Proofs.YtakidmbnkkhojaaGreatW.PrintLast Go.Proofs.YtakidmbnkkhojaaGreatW.PrintMore
set_option linter.unusedVariables false
set_option linter.unusedSimpArgs false
set_option maxRecDepth 100000
set_option maxHeartbeats 16000000
theorem chattelref12_Parts.j0_e {k y0 y1 y2 y3 y4 y5 y6 y7 r}:(chattelref12_Parts.j0 k y0 y1 y2 y3 y4 y5 y6 y7=some r) = ∃ j,k=j + 1∧chattelref12_Parts.j0 (j + 1) y0 y1 y2 y3 y4 y5 y6 y7=some r:=propext ⟨fun h=>by cases k with|zero=>(unfold chattelref12_Parts.j0 at h;cases h)|succ k=>exact ⟨k,rfl,h⟩,fun ⟨j,hj,h⟩=>by subst hj;exact h⟩
noncomputable def c15:Code:=Tryz.f15.body.getD .skip
theorem fn15:FnOk Tryz.prog 15 Tryz.f15 c15:=⟨Tryz.func15,rfl,by kernel_rfl,by kernel_rfl,mixed⟩
theorem chattelref12_Parts.cs {k:Nat} {a0_0:Int} {a0_1:Int} {a0_2:Int} {a1_0:Int} {a1_1:Int} {a1_2:Int} {l2:List (S28)} {r:(List (S91))×Int} (h:chattelref12_Parts.f k a0_0 a0_1 a0_2 a1_0 a1_1 a1_2 l2=some r):CS Tryz.prog 15 [.agg [.int .i64 a0_0, .int .i64 a0_1, .int .i64 a0_2], .agg [.int .i64 a1_0, .int .i64 a1_1, .int .i64 a1_2], .fv (List.map en28 l2)] .no [.fv (List.map en91 r.1), .int .i64 r.2]:=by
  unfold chattelref12_Parts.f at h
  refine E.pure fn15 rfl ?_
  refine S.O 2 rfl rfl ?_
  refine O.pu (Pu.assign .nilV) ?_
  refine S.e 1 rfl rfl ?_
  refine S.O 1 rfl rfl ?_
  obtain ⟨q1,Hq1,h⟩:=Option.bind_eq_some_iff.1 h
  refine O.c (chattelref09_Right.cs Hq1) rfl rfl rfl ?_
  refine S.e 1 rfl rfl ?_
  refine S.O 1 rfl rfl ?_
  obtain ⟨q2,Hq2,h⟩:=Option.bind_eq_some_iff.1 h
  refine O.c (chattelref09_Right.cs Hq2) rfl rfl rfl ?_
  refine S.e 1 rfl rfl ?_
  refine X.seq ?_
  refine S.O 3 rfl rfl ?_
  refine O.splitNot (fun c=>?_) (fun c=>?_)
  · rw [if_neg (bf c)] at h
    refine S.e 3 rfl rfl ?_
    repeat (rw [chattelref12_Parts.j0_e] at h;obtain ⟨k,_,h⟩:=h;unfold chattelref12_Parts.j0 at h;try dsimp only at h)
    rw [if_pos rfl] at h
    refine X.condT (.tmp rfl) ?_
    refine X.seq ?_
    refine X.still ?_
    refine O.pu (Pu.assign .nilV) ?_
    refine S.e 1 rfl rfl ?_
    refine X.ret ?_
    cases h
    exact E.fin [] (.tmp (v:=.fv _) rfl (.tmp (v:=.int _ _) rfl .nil)) (.cons (.cl (.fv ClL.nil)) (.cons (.cl .int) .nil))
  · rw [if_pos c] at h
    refine S.e 3 rfl rfl ?_
    repeat (rw [chattelref12_Parts.j0_e] at h;obtain ⟨k,_,h⟩:=h;unfold chattelref12_Parts.j0 at h;try dsimp only at h)
    refine X.condNot (.tmp rfl) (fun c=>?_) (fun c=>?_)
    · rw [if_pos (nt c)] at h
      refine X.seq ?_
      refine X.still ?_
      refine O.pu (Pu.assign .nilV) ?_
      refine S.e 1 rfl rfl ?_
      refine X.ret ?_
      cases h
      exact E.fin [] (.tmp (v:=.fv _) rfl (.tmp (v:=.int _ _) rfl .nil)) (.cons (.cl (.fv ClL.nil)) (.cons (.cl .int) .nil))
    · rw [if_neg (nf c)] at h
      refine X.skip ?_
      refine X.seq ?_
      refine S.A 1 rfl rfl ?_
      refine X.block ?_
      refine X.inv (fun k s=>∃ x2 x10 x935000 x935001 x935002 x936000 x936001 x936002 u3 u4,s.t 2 = .fv (List.map en28 x2)∧s.t 10 = .int .i64 x10∧s.t 3 = .op 3 u3 0 0∧s.b 3=⟨u3, .own, .vals [.agg [.int .i64 x935000, .int .i64 x935001, .int .i64 x935002]],28⟩∧s.t 4 = .op 4 u4 0 0∧s.b 4=⟨u4, .own, .vals [.agg [.int .i64 x936000, .int .i64 x936001, .int .i64 x936002]],28⟩∧chattelref12_Parts.l0 k x2 x10 x935000 x935001 x935002 x936000 x936001 x936002=some r) ?_ ?_ ⟨_,_,_,_,_,_,_,_,_,_,rfl,rfl,rfl,rfl,rfl,rfl,h⟩
      · rintro s ⟨_,_,_,_,_,_,_,_,_,_,_,_,_,_,_,_,h⟩;unfold chattelref12_Parts.l0 at h;cases h
      · rintro k1 s1 ⟨x2,x10,x935000,x935001,x935002,x936000,x936001,x936002,u3,u4,e0,e1,e2,e3,e4,e5,h⟩
        unfold chattelref12_Parts.l0 at h
        rw [St.fixT e0,St.fixT e1,St.fixT e2,St.fixB e3,St.fixT e4,St.fixB e5]
        refine X.seq ?_
        refine S.O 2 rfl rfl ?_
        refine O.pu (U.lenS rfl (.tmp rfl)) ?_
        refine S.e 1 rfl rfl ?_
        refine X.condP (.tmp rfl) (fun c=>?_) (fun c=>?_)
        · rw [if_pos c] at h
          refine X.skip ?_
          refine X.seq ?_
          refine X.block ?_
          refine S.O 2 rfl rfl ?_
          repeat (rw [giff] at h;obtain ⟨_,h⟩:=h)
          refine O.pu (U.rdVS z28 rfl (fun _=>⟨rfl,rfl⟩) (.tmp rfl) (.tmp rfl) (by omega) (by omega)) ?_
          refine S.r 1 rfl rfl ?_
          obtain ⟨q3,Hq3,h⟩:=Option.bind_eq_some_iff.1 h
          refine O.c (chattelref09_Right.cs Hq3) rfl rfl rfl ?_
          refine S.e 1 rfl rfl ?_
          refine S.A 2 rfl rfl ?_
          refine X.condNot (.tmp rfl) (fun c=>?_) (fun c=>?_)
          · rw [if_neg (bf c)] at h
            refine X.seq ?_
            refine X.still ?_
            refine O.pu (Pu.assign .nilV) ?_
            refine S.e 1 rfl rfl ?_
            refine X.ret ?_
            cases h
            exact E.fin [] (.tmp (v:=.fv _) rfl (.tmp (v:=.int _ _) rfl .nil)) (.cons (.cl (.fv ClL.nil)) (.cons (.cl .int) .nil))
          · rw [if_pos c] at h
            refine X.skip ?_
            refine X.still ?_
            refine S.e 3 rfl rfl ?_
            exact ⟨_,(by omega),_,_,_,_,_,_,_,_,_,_,rfl,rfl,rfl,rfl,rfl,rfl,h⟩
        · rw [if_neg c] at h
          refine X.exit (B.out ?_)
          refine S.O 2 rfl rfl ?_
          obtain ⟨q4,Hq4,h⟩:=Option.bind_eq_some_iff.1 h
          refine O.c (chattelref09_Cmp.cs Hq4) rfl rfl rfl ?_
          refine S.e 1 rfl rfl ?_
          refine X.seq ?_
          refine S.A 2 rfl rfl ?_
          refine X.condP (.tmp rfl) (fun c=>?_) (fun c=>?_)
          · rw [if_pos c] at h
            refine X.seq ?_
            refine X.still ?_
            refine O.pu (Pu.assign .nilV) ?_
            refine S.e 1 rfl rfl ?_
            refine X.ret ?_
            cases h
            exact E.fin [] (.tmp (v:=.fv _) rfl (.tmp (v:=.int _ _) rfl .nil)) (.cons (.cl (.fv ClL.nil)) (.cons (.cl .int) .nil))
          · rw [if_neg c] at h
            refine X.skip ?_
            refine X.seq ?_
            refine X.still ?_
            refine O.ef (U.nilOE (u:=(s1.b 13).ver + 1) (row:=.vals (List.map en91 [])) (e:=91) rfl rfl) ?_
            refine O.nil ?_
            refine X.seq ?_
            refine X.block ?_
            refine X.inv (fun k s=>k≤k1∧∃ x2 x12 x13 x935000 x935001 x935002 x936000 x936001 x936002 n13 u13 u3 u4,s.t 2 = .fv (List.map en28 x2)∧s.t 12 = .int .i64 x12∧s.b 13=⟨u13, .own, .vals (List.map en91 x13),91⟩∧s.t 13 = .os 13 u13 0 n13 true∧x13.length=n13∧s.t 3 = .op 3 u3 0 0∧s.b 3=⟨u3, .own, .vals [.agg [.int .i64 x935000, .int .i64 x935001, .int .i64 x935002]],28⟩∧s.t 4 = .op 4 u4 0 0∧s.b 4=⟨u4, .own, .vals [.agg [.int .i64 x936000, .int .i64 x936001, .int .i64 x936002]],28⟩∧chattelref12_Parts.l1 k x2 x12 x13 x935000 x935001 x935002 x936000 x936001 x936002=some r) ?_ ?_ ⟨(by omega),_,_,_,_,_,_,_,_,_,_,_,_,_,rfl,rfl,rfl,rfl,(by first|rfl|(simp only [List.length_set];done)|(simp only [List.length_drop,List.length_take,List.length_append,List.length_set] at *;omega)),rfl,rfl,rfl,rfl,h⟩
            · rintro s ⟨_,_,_,_,_,_,_,_,_,_,_,_,_,_,_,_,_,_,_,_,_,_,_,h⟩;unfold chattelref12_Parts.l1 at h;cases h
            · rintro k2 s2 ⟨kl2,x2,x12,x13,x935000,x935001,x935002,x936000,x936001,x936002,n13,u13,u3,u4,e0,e1,e2,e3,rfl,e5,e6,e7,e8,h⟩
              unfold chattelref12_Parts.l1 at h
              rw [St.fixT e0,St.fixT e1,St.fixB e2,St.fixT e3,St.fixT e5,St.fixB e6,St.fixT e7,St.fixB e8]
              refine X.seq ?_
              refine S.A 2 rfl rfl ?_
              refine X.condP (.tmp rfl) (fun c=>?_) (fun c=>?_)
              · rw [if_pos c] at h
                refine X.skip ?_
                refine X.block ?_
                refine S.A 3 rfl rfl ?_
                refine X.seq ?_
                refine S.A 1 rfl rfl ?_
                refine X.block ?_
                refine X.inv (fun k s=>k≤k2∧∃ x2 x13 x15 x935000 x935001 x935002 x936000 x936001 x936002 x942000 x942001 x942002 n13 u13 u14 u3 u4,s.t 2 = .fv (List.map en28 x2)∧s.b 13=⟨u13, .own, .vals (List.map en91 x13),91⟩∧s.t 13 = .os 13 u13 0 n13 true∧x13.length=n13∧s.t 15 = .int .i64 x15∧s.t 3 = .op 3 u3 0 0∧s.b 3=⟨u3, .own, .vals [.agg [.int .i64 x935000, .int .i64 x935001, .int .i64 x935002]],28⟩∧s.t 4 = .op 4 u4 0 0∧s.b 4=⟨u4, .own, .vals [.agg [.int .i64 x936000, .int .i64 x936001, .int .i64 x936002]],28⟩∧s.t 14 = .op 14 u14 0 0∧s.b 14=⟨u14, .own, .vals [.agg [.int .i64 x942000, .int .i64 x942001, .int .i64 x942002]],28⟩∧chattelref12_Parts.l2 k x2 x13 x15 x935000 x935001 x935002 x936000 x936001 x936002 x942000 x942001 x942002=some r) ?_ ?_ ⟨(by omega),_,_,_,_,_,_,_,_,_,_,_,_,_,_,_,_,_,rfl,rfl,rfl,(by first|rfl|(simp only [List.length_set];done)|(simp only [List.length_drop,List.length_take,List.length_append,List.length_set] at *;omega)),rfl,rfl,rfl,rfl,rfl,rfl,rfl,h⟩
                · rintro s ⟨_,_,_,_,_,_,_,_,_,_,_,_,_,_,_,_,_,_,_,_,_,_,_,_,_,_,_,_,_,h⟩;unfold chattelref12_Parts.l2 at h;cases h
                · rintro k3 s3 ⟨kl3,x2,x13,x15,x935000,x935001,x935002,x936000,x936001,x936002,x942000,x942001,x942002,n13,u13,u14,u3,u4,e0,e1,e2,rfl,e4,e5,e6,e7,e8,e9,e10,h⟩
                  unfold chattelref12_Parts.l2 at h
                  rw [St.fixT e0,St.fixB e1,St.fixT e2,St.fixT e4,St.fixT e5,St.fixB e6,St.fixT e7,St.fixB e8,St.fixT e9,St.fixB e10]
                  refine X.seq ?_
                  refine S.O 2 rfl rfl ?_
                  refine O.pu (U.lenS rfl (.tmp rfl)) ?_
                  refine S.e 1 rfl rfl ?_
                  refine X.condP (.tmp rfl) (fun c=>?_) (fun c=>?_)
                  · rw [if_pos c] at h
                    refine X.skip ?_
                    refine X.seq ?_
                    refine X.block ?_
                    refine S.D 3 rfl rfl ?_
                    repeat (rw [giff] at h;obtain ⟨_,h⟩:=h)
                    refine D.pu (U.rdVS z28 rfl (fun _=>⟨rfl,rfl⟩) (.tmp rfl) (.tmp rfl) (by omega) (by omega)) ?_
                    refine S.d 1 rfl rfl ?_
                    obtain ⟨q5,Hq5,h⟩:=Option.bind_eq_some_iff.1 h
                    refine D.c (chattelref09_Cmp.cs Hq5) rfl rfl rfl ?_
                    refine S.d 1 rfl rfl ?_
                    refine D.nil (by kernel_rfl) ?_
                    refine S.D 2 rfl rfl ?_
                    refine D.pu (U.rdVS z28 rfl (fun _=>⟨rfl,rfl⟩) (.tmp rfl) (.tmp rfl) (by omega) (by omega)) ?_
                    refine S.d 2 rfl rfl ?_
                    obtain ⟨q6,Hq6,h⟩:=Option.bind_eq_some_iff.1 h
                    refine D.c (chattelref09_Cmp.cs Hq6) rfl rfl rfl ?_
                    refine S.d 1 rfl rfl ?_
                    refine D.nil (by kernel_rfl) ?_
                    refine S.O 3 rfl rfl ?_
                    refine O.splitP (fun c=>?_) (fun c=>?_)
                    · rw [if_pos c] at h
                      refine S.e 3 rfl rfl ?_
                      refine X.condP (.tmp rfl) (fun c=>?_) (fun c=>?_)
                      · rw [if_pos c] at h
                        refine X.still ?_
                        refine S.r 2 rfl rfl ?_
                        refine O.pu (U.rdVS z28 rfl (fun _=>⟨rfl,rfl⟩) (.tmp rfl) (.tmp rfl) (by omega) (by omega)) ?_
                        refine S.e 2 rfl rfl ?_
                        refine X.still ?_
                        refine S.e 3 rfl rfl ?_
                        exact ⟨_,(by omega),(by omega),_,_,_,_,_,_,_,_,_,_,_,_,_,_,_,_,_,rfl,rfl,rfl,(by first|rfl|(simp only [List.length_set];done)|(simp only [List.length_drop,List.length_take,List.length_append,List.length_set] at *;omega)),rfl,rfl,rfl,rfl,rfl,rfl,rfl,h⟩
                      · rw [if_neg c] at h
                        refine X.skip ?_
                        refine X.still ?_
                        refine S.e 3 rfl rfl ?_
                        exact ⟨_,(by omega),(by omega),_,_,_,_,_,_,_,_,_,_,_,_,_,_,_,_,_,rfl,rfl,rfl,(by first|rfl|(simp only [List.length_set];done)|(simp only [List.length_drop,List.length_take,List.length_append,List.length_set] at *;omega)),rfl,rfl,rfl,rfl,rfl,rfl,rfl,h⟩
                    · rw [if_neg c] at h
                      refine S.e 3 rfl rfl ?_
                      refine X.condF (.tmp rfl) ?_
                      refine X.skip ?_
                      refine X.still ?_
                      refine S.e 3 rfl rfl ?_
                      exact ⟨_,(by omega),(by omega),_,_,_,_,_,_,_,_,_,_,_,_,_,_,_,_,_,rfl,rfl,rfl,(by first|rfl|(simp only [List.length_set];done)|(simp only [List.length_drop,List.length_take,List.length_append,List.length_set] at *;omega)),rfl,rfl,rfl,rfl,rfl,rfl,rfl,h⟩
                  · rw [if_neg c] at h
                    refine X.exit (B.out ?_)
                    refine S.O 4 rfl rfl ?_
                    refine O.puE (v':=.os 81 ((s3.b 81).ver + 1) 0 _ true) (b':=⟨(s3.b 81).ver + 1, .own,_,_⟩) (U.litS (en:=en91) (l:=[⟨⟨_,_,_⟩,⟨_,_,_⟩⟩]) rfl (.cons (.tmp (v:=.agg _) rfl) rfl .nil) rfl rfl rfl (fun _=>rfl)) rfl rfl ?_
                    repeat (rw [giff] at h;obtain ⟨_,h⟩:=h)
                    refine O.ef (U.appendSE (en:=en91) (u':=(s3.b 82).ver + 1) rfl (.tmp rfl) rfl (by first|rfl|(simp only [List.length_append,List.length_cons,List.length_nil] at *;omega)) (.tmp rfl) (.osVf (List.mem_singleton.2 rfl) rfl (Mode.live_ne rfl) rfl (ClL.map fun _=>.aggL (.cons .int (.cons .int (.cons .int (.cons .int (.cons .int (.cons .int .nil))))))) (by simp)) rfl (fun _=>⟨rfl,rfl⟩) (by simp only [maxLen,List.length_cons,List.length_nil];omega) (by simp only [List.length_cons,List.length_nil];omega) rfl) ?_
                    refine O.ef (U.takeE (u':=u13 + 1) (.tmp rfl) rfl (ne_of_beq rfl) rfl) ?_
                    refine O.nil ?_
                    refine S.A 2 rfl rfl ?_
                    refine X.still ?_
                    refine S.r 2 rfl rfl ?_
                    obtain ⟨q7,Hq7,h⟩:=Option.bind_eq_some_iff.1 h
                    refine O.c (chattelref09_Cmp.cs Hq7) rfl rfl rfl ?_
                    refine S.e 1 rfl rfl ?_
                    exact ⟨_,(by omega),(by omega),_,_,_,_,_,_,_,_,_,_,_,_,_,rfl,rfl,rfl,rfl,(by first|rfl|(simp only [List.length_set];done)|(simp only [List.length_drop,List.length_take,List.length_append,List.length_set] at *;omega)),rfl,rfl,rfl,rfl,h⟩
              · rw [if_neg c] at h
                refine X.exit (B.out ?_)
                refine S.A 3 rfl rfl ?_
                refine X.ret ?_
                cases h
                exact E.fin [13] (.tmp (v:=.os _ _ _ _ _) rfl (.tmp (v:=.int _ _) rfl .nil)) (.cons (.osVf (by simp) rfl (Mode.live_ne rfl) rfl (ClL.map fun _=>.aggL (.cons .int (.cons .int (.cons .int (.cons .int (.cons .int (.cons .int .nil))))))) (by first|rfl|(simp only [List.length_map,List.length_append,List.length_cons,List.length_nil] at *;done)|(simp only [List.length_map,List.length_append,List.length_cons,List.length_nil] at *;omega))) (.cons (.cl .int) .nil))
noncomputable def c86:Code:=Tryz.f86.body.getD .skip
theorem fn86:FnOk Tryz.prog 86 Tryz.f86 c86:=⟨Tryz.func86,rfl,by kernel_rfl,by kernel_rfl,mixed⟩
theorem chattelref01_Small.cs {k:Nat} {a0:Int} {r:List Int} (h:chattelref01_Small.f k a0=some r):CS Tryz.prog 86 [.int .i64 a0] .no [.fi .i64 r]:=by
  unfold chattelref01_Small.f at h
  refine E.pure fn86 rfl ?_
  refine X.seq ?_
  refine X.still ?_
  refine O.pu (Pu.assign (.nilI (k:=.i64))) ?_
  refine O.nil ?_
  refine X.seq ?_
  refine X.still ?_
  refine O.ef (U.nilOE (u:=1) (row:=.ints .i64 []) (e:=3) rfl rfl) ?_
  refine O.nil ?_
  refine X.seq ?_
  refine X.block ?_
  refine X.inv (fun k s=>∃ x0 x3 n3 u3,s.t 0 = .int .i64 x0∧s.b 3=⟨u3, .own, .ints .i64 x3,3⟩∧s.t 3 = .os 3 u3 0 n3 true∧x3.length=n3∧chattelref01_Small.l0 k x0 x3=some r) ?_ ?_ ⟨_,_,_,_,rfl,rfl,rfl,rfl,h⟩
  · rintro s ⟨_,_,_,_,_,_,_,_,h⟩;unfold chattelref01_Small.l0 at h;cases h
  · rintro k1 s1 ⟨x0,x3,n3,u3,e0,e1,e2,rfl,h⟩
    unfold chattelref01_Small.l0 at h
    rw [St.fixT e0,St.fixB e1,St.fixT e2]
    refine X.seq ?_
    refine S.A 2 rfl rfl ?_
    refine X.condP (.tmp rfl) (fun c=>?_) (fun c=>?_)
    · rw [if_pos c] at h
      refine X.skip ?_
      refine X.block ?_
      refine S.O 2 rfl rfl ?_
      repeat (rw [giff] at h;obtain ⟨_,h⟩:=h)
      refine O.pu (Pu.bin (.tmp rfl) .int (.rem (by omega))) ?_
      refine O.puE (v':=.os 9 ((s1.b 9).ver + 1) 0 _ true) (b':=⟨(s1.b 9).ver + 1, .own,_,_⟩) (U.litI rfl rfl (.cons (.tmp (v:=.int _ _) rfl) .nil) rfl rfl) rfl rfl ?_
      refine O.ef (U.appendE (u':=(s1.b 10).ver + 1) rfl rfl (.tmp rfl) rfl (by first|rfl|(simp only [List.length_set];done)|(simp only [List.length_drop,List.length_take,List.length_append,List.length_set] at *;omega)) (.tmp rfl) (.osIf (List.mem_singleton.2 rfl) rfl (Mode.live_ne rfl) rfl (by first|rfl|(simp only [List.length_set];done)|(simp only [List.length_drop,List.length_take,List.length_append,List.length_set] at *;omega))) rfl (by first|exact Nat.le_of_lt (by assumption)|(simp only [List.length_cons,List.length_nil];omega)) rfl) ?_
      refine O.ef (U.takeE (u':=u3 + 1) (.tmp rfl) rfl (ne_of_beq rfl) rfl) ?_
      refine O.nil ?_
      refine X.still ?_
      refine S.r 1 rfl rfl ?_
      refine O.pu (Pu.bin (.tmp rfl) .int (U.quo64 (by omega))) ?_
      refine S.e 1 rfl rfl ?_
      exact ⟨_,(by omega),_,_,_,_,rfl,rfl,rfl,(by first|rfl|(simp only [List.length_set];done)|(simp only [List.length_drop,List.length_take,List.length_append,List.length_set] at *;omega)),h⟩
    · rw [if_neg c] at h
      refine X.exit (B.out ?_)
      refine S.A 2 rfl rfl ?_
      refine X.ret ?_
      cases h
      exact E.fin [3] (.tmp (v:=.os _ _ _ _ _) rfl .nil) (.cons (.osIf (by simp) rfl (Mode.live_ne rfl) rfl (by first|rfl|(simp only [List.length_set];done)|(simp only [List.length_drop,List.length_take,List.length_append,List.length_set] at *;omega))) .nil)
noncomputable def c87:Code:=Tryz.f87.body.getD .skip
theorem fn87:FnOk Tryz.prog 87 Tryz.f87 c87:=⟨Tryz.func87,rfl,by kernel_rfl,by kernel_rfl,mixed⟩
theorem chattelref04_Of.cs {l0:List Int} {a1:Bool} {r:List Int×Bool} (h:chattelref04_Of.f l0 a1=some r):CS Tryz.prog 87 [.fi .i64 l0, .bool a1] .no [.agg [.fi .i64 r.1, .bool r.2]]:=by
  unfold chattelref04_Of.f at h
  refine E.pure fn87 rfl ?_
  refine S.A 1 rfl rfl ?_
  refine S.O 3 rfl rfl ?_
  refine O.split (fun c=>?_) (fun c=>?_)
  · rw [if_pos c] at h
    refine S.r 1 rfl rfl ?_
    refine G.pu (W.t rfl rfl) (Pu.lenI rfl (.tmp rfl)) ?_
    refine S.e 4 rfl rfl ?_
    refine X.ret ?_
    cases h
    exact S.R rfl rfl rfl
  · rw [if_neg (bf c)] at h
    refine S.e 6 rfl rfl ?_
    refine X.ret ?_
    cases h
    exact S.R rfl rfl rfl
noncomputable def c54:Code:=Tryz.f54.body.getD .skip
theorem fn54:FnOk Tryz.prog 54 Tryz.f54 c54:=⟨Tryz.func54,rfl,by kernel_rfl,by kernel_rfl,mixed⟩
theorem chattelref04_From.cs {k:Nat} {a0:Int} {r:List Int×Bool} (h:chattelref04_From.f k a0=some r):CS Tryz.prog 54 [.int .i64 a0] .no [.agg [.fi .i64 r.1, .bool r.2]]:=by
  unfold chattelref04_From.f at h
  refine E.pure fn54 rfl ?_
  refine S.A 1 rfl rfl ?_
  refine X.seq ?_
  refine S.A 2 rfl rfl ?_
  refine X.condP (.tmp rfl) (fun c=>?_) (fun c=>?_)
  · rw [if_pos c] at h
    refine S.O 1 rfl rfl ?_
    refine O.pu (Pu.un (.tmp rfl) U.neg64) ?_
    obtain ⟨q1,Hq1,h⟩:=Option.bind_eq_some_iff.1 h
    refine O.c (chattelref01_Small.cs Hq1) rfl rfl rfl ?_
    refine S.e 1 rfl rfl ?_
    refine S.O 1 rfl rfl ?_
    obtain ⟨q2,Hq2,h⟩:=Option.bind_eq_some_iff.1 h
    refine O.c (chattelref04_Of.cs Hq2) rfl rfl rfl ?_
    refine S.e 1 rfl rfl ?_
    refine X.ret ?_
    cases h
    exact S.R rfl rfl rfl
  · rw [if_neg c] at h
    refine X.skip ?_
    refine S.O 1 rfl rfl ?_
    obtain ⟨q3,Hq3,h⟩:=Option.bind_eq_some_iff.1 h
    refine O.c (chattelref01_Small.cs Hq3) rfl rfl rfl ?_
    refine S.e 1 rfl rfl ?_
    refine S.O 1 rfl rfl ?_
    obtain ⟨q4,Hq4,h⟩:=Option.bind_eq_some_iff.1 h
    refine O.c (chattelref04_Of.cs Hq4) rfl rfl rfl ?_
    refine S.e 1 rfl rfl ?_
    refine X.ret ?_
    cases h
    exact S.R rfl rfl rfl
noncomputable def c88:Code:=Tryz.f88.body.getD .skip
theorem fn88:FnOk Tryz.prog 88 Tryz.f88 c88:=⟨Tryz.func88,rfl,by kernel_rfl,by kernel_rfl,mixed⟩
theorem chattelref04_Neg.cs {l0_0:List Int} {a0_1:Bool} {r:List Int×Bool} (h:chattelref04_Neg.f l0_0 a0_1=some r):CS Tryz.prog 88 [.agg [.fi .i64 l0_0, .bool a0_1]] .no [.agg [.fi .i64 r.1, .bool r.2]]:=by
  unfold chattelref04_Neg.f at h
  refine E.pure fn88 rfl ?_
  refine S.A 2 rfl rfl ?_
  refine S.O 5 rfl rfl ?_
  obtain ⟨q1,Hq1,h⟩:=Option.bind_eq_some_iff.1 h
  refine O.c (chattelref04_Of.cs Hq1) rfl rfl rfl ?_
  refine S.e 1 rfl rfl ?_
  refine X.ret ?_
  cases h
  exact S.R rfl rfl rfl
noncomputable def c129:Code:=Tryz.f129.body.getD .skip
theorem fn129:FnOk Tryz.prog 129 Tryz.f129 c129:=⟨Tryz.func129,rfl,by kernel_rfl,by kernel_rfl,mixed⟩
theorem chattelref01_at.cs {l0:List Int} {a1:Int} {r:Int} (h:chattelref01_at.f l0 a1=some r):CS Tryz.prog 129 [.fi .i64 l0, .int .i64 a1] .no [.int .i64 r]:=by
  unfold chattelref01_at.f at h
  refine E.pure fn129 rfl ?_
  refine S.A 1 rfl rfl ?_
  refine X.seq ?_
  refine S.O 2 rfl rfl ?_
  refine O.pu (Pu.lenI rfl (.tmp rfl)) ?_
  refine S.e 1 rfl rfl ?_
  refine X.condP (.tmp rfl) (fun c=>?_) (fun c=>?_)
  · rw [if_pos c] at h
    refine S.A 1 rfl rfl ?_
    refine X.ret ?_
    cases h
    exact S.R rfl rfl rfl
  · rw [if_neg c] at h
    refine X.skip ?_
    refine S.O 2 rfl rfl ?_
    repeat (rw [giff] at h;obtain ⟨_,h⟩:=h)
    refine O.pu (U.rdI rfl rfl (.tmp rfl) (.tmp rfl) (by omega) (by omega)) ?_
    refine S.e 2 rfl rfl ?_
    refine X.ret ?_
    cases h
    exact S.R rfl rfl rfl
noncomputable def c130:Code:=Tryz.f130.body.getD .skip
theorem fn130:FnOk Tryz.prog 130 Tryz.f130 c130:=⟨Tryz.func130,rfl,by kernel_rfl,by kernel_rfl,mixed⟩
theorem chattelref01_Trim.cs {k:Nat} {l0:List Int} {r:List Int} (h:chattelref01_Trim.f k l0=some r):CS Tryz.prog 130 [.fi .i64 l0] .no [.fi .i64 r]:=by
  unfold chattelref01_Trim.f at h
  refine E.pure fn130 rfl ?_
  refine X.seq ?_
  refine X.still ?_
  refine O.pu (Pu.assign (.nilI (k:=.i64))) ?_
  refine O.nil ?_
  refine S.O 1 rfl rfl ?_
  refine O.pu (Pu.lenI rfl (.tmp rfl)) ?_
  refine S.e 1 rfl rfl ?_
  refine X.seq ?_
  refine X.block ?_
  refine X.inv (fun k s=>∃ x0 x3,s.t 0 = .fi .i64 x0∧s.t 3 = .int .i64 x3∧chattelref01_Trim.l0 k x0 x3=some r) ?_ ?_ ⟨_,_,rfl,rfl,h⟩
  · rintro s ⟨_,_,_,_,h⟩;unfold chattelref01_Trim.l0 at h;cases h
  · rintro k1 s1 ⟨x0,x3,e0,e1,h⟩
    unfold chattelref01_Trim.l0 at h
    rw [St.fixT e0,St.fixT e1]
    refine X.seq ?_
    refine S.O 3 rfl rfl ?_
    refine O.splitP (fun c=>?_) (fun c=>?_)
    · rw [if_pos c] at h
      refine S.r 3 rfl rfl ?_
      repeat (rw [giff] at h;obtain ⟨_,h⟩:=h)
      refine G.pu (W.t rfl rfl) (U.rdI rfl rfl (.tmp rfl) (.tmp rfl) (by omega) (by omega)) ?_
      refine S.e 3 rfl rfl ?_
      refine X.condE (.tmp rfl) (fun c=>?_) (fun c=>?_)
      · rw [if_pos c] at h
        refine X.skip ?_
        refine X.block ?_
        refine X.still ?_
        refine S.e 3 rfl rfl ?_
        exact ⟨_,(by omega),_,_,rfl,rfl,h⟩
      · rw [if_neg c] at h
        refine X.exit (B.out ?_)
        refine S.O 2 rfl rfl ?_
        repeat (rw [giff] at h;obtain ⟨_,h⟩:=h)
        refine O.pu (U.sliceH rfl rfl (.tmp rfl) .no (.yes (.tmp rfl) (by omega)) .no (by omega) (by omega)) ?_
        refine S.e 1 rfl rfl ?_
        refine X.ret ?_
        cases h
        exact S.R rfl rfl rfl
    · rw [if_neg c] at h
      refine S.e 7 rfl rfl ?_
      refine X.condF (.tmp rfl) ?_
      refine X.exit (B.out ?_)
      refine S.O 2 rfl rfl ?_
      repeat (rw [giff] at h;obtain ⟨_,h⟩:=h)
      refine O.pu (U.sliceH rfl rfl (.tmp rfl) .no (.yes (.tmp rfl) (by omega)) .no (by omega) (by omega)) ?_
      refine S.e 1 rfl rfl ?_
      refine X.ret ?_
      cases h
      exact S.R rfl rfl rfl
noncomputable def c99:Code:=Tryz.f99.body.getD .skip
theorem fn99:FnOk Tryz.prog 99 Tryz.f99 c99:=⟨Tryz.func99,rfl,by kernel_rfl,by kernel_rfl,mixed⟩
theorem chattelref01_Mul.cs {k:Nat} {l0:List Int} {l1:List Int} {r:List Int} (h:chattelref01_Mul.f k l0 l1=some r):CS Tryz.prog 99 [.fi .i64 l0, .fi .i64 l1] .no [.fi .i64 r]:=by
  unfold chattelref01_Mul.f at h
  refine E.pure fn99 rfl ?_
  refine X.seq ?_
  refine X.still ?_
  refine O.pu (Pu.assign (.nilI (k:=.i64))) ?_
  refine O.nil ?_
  refine S.O 1 rfl rfl ?_
  refine O.pu (Pu.lenI rfl (.tmp rfl)) ?_
  refine S.r 1 rfl rfl ?_
  refine O.pu (Pu.lenI rfl (.tmp rfl)) ?_
  refine S.r 2 rfl rfl ?_
  repeat (rw [giff] at h;obtain ⟨_,h⟩:=h)
  refine O.puE (v':=.os 17 (1) 0 _ true) (b':=⟨1, .own,_,_⟩) (U.makeI rfl rfl (.tmp rfl) (.tmp rfl) (by omega) (by omega) rfl (by omega)) rfl rfl ?_
  refine S.e 1 rfl rfl ?_
  refine X.seq ?_
  refine S.A 1 rfl rfl ?_
  refine X.block ?_
  refine X.inv (fun k s=>∃ x0 x1 x5 x6 n5 u17,s.t 0 = .fi .i64 x0∧s.t 1 = .fi .i64 x1∧s.b 17=⟨u17, .own, .ints .i64 x5,3⟩∧s.t 5 = .os 17 u17 0 n5 true∧x5.length=n5∧s.t 6 = .int .i64 x6∧chattelref01_Mul.l0 k x0 x1 x5 x6=some r) ?_ ?_ ⟨_,_,_,_,_,_,rfl,rfl,rfl,rfl,rfl,rfl,h⟩
  · rintro s ⟨_,_,_,_,_,_,_,_,_,_,_,_,h⟩;unfold chattelref01_Mul.l0 at h;cases h
  · rintro k1 s1 ⟨x0,x1,x5,x6,n5,u17,e0,e1,e2,e3,rfl,e5,h⟩
    unfold chattelref01_Mul.l0 at h
    rw [St.fixT e0,St.fixT e1,St.fixB e2,St.fixT e3,St.fixT e5]
    refine X.seq ?_
    refine S.O 2 rfl rfl ?_
    refine O.pu (Pu.lenI rfl (.tmp rfl)) ?_
    refine S.e 1 rfl rfl ?_
    refine X.condP (.tmp rfl) (fun c=>?_) (fun c=>?_)
    · rw [if_pos c] at h
      refine X.skip ?_
      refine X.seq ?_
      refine X.block ?_
      refine S.A 1 rfl rfl ?_
      refine S.A 1 rfl rfl ?_
      refine X.block ?_
      refine X.inv (fun k s=>k≤k1∧∃ x0 x1 x5 x6 x7 x8 n5 u17,s.t 0 = .fi .i64 x0∧s.t 1 = .fi .i64 x1∧s.b 17=⟨u17, .own, .ints .i64 x5,3⟩∧s.t 5 = .os 17 u17 0 n5 true∧x5.length=n5∧s.t 6 = .int .i64 x6∧s.t 7 = .int .i64 x7∧s.t 8 = .int .i64 x8∧chattelref01_Mul.l1 k x0 x1 x5 x6 x7 x8=some r) ?_ ?_ ⟨(by omega),_,_,_,_,_,_,_,_,rfl,rfl,rfl,rfl,(by first|rfl|(simp only [List.length_set];done)|(simp only [List.length_drop,List.length_take,List.length_append,List.length_set] at *;omega)),rfl,rfl,rfl,h⟩
      · rintro s ⟨_,_,_,_,_,_,_,_,_,_,_,_,_,_,_,_,_,h⟩;unfold chattelref01_Mul.l1 at h;cases h
      · rintro k2 s2 ⟨kl2,x0,x1,x5,x6,x7,x8,n5,u17,e0,e1,e2,e3,rfl,e5,e6,e7,h⟩
        unfold chattelref01_Mul.l1 at h
        rw [St.fixT e0,St.fixT e1,St.fixB e2,St.fixT e3,St.fixT e5,St.fixT e6,St.fixT e7]
        refine X.seq ?_
        refine S.O 2 rfl rfl ?_
        refine O.pu (Pu.lenI rfl (.tmp rfl)) ?_
        refine S.r 2 rfl rfl ?_
        refine O.splitP (fun c=>?_) (fun c=>?_)
        · rw [if_pos c] at h
          refine S.e 3 rfl rfl ?_
          refine X.condT (.tmp rfl) ?_
          refine X.skip ?_
          refine X.seq ?_
          refine X.block ?_
          refine S.O 2 rfl rfl ?_
          obtain ⟨q1,Hq1,h⟩:=Option.bind_eq_some_iff.1 h
          refine O.c (chattelref01_at.cs Hq1) rfl rfl rfl ?_
          refine S.e 1 rfl rfl ?_
          refine S.D 4 rfl rfl ?_
          repeat (rw [giff] at h;obtain ⟨_,h⟩:=h)
          refine D.pu (U.indexO0 rfl (.tmp rfl) rfl rfl (.tmp rfl) (by first|omega|(simp only [List.length_set] at *;omega)) (by first|omega|(simp only [List.length_set] at *;omega)) rfl rfl) ?_
          refine D.pu (U.rdO (.tmp rfl) rfl rfl rfl rfl rfl) ?_
          refine S.d 2 rfl rfl ?_
          refine D.pu (U.rdI rfl rfl (.tmp rfl) (.tmp rfl) (by omega) (by omega)) ?_
          refine S.d 7 rfl rfl ?_
          refine D.nil (by kernel_rfl) ?_
          refine S.O 5 rfl rfl ?_
          refine O.pu (Pu.bin (.tmp rfl) .int (.rem (by omega))) ?_
          refine O.pu (U.indexO0 rfl (.tmp rfl) rfl rfl (.tmp rfl) (by first|omega|(simp only [List.length_set] at *;omega)) (by first|omega|(simp only [List.length_set] at *;omega)) rfl rfl) ?_
          refine O.ef0 (U.storeE (.tmp rfl) rfl rfl (.tmp (v:=.int _ _) rfl) rfl rfl (.whole (notBad_ne rfl) rfl) .ints) ?_
          refine O.nil ?_
          refine X.still ?_
          refine S.r 1 rfl rfl ?_
          refine O.pu (Pu.bin (.tmp rfl) .int (U.quo64 (by omega))) ?_
          refine S.e 1 rfl rfl ?_
          refine X.still ?_
          refine S.e 3 rfl rfl ?_
          exact ⟨_,(by omega),(by omega),_,_,_,_,_,_,_,_,rfl,rfl,rfl,rfl,(by first|rfl|(simp only [List.length_set];done)|(simp only [List.length_drop,List.length_take,List.length_append,List.length_set] at *;omega)),rfl,rfl,rfl,h⟩
        · rw [if_neg c] at h
          refine S.e 3 rfl rfl ?_
          refine X.condP (.tmp rfl) (fun c=>?_) (fun c=>?_)
          · rw [if_pos c] at h
            refine X.skip ?_
            refine X.seq ?_
            refine X.block ?_
            refine S.O 2 rfl rfl ?_
            obtain ⟨q2,Hq2,h⟩:=Option.bind_eq_some_iff.1 h
            refine O.c (chattelref01_at.cs Hq2) rfl rfl rfl ?_
            refine S.e 1 rfl rfl ?_
            refine S.D 4 rfl rfl ?_
            repeat (rw [giff] at h;obtain ⟨_,h⟩:=h)
            refine D.pu (U.indexO0 rfl (.tmp rfl) rfl rfl (.tmp rfl) (by first|omega|(simp only [List.length_set] at *;omega)) (by first|omega|(simp only [List.length_set] at *;omega)) rfl rfl) ?_
            refine D.pu (U.rdO (.tmp rfl) rfl rfl rfl rfl rfl) ?_
            refine S.d 2 rfl rfl ?_
            refine D.pu (U.rdI rfl rfl (.tmp rfl) (.tmp rfl) (by omega) (by omega)) ?_
            refine S.d 7 rfl rfl ?_
            refine D.nil (by kernel_rfl) ?_
            refine S.O 5 rfl rfl ?_
            refine O.pu (Pu.bin (.tmp rfl) .int (.rem (by omega))) ?_
            refine O.pu (U.indexO0 rfl (.tmp rfl) rfl rfl (.tmp rfl) (by first|omega|(simp only [List.length_set] at *;omega)) (by first|omega|(simp only [List.length_set] at *;omega)) rfl rfl) ?_
            refine O.ef0 (U.storeE (.tmp rfl) rfl rfl (.tmp (v:=.int _ _) rfl) rfl rfl (.whole (notBad_ne rfl) rfl) .ints) ?_
            refine O.nil ?_
            refine X.still ?_
            refine S.r 1 rfl rfl ?_
            refine O.pu (Pu.bin (.tmp rfl) .int (U.quo64 (by omega))) ?_
            refine S.e 1 rfl rfl ?_
            refine X.still ?_
            refine S.e 3 rfl rfl ?_
            exact ⟨_,(by omega),(by omega),_,_,_,_,_,_,_,_,rfl,rfl,rfl,rfl,(by first|rfl|(simp only [List.length_set];done)|(simp only [List.length_drop,List.length_take,List.length_append,List.length_set] at *;omega)),rfl,rfl,rfl,h⟩
          · rw [if_neg c] at h
            refine X.exit (B.out ?_)
            refine X.still ?_
            refine S.e 3 rfl rfl ?_
            exact ⟨_,(by omega),_,_,_,_,_,_,rfl,rfl,rfl,rfl,(by first|rfl|(simp only [List.length_set];done)|(simp only [List.length_drop,List.length_take,List.length_append,List.length_set] at *;omega)),rfl,h⟩
    · rw [if_neg c] at h
      refine X.exit (B.out ?_)
      refine S.O 1 rfl rfl ?_
      obtain ⟨q3,Hq3,h⟩:=Option.bind_eq_some_iff.1 h
      refine O.ef (U.callZ (ss:=[17]) (.cons (.tmp (v:=.os _ _ _ _ _) rfl) .nil) (.cons (.osIf (by simp) rfl (Mode.live_ne rfl) rfl (by first|rfl|(simp only [List.length_set];done)|(simp only [List.length_drop,List.length_take,List.length_append,List.length_set] at *;omega))) .nil) (chattelref01_Trim.cs Hq3) (.fi) (nowin rfl)) ?_
      refine S.e 1 rfl rfl ?_
      refine X.ret ?_
      cases h
      exact S.R rfl rfl rfl
noncomputable def c132:Code:=Tryz.f132.body.getD .skip
theorem fn132:FnOk Tryz.prog 132 Tryz.f132 c132:=⟨Tryz.func132,rfl,by kernel_rfl,by kernel_rfl,mixed⟩
theorem chattelref01_Cmp.cs {k:Nat} {l0:List Int} {l1:List Int} {r:Int} (h:chattelref01_Cmp.f k l0 l1=some r):CS Tryz.prog 132 [.fi .i64 l0, .fi .i64 l1] .no [.int .i64 r]:=by
  unfold chattelref01_Cmp.f at h
  refine E.pure fn132 rfl ?_
  refine S.A 1 rfl rfl ?_
  refine X.seq ?_
  refine S.O 1 rfl rfl ?_
  refine O.pu (Pu.lenI rfl (.tmp rfl)) ?_
  refine S.r 1 rfl rfl ?_
  refine O.pu (Pu.lenI rfl (.tmp rfl)) ?_
  refine S.e 1 rfl rfl ?_
  refine X.condN (.tmp rfl) (fun c=>?_) (fun c=>?_)
  · rw [if_neg c] at h
    refine X.seq ?_
    refine S.O 1 rfl rfl ?_
    refine O.pu (Pu.lenI rfl (.tmp rfl)) ?_
    refine S.r 1 rfl rfl ?_
    refine O.pu (Pu.lenI rfl (.tmp rfl)) ?_
    refine S.e 1 rfl rfl ?_
    refine X.condP (.tmp rfl) (fun c=>?_) (fun c=>?_)
    · rw [if_pos c] at h
      refine S.A 1 rfl rfl ?_
      refine X.ret ?_
      cases h
      exact S.R rfl rfl rfl
    · rw [if_neg c] at h
      refine X.skip ?_
      refine S.A 1 rfl rfl ?_
      refine X.ret ?_
      cases h
      exact S.R rfl rfl rfl
  · rw [if_pos c] at h
    refine X.skip ?_
    refine X.seq ?_
    refine S.O 1 rfl rfl ?_
    refine O.pu (Pu.lenI rfl (.tmp rfl)) ?_
    refine S.e 2 rfl rfl ?_
    refine X.block ?_
    refine X.inv (fun k s=>∃ x0 x1 x5,s.t 0 = .fi .i64 x0∧s.t 1 = .fi .i64 x1∧s.t 5 = .int .i64 x5∧chattelref01_Cmp.l0 k x0 x1 x5=some r) ?_ ?_ ⟨_,_,_,rfl,rfl,rfl,h⟩
    · rintro s ⟨_,_,_,_,_,_,h⟩;unfold chattelref01_Cmp.l0 at h;cases h
    · rintro k1 s1 ⟨x0,x1,x5,e0,e1,e2,h⟩
      unfold chattelref01_Cmp.l0 at h
      rw [St.fixT e0,St.fixT e1,St.fixT e2]
      refine X.seq ?_
      refine S.A 2 rfl rfl ?_
      refine X.condP (.tmp rfl) (fun c=>?_) (fun c=>?_)
      · rw [if_pos c] at h
        refine X.skip ?_
        refine X.seq ?_
        refine X.block ?_
        refine X.seq ?_
        refine S.D 2 rfl rfl ?_
        repeat (rw [giff] at h;obtain ⟨_,h⟩:=h)
        refine D.pu (U.rdI rfl rfl (.tmp rfl) (.tmp rfl) (by omega) (by omega)) ?_
        refine S.d 3 rfl rfl ?_
        refine D.pu (U.rdI rfl rfl (.tmp rfl) (.tmp rfl) (by omega) (by omega)) ?_
        refine S.d 2 rfl rfl ?_
        refine D.nil (by kernel_rfl) ?_
        refine X.condP (.tmp rfl) (fun c=>?_) (fun c=>?_)
        · rw [if_pos c] at h
          refine S.A 1 rfl rfl ?_
          refine X.ret ?_
          cases h
          exact S.R rfl rfl rfl
        · rw [if_neg c] at h
          refine X.skip ?_
          refine S.D 2 rfl rfl ?_
          refine D.pu (U.rdI rfl rfl (.tmp rfl) (.tmp rfl) (by omega) (by omega)) ?_
          refine S.d 3 rfl rfl ?_
          refine D.pu (U.rdI rfl rfl (.tmp rfl) (.tmp rfl) (by omega) (by omega)) ?_
          refine S.d 2 rfl rfl ?_
          refine D.nil (by kernel_rfl) ?_
          refine X.condP (.tmp rfl) (fun c=>?_) (fun c=>?_)
          · rw [if_pos c] at h
            refine S.A 1 rfl rfl ?_
            refine X.ret ?_
            cases h
            exact S.R rfl rfl rfl
          · rw [if_neg c] at h
            refine X.skip ?_
            refine X.still ?_
            refine S.e 3 rfl rfl ?_
            exact ⟨_,(by omega),_,_,_,rfl,rfl,rfl,h⟩
      · rw [if_neg c] at h
        refine X.exit (B.out ?_)
        refine S.A 1 rfl rfl ?_
        refine X.ret ?_
        cases h
        exact S.R rfl rfl rfl
noncomputable def c133:Code:=Tryz.f133.body.getD .skip
theorem fn133:FnOk Tryz.prog 133 Tryz.f133 c133:=⟨Tryz.func133,rfl,by kernel_rfl,by kernel_rfl,mixed⟩
theorem chattelref01_Sub.cs {k:Nat} {l0:List Int} {l1:List Int} {r:List Int} (h:chattelref01_Sub.f k l0 l1=some r):CS Tryz.prog 133 [.fi .i64 l0, .fi .i64 l1] .no [.fi .i64 r]:=by
  unfold chattelref01_Sub.f at h
  refine E.pure fn133 rfl ?_
  refine X.seq ?_
  refine X.still ?_
  refine O.pu (Pu.assign (.nilI (k:=.i64))) ?_
  refine O.nil ?_
  refine X.seq ?_
  refine X.still ?_
  refine O.ef (U.nilOE (u:=1) (row:=.ints .i64 []) (e:=3) rfl rfl) ?_
  refine O.nil ?_
  refine S.A 1 rfl rfl ?_
  refine X.seq ?_
  refine S.A 1 rfl rfl ?_
  refine X.block ?_
  refine X.inv (fun k s=>∃ x0 x1 x5 x6 x7 n5 u5,s.t 0 = .fi .i64 x0∧s.t 1 = .fi .i64 x1∧s.b 5=⟨u5, .own, .ints .i64 x5,3⟩∧s.t 5 = .os 5 u5 0 n5 true∧x5.length=n5∧s.t 6 = .int .i64 x6∧s.t 7 = .int .i64 x7∧chattelref01_Sub.l0 k x0 x1 x5 x6 x7=some r) ?_ ?_ ⟨_,_,_,_,_,_,_,rfl,rfl,rfl,rfl,rfl,rfl,rfl,h⟩
  · rintro s ⟨_,_,_,_,_,_,_,_,_,_,_,_,_,_,h⟩;unfold chattelref01_Sub.l0 at h;cases h
  · rintro k1 s1 ⟨x0,x1,x5,x6,x7,n5,u5,e0,e1,e2,e3,rfl,e5,e6,h⟩
    unfold chattelref01_Sub.l0 at h
    rw [St.fixT e0,St.fixT e1,St.fixB e2,St.fixT e3,St.fixT e5,St.fixT e6]
    refine X.seq ?_
    refine S.O 2 rfl rfl ?_
    refine O.pu (Pu.lenI rfl (.tmp rfl)) ?_
    refine S.e 1 rfl rfl ?_
    refine X.condP (.tmp rfl) (fun c=>?_) (fun c=>?_)
    · rw [if_pos c] at h
      refine X.skip ?_
      refine X.seq ?_
      refine X.block ?_
      refine S.O 2 rfl rfl ?_
      obtain ⟨q1,Hq1,h⟩:=Option.bind_eq_some_iff.1 h
      refine O.c (chattelref01_at.cs Hq1) rfl rfl rfl ?_
      refine S.e 1 rfl rfl ?_
      refine S.O 2 rfl rfl ?_
      repeat (rw [giff] at h;obtain ⟨_,h⟩:=h)
      refine O.pu (U.rdI rfl rfl (.tmp rfl) (.tmp rfl) (by omega) (by omega)) ?_
      refine S.e 6 rfl rfl ?_
      refine S.A 1 rfl rfl ?_
      refine X.seq ?_
      refine S.A 2 rfl rfl ?_
      refine X.condP (.tmp rfl) (fun c=>?_) (fun c=>?_)
      · rw [if_pos c] at h
        refine S.A 3 rfl rfl ?_
        refine X.still ?_
        refine S.e 1 rfl rfl ?_
        refine X.still ?_
        refine S.r 2 rfl rfl ?_
        refine O.puE (v':=.os 33 ((s1.b 33).ver + 1) 0 _ true) (b':=⟨(s1.b 33).ver + 1, .own,_,_⟩) (U.litI rfl rfl (.cons (.tmp (v:=.int _ _) rfl) .nil) rfl rfl) rfl rfl ?_
        repeat (rw [giff] at h;obtain ⟨_,h⟩:=h)
        refine O.ef (U.appendE (u':=(s1.b 34).ver + 1) rfl rfl (.tmp rfl) rfl (by first|rfl|(simp only [List.length_set];done)|(simp only [List.length_drop,List.length_take,List.length_append,List.length_set] at *;omega)) (.tmp rfl) (.osIf (List.mem_singleton.2 rfl) rfl (Mode.live_ne rfl) rfl (by first|rfl|(simp only [List.length_set];done)|(simp only [List.length_drop,List.length_take,List.length_append,List.length_set] at *;omega))) rfl (by first|exact Nat.le_of_lt (by assumption)|(simp only [List.length_cons,List.length_nil];omega)) rfl) ?_
        refine O.ef (U.takeE (u':=u5 + 1) (.tmp rfl) rfl (ne_of_beq rfl) rfl) ?_
        refine O.nil ?_
        refine X.still ?_
        refine S.e 3 rfl rfl ?_
        exact ⟨_,(by omega),_,_,_,_,_,_,_,rfl,rfl,rfl,rfl,(by first|rfl|(simp only [List.length_set];done)|(simp only [List.length_drop,List.length_take,List.length_append,List.length_set] at *;omega)),rfl,rfl,h⟩
      · rw [if_neg c] at h
        refine X.skip ?_
        refine X.still ?_
        refine S.r 2 rfl rfl ?_
        refine O.puE (v':=.os 33 ((s1.b 33).ver + 1) 0 _ true) (b':=⟨(s1.b 33).ver + 1, .own,_,_⟩) (U.litI rfl rfl (.cons (.tmp (v:=.int _ _) rfl) .nil) rfl rfl) rfl rfl ?_
        repeat (rw [giff] at h;obtain ⟨_,h⟩:=h)
        refine O.ef (U.appendE (u':=(s1.b 34).ver + 1) rfl rfl (.tmp rfl) rfl (by first|rfl|(simp only [List.length_set];done)|(simp only [List.length_drop,List.length_take,List.length_append,List.length_set] at *;omega)) (.tmp rfl) (.osIf (List.mem_singleton.2 rfl) rfl (Mode.live_ne rfl) rfl (by first|rfl|(simp only [List.length_set];done)|(simp only [List.length_drop,List.length_take,List.length_append,List.length_set] at *;omega))) rfl (by first|exact Nat.le_of_lt (by assumption)|(simp only [List.length_cons,List.length_nil];omega)) rfl) ?_
        refine O.ef (U.takeE (u':=u5 + 1) (.tmp rfl) rfl (ne_of_beq rfl) rfl) ?_
        refine O.nil ?_
        refine X.still ?_
        refine S.e 3 rfl rfl ?_
        exact ⟨_,(by omega),_,_,_,_,_,_,_,rfl,rfl,rfl,rfl,(by first|rfl|(simp only [List.length_set];done)|(simp only [List.length_drop,List.length_take,List.length_append,List.length_set] at *;omega)),rfl,rfl,h⟩
    · rw [if_neg c] at h
      refine X.exit (B.out ?_)
      refine S.O 1 rfl rfl ?_
      obtain ⟨q2,Hq2,h⟩:=Option.bind_eq_some_iff.1 h
      refine O.ef (U.callZ (ss:=[5]) (.cons (.tmp (v:=.os _ _ _ _ _) rfl) .nil) (.cons (.osIf (by simp) rfl (Mode.live_ne rfl) rfl (by first|rfl|(simp only [List.length_set];done)|(simp only [List.length_drop,List.length_take,List.length_append,List.length_set] at *;omega))) .nil) (chattelref01_Trim.cs Hq2) (.fi) (nowin rfl)) ?_
      refine S.e 1 rfl rfl ?_
      refine X.ret ?_
      cases h
      exact S.R rfl rfl rfl
noncomputable def c126:Code:=Tryz.f126.body.getD .skip
theorem fn126:FnOk Tryz.prog 126 Tryz.f126 c126:=⟨Tryz.func126,rfl,by kernel_rfl,by kernel_rfl,mixed⟩
theorem chattelref01_DivMod.cs {k:Nat} {l0:List Int} {l1:List Int} {r:List Int×List Int} (h:chattelref01_DivMod.f k l0 l1=some r):CS Tryz.prog 126 [.fi .i64 l0, .fi .i64 l1] .no [.fi .i64 r.1, .fi .i64 r.2]:=by
  unfold chattelref01_DivMod.f at h
  refine E.pure fn126 rfl ?_
  refine X.seq ?_
  refine X.still ?_
  refine O.pu (Pu.assign (.nilI (k:=.i64))) ?_
  refine O.pu (Pu.assign (.nilI (k:=.i64))) ?_
  refine O.nil ?_
  refine S.O 1 rfl rfl ?_
  refine O.pu (Pu.lenI rfl (.tmp rfl)) ?_
  repeat (rw [giff] at h;obtain ⟨_,h⟩:=h)
  refine O.puE (v':=.os 20 (1) 0 _ true) (b':=⟨1, .own,_,_⟩) (U.makeI rfl rfl (.tmp rfl) (.tmp rfl) (by omega) (by omega) rfl (by omega)) rfl rfl ?_
  refine S.e 1 rfl rfl ?_
  refine X.seq ?_
  refine X.still ?_
  refine O.pu (Pu.assign (.nilI (k:=.i64))) ?_
  refine O.nil ?_
  refine X.seq ?_
  refine S.O 1 rfl rfl ?_
  refine O.pu (Pu.lenI rfl (.tmp rfl)) ?_
  refine S.e 2 rfl rfl ?_
  refine X.block ?_
  refine X.inv (fun k s=>∃ x0 x1 x6 x7 x8 n6 u20,s.t 0 = .fi .i64 x0∧s.t 1 = .fi .i64 x1∧s.b 20=⟨u20, .own, .ints .i64 x6,3⟩∧s.t 6 = .os 20 u20 0 n6 true∧x6.length=n6∧s.t 7 = .fi .i64 x7∧s.t 8 = .int .i64 x8∧chattelref01_DivMod.l0 k x0 x1 x6 x7 x8=some r) ?_ ?_ ⟨_,_,_,_,_,_,_,rfl,rfl,rfl,rfl,rfl,rfl,rfl,h⟩
  · rintro s ⟨_,_,_,_,_,_,_,_,_,_,_,_,_,_,h⟩;unfold chattelref01_DivMod.l0 at h;cases h
  · rintro k1 s1 ⟨x0,x1,x6,x7,x8,n6,u20,e0,e1,e2,e3,rfl,e5,e6,h⟩
    unfold chattelref01_DivMod.l0 at h
    rw [St.fixT e0,St.fixT e1,St.fixB e2,St.fixT e3,St.fixT e5,St.fixT e6]
    refine X.seq ?_
    refine S.A 2 rfl rfl ?_
    refine X.condP (.tmp rfl) (fun c=>?_) (fun c=>?_)
    · rw [if_pos c] at h
      refine X.skip ?_
      refine X.seq ?_
      refine X.block ?_
      refine S.O 2 rfl rfl ?_
      repeat first|(rw [giff] at h;obtain ⟨_,h⟩:=h)|rw [bdff] at h
      refine O.pu (U.rdI rfl rfl (.tmp rfl) (.tmp rfl) (by omega) (by omega)) ?_
      refine S.r 1 rfl rfl ?_
      refine O.puE (v':=.os 32 ((s1.b 32).ver + 1) 0 _ true) (b':=⟨(s1.b 32).ver + 1, .own,_,_⟩) (U.litI rfl rfl (.cons (.tmp (v:=.int _ _) rfl) .nil) rfl rfl) rfl rfl ?_
      refine S.r 1 rfl rfl ?_
      refine O.ef (U.appendE (u':=(s1.b 34).ver + 1) rfl rfl (.tmp rfl) rfl (by first|rfl|(simp only [List.length_set];done)|(simp only [List.length_drop,List.length_take,List.length_append,List.length_set] at *;omega)) (.tmp rfl) (.cl (ss:=[]) .fi) rfl (by first|exact Nat.le_of_lt (by assumption)|(simp only [List.length_cons,List.length_nil];omega)) rfl) ?_
      refine S.e 1 rfl rfl ?_
      refine S.O 1 rfl rfl ?_
      obtain ⟨q1,Hq1,h⟩:=Option.bind_eq_some_iff.1 h
      refine O.ef (U.callZ (ss:=[34]) (.cons (.tmp (v:=.os _ _ _ _ _) rfl) .nil) (.cons (.osIf (by simp) rfl (Mode.live_ne rfl) rfl (by first|rfl|(simp only [List.length_set];done)|(simp only [List.length_drop,List.length_take,List.length_append,List.length_set] at *;omega))) .nil) (chattelref01_Trim.cs Hq1) (.fi) (nowin rfl)) ?_
      refine S.e 1 rfl rfl ?_
      refine S.A 1 rfl rfl ?_
      refine S.A 1 rfl rfl ?_
      refine X.seq ?_
      refine X.block ?_
      refine X.inv (fun k s=>k≤k1∧∃ x0 x1 x6 x7 x8 x10 x11 n6 u20,s.t 0 = .fi .i64 x0∧s.t 1 = .fi .i64 x1∧s.b 20=⟨u20, .own, .ints .i64 x6,3⟩∧s.t 6 = .os 20 u20 0 n6 true∧x6.length=n6∧s.t 7 = .fi .i64 x7∧s.t 8 = .int .i64 x8∧s.t 10 = .int .i64 x10∧s.t 11 = .int .i64 x11∧chattelref01_DivMod.l1 k x0 x1 x6 x7 x8 x10 x11=some r) ?_ ?_ ⟨(by omega),_,_,_,_,_,_,_,_,_,rfl,rfl,rfl,rfl,(by first|rfl|(simp only [List.length_set];done)|(simp only [List.length_drop,List.length_take,List.length_append,List.length_set] at *;omega)),rfl,rfl,rfl,rfl,h⟩
      · rintro s ⟨_,_,_,_,_,_,_,_,_,_,_,_,_,_,_,_,_,_,_,h⟩;unfold chattelref01_DivMod.l1 at h;cases h
      · rintro k2 s2 ⟨kl2,x0,x1,x6,x7,x8,x10,x11,n6,u20,e0,e1,e2,e3,rfl,e5,e6,e7,e8,h⟩
        unfold chattelref01_DivMod.l1 at h
        rw [St.fixT e0,St.fixT e1,St.fixB e2,St.fixT e3,St.fixT e5,St.fixT e6,St.fixT e7,St.fixT e8]
        refine X.seq ?_
        refine S.A 3 rfl rfl ?_
        refine X.condP (.tmp rfl) (fun c=>?_) (fun c=>?_)
        · rw [if_pos c] at h
          refine X.skip ?_
          refine X.block ?_
          refine S.O 4 rfl rfl ?_
          refine O.pu (Pu.bin (.tmp rfl) .int (U.quo64 (by omega))) ?_
          refine S.e 1 rfl rfl ?_
          refine S.O 1 rfl rfl ?_
          obtain ⟨q2,Hq2,h⟩:=Option.bind_eq_some_iff.1 h
          refine O.c (chattelref01_Small.cs Hq2) rfl rfl rfl ?_
          refine S.e 1 rfl rfl ?_
          refine S.O 2 rfl rfl ?_
          obtain ⟨q3,Hq3,h⟩:=Option.bind_eq_some_iff.1 h
          refine O.c (chattelref01_Mul.cs Hq3) rfl rfl rfl ?_
          refine S.e 1 rfl rfl ?_
          refine S.O 2 rfl rfl ?_
          obtain ⟨q4,Hq4,h⟩:=Option.bind_eq_some_iff.1 h
          refine O.c (chattelref01_Cmp.cs Hq4) rfl rfl rfl ?_
          refine S.e 1 rfl rfl ?_
          refine S.A 2 rfl rfl ?_
          refine X.condP (.tmp rfl) (fun c=>?_) (fun c=>?_)
          · rw [if_pos c] at h
            refine X.still ?_
            refine S.e 2 rfl rfl ?_
            exact ⟨_,(by omega),(by omega),_,_,_,_,_,_,_,_,_,rfl,rfl,rfl,rfl,(by first|rfl|(simp only [List.length_set];done)|(simp only [List.length_drop,List.length_take,List.length_append,List.length_set] at *;omega)),rfl,rfl,rfl,rfl,h⟩
          · rw [if_neg c] at h
            refine X.still ?_
            refine S.e 3 rfl rfl ?_
            exact ⟨_,(by omega),(by omega),_,_,_,_,_,_,_,_,_,rfl,rfl,rfl,rfl,(by first|rfl|(simp only [List.length_set];done)|(simp only [List.length_drop,List.length_take,List.length_append,List.length_set] at *;omega)),rfl,rfl,rfl,rfl,h⟩
        · rw [if_neg c] at h
          refine X.exit (B.out ?_)
          refine S.O 3 rfl rfl ?_
          repeat (rw [giff] at h;obtain ⟨_,h⟩:=h)
          refine O.pu (U.indexO0 rfl (.tmp rfl) rfl rfl (.tmp rfl) (by first|omega|(simp only [List.length_set] at *;omega)) (by first|omega|(simp only [List.length_set] at *;omega)) rfl rfl) ?_
          refine O.ef0 (U.storeE (.tmp rfl) rfl rfl (.tmp (v:=.int _ _) rfl) rfl rfl (.whole (notBad_ne rfl) rfl) .ints) ?_
          refine O.nil ?_
          refine S.O 1 rfl rfl ?_
          obtain ⟨q5,Hq5,h⟩:=Option.bind_eq_some_iff.1 h
          refine O.c (chattelref01_Small.cs Hq5) rfl rfl rfl ?_
          refine S.e 1 rfl rfl ?_
          refine S.O 2 rfl rfl ?_
          obtain ⟨q6,Hq6,h⟩:=Option.bind_eq_some_iff.1 h
          refine O.c (chattelref01_Mul.cs Hq6) rfl rfl rfl ?_
          refine S.e 1 rfl rfl ?_
          refine X.still ?_
          refine S.r 2 rfl rfl ?_
          obtain ⟨q7,Hq7,h⟩:=Option.bind_eq_some_iff.1 h
          refine O.c (chattelref01_Sub.cs Hq7) rfl rfl rfl ?_
          refine S.e 1 rfl rfl ?_
          refine X.still ?_
          refine S.e 3 rfl rfl ?_
          exact ⟨_,(by omega),_,_,_,_,_,_,_,rfl,rfl,rfl,rfl,(by first|rfl|(simp only [List.length_set];done)|(simp only [List.length_drop,List.length_take,List.length_append,List.length_set] at *;omega)),rfl,rfl,h⟩
    · rw [if_neg c] at h
      refine X.exit (B.out ?_)
      refine S.O 1 rfl rfl ?_
      obtain ⟨q8,Hq8,h⟩:=Option.bind_eq_some_iff.1 h
      refine O.ef (U.callZ (ss:=[20]) (.cons (.tmp (v:=.os _ _ _ _ _) rfl) .nil) (.cons (.osIf (by simp) rfl (Mode.live_ne rfl) rfl (by first|rfl|(simp only [List.length_set];done)|(simp only [List.length_drop,List.length_take,List.length_append,List.length_set] at *;omega))) .nil) (chattelref01_Trim.cs Hq8) (.fi) (nowin rfl)) ?_
      refine S.e 3 rfl rfl ?_
      refine X.ret ?_
      cases h
      exact S.R rfl rfl rfl
noncomputable def c125:Code:=Tryz.f125.body.getD .skip
theorem fn125:FnOk Tryz.prog 125 Tryz.f125 c125:=⟨Tryz.func125,rfl,by kernel_rfl,by kernel_rfl,mixed⟩
theorem chattelref02_Gcd.cs {k:Nat} {l0:List Int} {l1:List Int} {r:List Int} (h:chattelref02_Gcd.f k l0 l1=some r):CS Tryz.prog 125 [.fi .i64 l0, .fi .i64 l1] .no [.fi .i64 r]:=by
  unfold chattelref02_Gcd.f at h
  refine E.pure fn125 rfl ?_
  refine X.seq ?_
  refine X.still ?_
  refine O.pu (Pu.assign (.nilI (k:=.i64))) ?_
  refine O.nil ?_
  refine X.seq ?_
  refine X.block ?_
  refine X.inv (fun k s=>∃ x0 x1,s.t 0 = .fi .i64 x0∧s.t 1 = .fi .i64 x1∧chattelref02_Gcd.l0 k x0 x1=some r) ?_ ?_ ⟨_,_,rfl,rfl,h⟩
  · rintro s ⟨_,_,_,_,h⟩;unfold chattelref02_Gcd.l0 at h;cases h
  · rintro k1 s1 ⟨x0,x1,e0,e1,h⟩
    unfold chattelref02_Gcd.l0 at h
    rw [St.fixT e0,St.fixT e1]
    refine X.seq ?_
    refine S.O 1 rfl rfl ?_
    refine O.pu (Pu.lenI rfl (.tmp rfl)) ?_
    refine S.e 1 rfl rfl ?_
    refine X.condP (.tmp rfl) (fun c=>?_) (fun c=>?_)
    · rw [if_pos c] at h
      refine X.skip ?_
      refine X.block ?_
      refine S.O 2 rfl rfl ?_
      obtain ⟨q1,Hq1,h⟩:=Option.bind_eq_some_iff.1 h
      refine O.c (chattelref01_DivMod.cs Hq1) rfl rfl rfl ?_
      refine S.e 5 rfl rfl ?_
      refine S.A 2 rfl rfl ?_
      refine X.still ?_
      refine S.e 2 rfl rfl ?_
      exact ⟨_,(by omega),_,_,rfl,rfl,h⟩
    · rw [if_neg c] at h
      refine X.exit (B.out ?_)
      refine S.A 2 rfl rfl ?_
      refine X.ret ?_
      cases h
      exact S.R rfl rfl rfl
noncomputable def c89:Code:=Tryz.f89.body.getD .skip
theorem fn89:FnOk Tryz.prog 89 Tryz.f89 c89:=⟨Tryz.func89,rfl,by kernel_rfl,by kernel_rfl,mixed⟩
theorem chattelref05_Make.cs {k:Nat} {l0_0:List Int} {a0_1:Bool} {l1:List Int} {r:List Int×Bool×List Int} (h:chattelref05_Make.f k l0_0 a0_1 l1=some r):CS Tryz.prog 89 [.agg [.fi .i64 l0_0, .bool a0_1], .fi .i64 l1] .no [.agg [.fi .i64 r.1, .bool r.2.1, .fi .i64 r.2.2]]:=by
  unfold chattelref05_Make.f at h
  refine E.pure fn89 rfl ?_
  refine S.A 2 rfl rfl ?_
  refine S.O 3 rfl rfl ?_
  obtain ⟨q1,Hq1,h⟩:=Option.bind_eq_some_iff.1 h
  refine O.c (chattelref02_Gcd.cs Hq1) rfl rfl rfl ?_
  refine S.e 1 rfl rfl ?_
  refine S.O 3 rfl rfl ?_
  obtain ⟨q2,Hq2,h⟩:=Option.bind_eq_some_iff.1 h
  refine O.c (chattelref01_DivMod.cs Hq2) rfl rfl rfl ?_
  refine S.e 5 rfl rfl ?_
  refine S.O 2 rfl rfl ?_
  obtain ⟨q3,Hq3,h⟩:=Option.bind_eq_some_iff.1 h
  refine O.c (chattelref01_DivMod.cs Hq3) rfl rfl rfl ?_
  refine S.e 5 rfl rfl ?_
  refine S.O 3 rfl rfl ?_
  obtain ⟨q4,Hq4,h⟩:=Option.bind_eq_some_iff.1 h
  refine O.c (chattelref04_Of.cs Hq4) rfl rfl rfl ?_
  refine S.e 2 rfl rfl ?_
  refine S.A 4 rfl rfl ?_
  refine X.ret ?_
  cases h
  exact S.R rfl rfl rfl
noncomputable def c55:Code:=Tryz.f55.body.getD .skip
theorem fn55:FnOk Tryz.prog 55 Tryz.f55 c55:=⟨Tryz.func55,rfl,by kernel_rfl,by kernel_rfl,mixed⟩
theorem chattelref05_Of.cs {k:Nat} {l0_0:List Int} {a0_1:Bool} {l1_0:List Int} {a1_1:Bool} {r:List Int×Bool×List Int} (h:chattelref05_Of.f k l0_0 a0_1 l1_0 a1_1=some r):CS Tryz.prog 55 [.agg [.fi .i64 l0_0, .bool a0_1], .agg [.fi .i64 l1_0, .bool a1_1]] .no [.agg [.fi .i64 r.1, .bool r.2.1, .fi .i64 r.2.2]]:=by
  unfold chattelref05_Of.f at h
  refine E.pure fn55 rfl ?_
  refine S.A 3 rfl rfl ?_
  refine X.seq ?_
  refine S.A 2 rfl rfl ?_
  refine X.cond (.tmp rfl) (fun c=>?_) (fun c=>?_)
  · rw [if_pos c] at h
    refine X.still ?_
    refine S.r 1 rfl rfl ?_
    obtain ⟨q1,Hq1,h⟩:=Option.bind_eq_some_iff.1 h
    refine O.c (chattelref04_Neg.cs Hq1) rfl rfl rfl ?_
    refine S.e 1 rfl rfl ?_
    refine S.O 3 rfl rfl ?_
    obtain ⟨q2,Hq2,h⟩:=Option.bind_eq_some_iff.1 h
    refine O.c (chattelref05_Make.cs Hq2) rfl rfl rfl ?_
    refine S.e 1 rfl rfl ?_
    refine X.ret ?_
    cases h
    exact S.R rfl rfl rfl
  · rw [if_neg (bf c)] at h
    refine X.skip ?_
    refine S.O 3 rfl rfl ?_
    obtain ⟨q3,Hq3,h⟩:=Option.bind_eq_some_iff.1 h
    refine O.c (chattelref05_Make.cs Hq3) rfl rfl rfl ?_
    refine S.e 1 rfl rfl ?_
    refine X.ret ?_
    cases h
    exact S.R rfl rfl rfl
noncomputable def c19:Code:=Tryz.f19.body.getD .skip
theorem fn19:FnOk Tryz.prog 19 Tryz.f19 c19:=⟨Tryz.func19,rfl,by kernel_rfl,by kernel_rfl,mixed⟩
theorem chattelref05_Small.cs {k:Nat} {a0:Int} {a1:Int} {r:List Int×Bool×List Int} (h:chattelref05_Small.f k a0 a1=some r):CS Tryz.prog 19 [.int .i64 a0, .int .i64 a1] .no [.agg [.fi .i64 r.1, .bool r.2.1, .fi .i64 r.2.2]]:=by
  unfold chattelref05_Small.f at h
  refine E.pure fn19 rfl ?_
  refine S.A 1 rfl rfl ?_
  refine S.O 1 rfl rfl ?_
  obtain ⟨q1,Hq1,h⟩:=Option.bind_eq_some_iff.1 h
  refine O.c (chattelref04_From.cs Hq1) rfl rfl rfl ?_
  refine S.e 2 rfl rfl ?_
  refine S.O 1 rfl rfl ?_
  obtain ⟨q2,Hq2,h⟩:=Option.bind_eq_some_iff.1 h
  refine O.c (chattelref04_From.cs Hq2) rfl rfl rfl ?_
  refine S.e 2 rfl rfl ?_
  refine S.O 2 rfl rfl ?_
  obtain ⟨q3,Hq3,h⟩:=Option.bind_eq_some_iff.1 h
  refine O.c (chattelref05_Of.cs Hq3) rfl rfl rfl ?_
  refine S.e 1 rfl rfl ?_
  refine X.ret ?_
  cases h
  exact S.R rfl rfl rfl
noncomputable def c62:Code:=Tryz.f62.body.getD .skip
theorem fn62:FnOk Tryz.prog 62 Tryz.f62 c62:=⟨Tryz.func62,rfl,by kernel_rfl,by kernel_rfl,mixed⟩
theorem chattelref01_Print.cs {k:Nat} {l0:List Int} {r:ByteArray} (h:chattelref01_Print.f k l0=some r):CS Tryz.prog 62 [.fi .i64 l0] .no [.str r]:=by
  unfold chattelref01_Print.f at h
  refine E.pure fn62 rfl ?_
  refine S.A 1 rfl rfl ?_
  refine X.seq ?_
  refine S.O 1 rfl rfl ?_
  refine O.pu (Pu.lenI rfl (.tmp rfl)) ?_
  refine S.e 1 rfl rfl ?_
  refine X.condE (.tmp rfl) (fun c=>?_) (fun c=>?_)
  · rw [if_pos c] at h
    refine S.A 1 rfl rfl ?_
    refine X.ret ?_
    cases h
    exact S.R rfl rfl rfl
  · rw [if_neg c] at h
    refine X.skip ?_
    refine S.A 1 rfl rfl ?_
    refine X.seq ?_
    refine S.A 1 rfl rfl ?_
    refine X.block ?_
    refine X.inv (fun k s=>∃ x0 x3 x4,s.t 0 = .fi .i64 x0∧s.t 3 = .str x3∧s.t 4 = .int .i64 x4∧chattelref01_Print.l0 k x0 x3 x4=some r) ?_ ?_ ⟨_,_,_,rfl,rfl,rfl,h⟩
    · rintro s ⟨_,_,_,_,_,_,h⟩;unfold chattelref01_Print.l0 at h;cases h
    · rintro k1 s1 ⟨x0,x3,x4,e0,e1,e2,h⟩
      unfold chattelref01_Print.l0 at h
      rw [St.fixT e0,St.fixT e1,St.fixT e2]
      refine X.seq ?_
      refine S.O 2 rfl rfl ?_
      refine O.pu (Pu.lenI rfl (.tmp rfl)) ?_
      refine S.e 1 rfl rfl ?_
      refine X.condP (.tmp rfl) (fun c=>?_) (fun c=>?_)
      · rw [if_pos c] at h
        refine X.skip ?_
        refine X.seq ?_
        refine X.block ?_
        refine S.O 2 rfl rfl ?_
        repeat (rw [giff] at h;obtain ⟨_,h⟩:=h)
        refine O.pu (U.rdI rfl rfl (.tmp rfl) (.tmp rfl) (by omega) (by omega)) ?_
        refine S.e 2 rfl rfl ?_
        refine S.A 1 rfl rfl ?_
        refine X.block ?_
        refine X.inv (fun k s=>k≤k1∧∃ x0 x3 x4 x5 x6,s.t 0 = .fi .i64 x0∧s.t 3 = .str x3∧s.t 4 = .int .i64 x4∧s.t 5 = .int .i64 x5∧s.t 6 = .int .i64 x6∧chattelref01_Print.l1 k x0 x3 x4 x5 x6=some r) ?_ ?_ ⟨(by omega),_,_,_,_,_,rfl,rfl,rfl,rfl,rfl,h⟩
        · rintro s ⟨_,_,_,_,_,_,_,_,_,_,_,h⟩;unfold chattelref01_Print.l1 at h;cases h
        · rintro k2 s2 ⟨kl2,x0,x3,x4,x5,x6,e0,e1,e2,e3,e4,h⟩
          unfold chattelref01_Print.l1 at h
          rw [St.fixT e0,St.fixT e1,St.fixT e2,St.fixT e3,St.fixT e4]
          refine X.seq ?_
          refine S.A 2 rfl rfl ?_
          refine X.condP (.tmp rfl) (fun c=>?_) (fun c=>?_)
          · rw [if_pos c] at h
            refine X.skip ?_
            refine X.seq ?_
            refine X.block ?_
            refine S.O 1 rfl rfl ?_
            repeat first|(rw [giff] at h;obtain ⟨_,h⟩:=h)|rw [bdff] at h
            refine O.pu (Pu.bin (.tmp rfl) .int (.rem (by omega))) ?_
            refine S.r 2 rfl rfl ?_
            refine O.puE (v':=.os 29 ((s2.b 29).ver + 1) 0 _ true) (b':=⟨(s2.b 29).ver + 1, .own,_,_⟩) (U.litI rfl rfl (.cons (.tmp (v:=.int _ _) rfl) .nil) rfl rfl) rfl rfl ?_
            refine O.pu (U.convB rfl rfl rfl (.tmp rfl) rfl rfl rfl (by first|rfl|omega) rfl (by first|(simp only [List.length_cons,List.length_nil];omega)|omega)) ?_
            refine S.r 1 rfl rfl ?_
            refine O.pu (Pu.bin (.tmp rfl) (.tmp rfl) (U.sadd (by first|assumption|omega))) ?_
            refine S.e 1 rfl rfl ?_
            refine X.still ?_
            refine S.r 1 rfl rfl ?_
            refine O.pu (Pu.bin (.tmp rfl) .int (U.quo64 (by omega))) ?_
            refine S.e 1 rfl rfl ?_
            refine X.still ?_
            refine S.e 3 rfl rfl ?_
            exact ⟨_,(by omega),(by omega),_,_,_,_,_,rfl,rfl,rfl,rfl,rfl,h⟩
          · rw [if_neg c] at h
            refine X.exit (B.out ?_)
            refine X.still ?_
            refine S.e 3 rfl rfl ?_
            exact ⟨_,(by omega),_,_,_,rfl,rfl,rfl,h⟩
      · rw [if_neg c] at h
        refine X.exit (B.out ?_)
        refine S.A 1 rfl rfl ?_
        refine X.seq ?_
        refine X.block ?_
        refine X.inv (fun k s=>k≤k1∧∃ x3 x7,s.t 3 = .str x3∧s.t 7 = .int .i64 x7∧chattelref01_Print.l2 k x3 x7=some r) ?_ ?_ ⟨(by omega),_,_,rfl,rfl,h⟩
        · rintro s ⟨_,_,_,_,_,h⟩;unfold chattelref01_Print.l2 at h;cases h
        · rintro k2 s2 ⟨kl2,x3,x7,e0,e1,h⟩
          unfold chattelref01_Print.l2 at h
          rw [St.fixT e0,St.fixT e1]
          refine X.seq ?_
          refine S.O 2 rfl rfl ?_
          repeat (rw [giff] at h;obtain ⟨_,h⟩:=h)
          refine O.pu (U.indexS rfl (.tmp rfl) (.tmp rfl) (by omega) (by omega)) ?_
          refine S.e 1 rfl rfl ?_
          refine X.condE (.tmp rfl) (fun c=>?_) (fun c=>?_)
          · rw [if_pos c] at h
            refine X.skip ?_
            refine X.block ?_
            refine X.still ?_
            refine S.e 3 rfl rfl ?_
            exact ⟨_,(by omega),(by omega),_,_,rfl,rfl,h⟩
          · rw [if_neg c] at h
            refine X.exit (B.out ?_)
            refine S.O 2 rfl rfl ?_
            repeat (rw [giff] at h;obtain ⟨_,h⟩:=h)
            refine O.pu (Pu.sliceS rfl (.tmp rfl) (.yes (.tmp rfl) (by omega)) .no (by omega) (by omega)) ?_
            refine S.e 1 rfl rfl ?_
            refine X.ret ?_
            cases h
            exact S.R rfl rfl rfl
noncomputable def c61:Code:=Tryz.f61.body.getD .skip
theorem fn61:FnOk Tryz.prog 61 Tryz.f61 c61:=⟨Tryz.func61,rfl,by kernel_rfl,by kernel_rfl,mixed⟩
theorem chattelref04_Print.cs {k:Nat} {l0_0:List Int} {a0_1:Bool} {r:ByteArray} (h:chattelref04_Print.f k l0_0 a0_1=some r):CS Tryz.prog 61 [.agg [.fi .i64 l0_0, .bool a0_1]] .no [.str r]:=by
  unfold chattelref04_Print.f at h
  refine E.pure fn61 rfl ?_
  refine S.A 2 rfl rfl ?_
  refine S.O 2 rfl rfl ?_
  obtain ⟨q1,Hq1,h⟩:=Option.bind_eq_some_iff.1 h
  refine O.c (chattelref01_Print.cs Hq1) rfl rfl rfl ?_
  refine S.e 1 rfl rfl ?_
  refine X.seq ?_
  refine S.A 2 rfl rfl ?_
  refine X.cond (.tmp rfl) (fun c=>?_) (fun c=>?_)
  · rw [if_pos c] at h
    refine S.O 1 rfl rfl ?_
    repeat (rw [giff] at h;obtain ⟨_,h⟩:=h)
    refine O.pu (Pu.bin .str (.tmp rfl) (U.sadd (by first|assumption|omega))) ?_
    refine S.e 1 rfl rfl ?_
    refine X.ret ?_
    cases h
    exact S.R rfl rfl rfl
  · rw [if_neg (bf c)] at h
    refine X.skip ?_
    refine S.A 2 rfl rfl ?_
    refine X.ret ?_
    cases h
    exact S.R rfl rfl rfl
noncomputable def c22:Code:=Tryz.f22.body.getD .skip
theorem fn22:FnOk Tryz.prog 22 Tryz.f22 c22:=⟨Tryz.func22,rfl,by kernel_rfl,by kernel_rfl,mixed⟩
theorem chattelref05_Print.cs {k:Nat} {l0_0:List Int} {a0_1:Bool} {l0_2:List Int} {r:ByteArray} (h:chattelref05_Print.f k l0_0 a0_1 l0_2=some r):CS Tryz.prog 22 [.agg [.fi .i64 l0_0, .bool a0_1, .fi .i64 l0_2]] .no [.str r]:=by
  unfold chattelref05_Print.f at h
  refine E.pure fn22 rfl ?_
  refine S.A 2 rfl rfl ?_
  refine S.O 2 rfl rfl ?_
  obtain ⟨q1,Hq1,h⟩:=Option.bind_eq_some_iff.1 h
  refine O.c (chattelref04_Print.cs Hq1) rfl rfl rfl ?_
  refine S.e 1 rfl rfl ?_
  refine X.seq ?_
  refine S.O 2 rfl rfl ?_
  refine O.pu (Pu.lenI rfl (.tmp rfl)) ?_
  refine S.r 2 rfl rfl ?_
  refine O.splitE (fun c=>?_) (fun c=>?_)
  · rw [if_pos c] at h
    refine S.r 2 rfl rfl ?_
    repeat (rw [giff] at h;obtain ⟨_,h⟩:=h)
    refine G.pu (W.t rfl rfl) (U.rdI rfl rfl (.tmp rfl) .int (by omega) (by omega)) ?_
    refine S.e 3 rfl rfl ?_
    refine X.condE (.tmp rfl) (fun c=>?_) (fun c=>?_)
    · rw [if_pos c] at h
      refine S.A 2 rfl rfl ?_
      refine X.ret ?_
      cases h
      exact S.R rfl rfl rfl
    · rw [if_neg c] at h
      refine X.skip ?_
      refine S.O 2 rfl rfl ?_
      obtain ⟨q2,Hq2,h⟩:=Option.bind_eq_some_iff.1 h
      refine O.c (chattelref01_Print.cs Hq2) rfl rfl rfl ?_
      refine S.e 1 rfl rfl ?_
      refine S.O 1 rfl rfl ?_
      repeat (rw [giff] at h;obtain ⟨_,h⟩:=h)
      refine O.pu (Pu.bin (.tmp rfl) .str (U.sadd (by first|assumption|omega))) ?_
      refine S.r 1 rfl rfl ?_
      refine O.pu (Pu.bin (.tmp rfl) (.tmp rfl) (U.sadd (by first|assumption|omega))) ?_
      refine S.e 1 rfl rfl ?_
      refine X.ret ?_
      cases h
      exact S.R rfl rfl rfl
  · rw [if_neg c] at h
    refine S.e 6 rfl rfl ?_
    refine X.condF (.tmp rfl) ?_
    refine X.skip ?_
    refine S.O 2 rfl rfl ?_
    obtain ⟨q3,Hq3,h⟩:=Option.bind_eq_some_iff.1 h
    refine O.c (chattelref01_Print.cs Hq3) rfl rfl rfl ?_
    refine S.e 1 rfl rfl ?_
    refine S.O 1 rfl rfl ?_
    repeat (rw [giff] at h;obtain ⟨_,h⟩:=h)
    refine O.pu (Pu.bin (.tmp rfl) .str (U.sadd (by first|assumption|omega))) ?_
    refine S.r 1 rfl rfl ?_
    refine O.pu (Pu.bin (.tmp rfl) (.tmp rfl) (U.sadd (by first|assumption|omega))) ?_
    refine S.e 1 rfl rfl ?_
    refine X.ret ?_
    cases h
    exact S.R rfl rfl rfl
noncomputable def c98:Code:=Tryz.f98.body.getD .skip
theorem fn98:FnOk Tryz.prog 98 Tryz.f98 c98:=⟨Tryz.func98,rfl,by kernel_rfl,by kernel_rfl,mixed⟩
theorem chattelref04_Mul.cs {k:Nat} {l0_0:List Int} {a0_1:Bool} {l1_0:List Int} {a1_1:Bool} {r:List Int×Bool} (h:chattelref04_Mul.f k l0_0 a0_1 l1_0 a1_1=some r):CS Tryz.prog 98 [.agg [.fi .i64 l0_0, .bool a0_1], .agg [.fi .i64 l1_0, .bool a1_1]] .no [.agg [.fi .i64 r.1, .bool r.2]]:=by
  unfold chattelref04_Mul.f at h
  refine E.pure fn98 rfl ?_
  refine S.A 3 rfl rfl ?_
  refine S.O 4 rfl rfl ?_
  obtain ⟨q1,Hq1,h⟩:=Option.bind_eq_some_iff.1 h
  refine O.c (chattelref01_Mul.cs Hq1) rfl rfl rfl ?_
  refine S.e 1 rfl rfl ?_
  refine S.O 6 rfl rfl ?_
  obtain ⟨q2,Hq2,h⟩:=Option.bind_eq_some_iff.1 h
  refine O.c (chattelref04_Of.cs Hq2) rfl rfl rfl ?_
  refine S.e 1 rfl rfl ?_
  refine X.ret ?_
  cases h
  exact S.R rfl rfl rfl
noncomputable def c100:Code:=Tryz.f100.body.getD .skip
theorem fn100:FnOk Tryz.prog 100 Tryz.f100 c100:=⟨Tryz.func100,rfl,by kernel_rfl,by kernel_rfl,mixed⟩
theorem chattelref05_cross.cs {k:Nat} {l0_0:List Int} {a0_1:Bool} {l0_2:List Int} {l1_0:List Int} {a1_1:Bool} {l1_2:List Int} {r:List Int×Bool} (h:chattelref05_cross.f k l0_0 a0_1 l0_2 l1_0 a1_1 l1_2=some r):CS Tryz.prog 100 [.agg [.fi .i64 l0_0, .bool a0_1, .fi .i64 l0_2], .agg [.fi .i64 l1_0, .bool a1_1, .fi .i64 l1_2]] .no [.agg [.fi .i64 r.1, .bool r.2]]:=by
  unfold chattelref05_cross.f at h
  refine E.pure fn100 rfl ?_
  refine S.A 3 rfl rfl ?_
  refine S.O 2 rfl rfl ?_
  obtain ⟨q1,Hq1,h⟩:=Option.bind_eq_some_iff.1 h
  refine O.c (chattelref04_Of.cs Hq1) rfl rfl rfl ?_
  refine S.e 2 rfl rfl ?_
  refine S.O 3 rfl rfl ?_
  obtain ⟨q2,Hq2,h⟩:=Option.bind_eq_some_iff.1 h
  refine O.c (chattelref04_Mul.cs Hq2) rfl rfl rfl ?_
  refine S.e 1 rfl rfl ?_
  refine X.ret ?_
  cases h
  exact S.R rfl rfl rfl
theorem chattelref01_Add.j1_e {k y0 y1 y2 y3 y4 y5 r}:(chattelref01_Add.j1 k y0 y1 y2 y3 y4 y5=some r) = ∃ j,k=j + 1∧chattelref01_Add.j1 (j + 1) y0 y1 y2 y3 y4 y5=some r:=propext ⟨fun h=>by cases k with|zero=>(unfold chattelref01_Add.j1 at h;cases h)|succ k=>exact ⟨k,rfl,h⟩,fun ⟨j,hj,h⟩=>by subst hj;exact h⟩
noncomputable def c131:Code:=Tryz.f131.body.getD .skip
theorem fn131:FnOk Tryz.prog 131 Tryz.f131 c131:=⟨Tryz.func131,rfl,by kernel_rfl,by kernel_rfl,mixed⟩
theorem chattelref01_Add.cs {k:Nat} {l0:List Int} {l1:List Int} {r:List Int} (h:chattelref01_Add.f k l0 l1=some r):CS Tryz.prog 131 [.fi .i64 l0, .fi .i64 l1] .no [.fi .i64 r]:=by
  unfold chattelref01_Add.f at h
  refine E.pure fn131 rfl ?_
  refine X.seq ?_
  refine X.still ?_
  refine O.pu (Pu.assign (.nilI (k:=.i64))) ?_
  refine O.nil ?_
  refine X.seq ?_
  refine X.still ?_
  refine O.ef (U.nilOE (u:=1) (row:=.ints .i64 []) (e:=3) rfl rfl) ?_
  refine O.nil ?_
  refine S.A 1 rfl rfl ?_
  refine X.seq ?_
  refine S.A 1 rfl rfl ?_
  refine X.block ?_
  refine X.inv (fun k s=>∃ x0 x1 x5 x6 x7 n5 u5,s.t 0 = .fi .i64 x0∧s.t 1 = .fi .i64 x1∧s.b 5=⟨u5, .own, .ints .i64 x5,3⟩∧s.t 5 = .os 5 u5 0 n5 true∧x5.length=n5∧s.t 6 = .int .i64 x6∧s.t 7 = .int .i64 x7∧chattelref01_Add.l0 k x0 x1 x5 x6 x7=some r) ?_ ?_ ⟨_,_,_,_,_,_,_,rfl,rfl,rfl,rfl,rfl,rfl,rfl,h⟩
  · rintro s ⟨_,_,_,_,_,_,_,_,_,_,_,_,_,_,h⟩;unfold chattelref01_Add.l0 at h;cases h
  · rintro k1 s1 ⟨x0,x1,x5,x6,x7,n5,u5,e0,e1,e2,e3,rfl,e5,e6,h⟩
    unfold chattelref01_Add.l0 at h
    rw [St.fixT e0,St.fixT e1,St.fixB e2,St.fixT e3,St.fixT e5,St.fixT e6]
    refine X.seq ?_
    refine S.O 2 rfl rfl ?_
    refine O.pu (Pu.lenI rfl (.tmp rfl)) ?_
    refine S.r 2 rfl rfl ?_
    refine O.splitP (fun c=>?_) (fun c=>?_)
    · rw [if_pos c] at h
      refine S.e 9 rfl rfl ?_
      repeat (rw [chattelref01_Add.j1_e] at h;obtain ⟨k,_,h⟩:=h;unfold chattelref01_Add.j1 at h;try dsimp only at h)
      rw [if_pos rfl] at h
      refine X.condT (.tmp rfl) ?_
      refine X.skip ?_
      refine X.seq ?_
      refine X.block ?_
      refine S.O 2 rfl rfl ?_
      obtain ⟨q1,Hq1,h⟩:=Option.bind_eq_some_iff.1 h
      refine O.c (chattelref01_at.cs Hq1) rfl rfl rfl ?_
      refine S.e 1 rfl rfl ?_
      refine S.O 2 rfl rfl ?_
      obtain ⟨q2,Hq2,h⟩:=Option.bind_eq_some_iff.1 h
      refine O.c (chattelref01_at.cs Hq2) rfl rfl rfl ?_
      refine S.e 1 rfl rfl ?_
      refine S.A 6 rfl rfl ?_
      refine S.O 2 rfl rfl ?_
      repeat (rw [giff] at h;obtain ⟨_,h⟩:=h)
      refine O.pu (Pu.bin (.tmp rfl) .int (.rem (by omega))) ?_
      refine O.puE (v':=.os 41 ((s1.b 41).ver + 1) 0 _ true) (b':=⟨(s1.b 41).ver + 1, .own,_,_⟩) (U.litI rfl rfl (.cons (.tmp (v:=.int _ _) rfl) .nil) rfl rfl) rfl rfl ?_
      refine O.ef (U.appendE (u':=(s1.b 42).ver + 1) rfl rfl (.tmp rfl) rfl (by first|rfl|(simp only [List.length_set];done)|(simp only [List.length_drop,List.length_take,List.length_append,List.length_set] at *;omega)) (.tmp rfl) (.osIf (List.mem_singleton.2 rfl) rfl (Mode.live_ne rfl) rfl (by first|rfl|(simp only [List.length_set];done)|(simp only [List.length_drop,List.length_take,List.length_append,List.length_set] at *;omega))) rfl (by first|exact Nat.le_of_lt (by assumption)|(simp only [List.length_cons,List.length_nil];omega)) rfl) ?_
      refine O.ef (U.takeE (u':=u5 + 1) (.tmp rfl) rfl (ne_of_beq rfl) rfl) ?_
      refine O.nil ?_
      refine X.still ?_
      refine S.r 1 rfl rfl ?_
      refine O.pu (Pu.bin (.tmp rfl) .int (U.quo64 (by omega))) ?_
      refine S.e 1 rfl rfl ?_
      refine X.still ?_
      refine S.e 3 rfl rfl ?_
      exact ⟨_,(by omega),_,_,_,_,_,_,_,rfl,rfl,rfl,rfl,(by first|rfl|(simp only [List.length_set];done)|(simp only [List.length_drop,List.length_take,List.length_append,List.length_set] at *;omega)),rfl,rfl,h⟩
    · rw [if_neg c] at h
      refine S.r 2 rfl rfl ?_
      refine G.pu (W.t rfl rfl) (Pu.lenI rfl (.tmp rfl)) ?_
      refine S.r 3 rfl rfl ?_
      refine O.splitP (fun c=>?_) (fun c=>?_)
      · rw [if_pos c] at h
        refine S.e 3 rfl rfl ?_
        repeat (rw [chattelref01_Add.j1_e] at h;obtain ⟨k,_,h⟩:=h;unfold chattelref01_Add.j1 at h;try dsimp only at h)
        rw [if_pos rfl] at h
        refine X.condT (.tmp rfl) ?_
        refine X.skip ?_
        refine X.seq ?_
        refine X.block ?_
        refine S.O 2 rfl rfl ?_
        obtain ⟨q3,Hq3,h⟩:=Option.bind_eq_some_iff.1 h
        refine O.c (chattelref01_at.cs Hq3) rfl rfl rfl ?_
        refine S.e 1 rfl rfl ?_
        refine S.O 2 rfl rfl ?_
        obtain ⟨q4,Hq4,h⟩:=Option.bind_eq_some_iff.1 h
        refine O.c (chattelref01_at.cs Hq4) rfl rfl rfl ?_
        refine S.e 1 rfl rfl ?_
        refine S.A 6 rfl rfl ?_
        refine S.O 2 rfl rfl ?_
        repeat (rw [giff] at h;obtain ⟨_,h⟩:=h)
        refine O.pu (Pu.bin (.tmp rfl) .int (.rem (by omega))) ?_
        refine O.puE (v':=.os 41 ((s1.b 41).ver + 1) 0 _ true) (b':=⟨(s1.b 41).ver + 1, .own,_,_⟩) (U.litI rfl rfl (.cons (.tmp (v:=.int _ _) rfl) .nil) rfl rfl) rfl rfl ?_
        refine O.ef (U.appendE (u':=(s1.b 42).ver + 1) rfl rfl (.tmp rfl) rfl (by first|rfl|(simp only [List.length_set];done)|(simp only [List.length_drop,List.length_take,List.length_append,List.length_set] at *;omega)) (.tmp rfl) (.osIf (List.mem_singleton.2 rfl) rfl (Mode.live_ne rfl) rfl (by first|rfl|(simp only [List.length_set];done)|(simp only [List.length_drop,List.length_take,List.length_append,List.length_set] at *;omega))) rfl (by first|exact Nat.le_of_lt (by assumption)|(simp only [List.length_cons,List.length_nil];omega)) rfl) ?_
        refine O.ef (U.takeE (u':=u5 + 1) (.tmp rfl) rfl (ne_of_beq rfl) rfl) ?_
        refine O.nil ?_
        refine X.still ?_
        refine S.r 1 rfl rfl ?_
        refine O.pu (Pu.bin (.tmp rfl) .int (U.quo64 (by omega))) ?_
        refine S.e 1 rfl rfl ?_
        refine X.still ?_
        refine S.e 3 rfl rfl ?_
        exact ⟨_,(by omega),_,_,_,_,_,_,_,rfl,rfl,rfl,rfl,(by first|rfl|(simp only [List.length_set];done)|(simp only [List.length_drop,List.length_take,List.length_append,List.length_set] at *;omega)),rfl,rfl,h⟩
      · rw [if_neg c] at h
        refine S.e 3 rfl rfl ?_
        repeat (rw [chattelref01_Add.j1_e] at h;obtain ⟨k,_,h⟩:=h;unfold chattelref01_Add.j1 at h;try dsimp only at h)
        refine X.condP (.tmp rfl) (fun c=>?_) (fun c=>?_)
        · rw [if_pos (decide_eq_true c)] at h
          refine X.skip ?_
          refine X.seq ?_
          refine X.block ?_
          refine S.O 2 rfl rfl ?_
          obtain ⟨q5,Hq5,h⟩:=Option.bind_eq_some_iff.1 h
          refine O.c (chattelref01_at.cs Hq5) rfl rfl rfl ?_
          refine S.e 1 rfl rfl ?_
          refine S.O 2 rfl rfl ?_
          obtain ⟨q6,Hq6,h⟩:=Option.bind_eq_some_iff.1 h
          refine O.c (chattelref01_at.cs Hq6) rfl rfl rfl ?_
          refine S.e 1 rfl rfl ?_
          refine S.A 6 rfl rfl ?_
          refine S.O 2 rfl rfl ?_
          repeat (rw [giff] at h;obtain ⟨_,h⟩:=h)
          refine O.pu (Pu.bin (.tmp rfl) .int (.rem (by omega))) ?_
          refine O.puE (v':=.os 41 ((s1.b 41).ver + 1) 0 _ true) (b':=⟨(s1.b 41).ver + 1, .own,_,_⟩) (U.litI rfl rfl (.cons (.tmp (v:=.int _ _) rfl) .nil) rfl rfl) rfl rfl ?_
          refine O.ef (U.appendE (u':=(s1.b 42).ver + 1) rfl rfl (.tmp rfl) rfl (by first|rfl|(simp only [List.length_set];done)|(simp only [List.length_drop,List.length_take,List.length_append,List.length_set] at *;omega)) (.tmp rfl) (.osIf (List.mem_singleton.2 rfl) rfl (Mode.live_ne rfl) rfl (by first|rfl|(simp only [List.length_set];done)|(simp only [List.length_drop,List.length_take,List.length_append,List.length_set] at *;omega))) rfl (by first|exact Nat.le_of_lt (by assumption)|(simp only [List.length_cons,List.length_nil];omega)) rfl) ?_
          refine O.ef (U.takeE (u':=u5 + 1) (.tmp rfl) rfl (ne_of_beq rfl) rfl) ?_
          refine O.nil ?_
          refine X.still ?_
          refine S.r 1 rfl rfl ?_
          refine O.pu (Pu.bin (.tmp rfl) .int (U.quo64 (by omega))) ?_
          refine S.e 1 rfl rfl ?_
          refine X.still ?_
          refine S.e 3 rfl rfl ?_
          exact ⟨_,(by omega),_,_,_,_,_,_,_,rfl,rfl,rfl,rfl,(by first|rfl|(simp only [List.length_set];done)|(simp only [List.length_drop,List.length_take,List.length_append,List.length_set] at *;omega)),rfl,rfl,h⟩
        · rw [if_neg (nd c)] at h
          refine X.exit (B.out ?_)
          refine S.O 1 rfl rfl ?_
          obtain ⟨q7,Hq7,h⟩:=Option.bind_eq_some_iff.1 h
          refine O.ef (U.callZ (ss:=[5]) (.cons (.tmp (v:=.os _ _ _ _ _) rfl) .nil) (.cons (.osIf (by simp) rfl (Mode.live_ne rfl) rfl (by first|rfl|(simp only [List.length_set];done)|(simp only [List.length_drop,List.length_take,List.length_append,List.length_set] at *;omega))) .nil) (chattelref01_Trim.cs Hq7) (.fi) (nowin rfl)) ?_
          refine S.e 1 rfl rfl ?_
          refine X.ret ?_
          cases h
          exact S.R rfl rfl rfl
noncomputable def c101:Code:=Tryz.f101.body.getD .skip
theorem fn101:FnOk Tryz.prog 101 Tryz.f101 c101:=⟨Tryz.func101,rfl,by kernel_rfl,by kernel_rfl,mixed⟩
theorem chattelref04_Add.cs {k:Nat} {l0_0:List Int} {a0_1:Bool} {l1_0:List Int} {a1_1:Bool} {r:List Int×Bool} (h:chattelref04_Add.f k l0_0 a0_1 l1_0 a1_1=some r):CS Tryz.prog 101 [.agg [.fi .i64 l0_0, .bool a0_1], .agg [.fi .i64 l1_0, .bool a1_1]] .no [.agg [.fi .i64 r.1, .bool r.2]]:=by
  unfold chattelref04_Add.f at h
  refine E.pure fn101 rfl ?_
  refine S.A 3 rfl rfl ?_
  refine X.seq ?_
  refine S.A 5 rfl rfl ?_
  refine X.cond (.tmp rfl) (fun c=>?_) (fun c=>?_)
  · rw [if_pos c] at h
    refine S.O 4 rfl rfl ?_
    obtain ⟨q1,Hq1,h⟩:=Option.bind_eq_some_iff.1 h
    refine O.c (chattelref01_Add.cs Hq1) rfl rfl rfl ?_
    refine S.e 1 rfl rfl ?_
    refine S.O 3 rfl rfl ?_
    obtain ⟨q2,Hq2,h⟩:=Option.bind_eq_some_iff.1 h
    refine O.c (chattelref04_Of.cs Hq2) rfl rfl rfl ?_
    refine S.e 1 rfl rfl ?_
    refine X.ret ?_
    cases h
    exact S.R rfl rfl rfl
  · rw [if_neg (bf c)] at h
    refine X.skip ?_
    refine S.O 4 rfl rfl ?_
    obtain ⟨q3,Hq3,h⟩:=Option.bind_eq_some_iff.1 h
    refine O.c (chattelref01_Cmp.cs Hq3) rfl rfl rfl ?_
    refine S.e 1 rfl rfl ?_
    refine X.seq ?_
    refine S.A 2 rfl rfl ?_
    refine X.condP (.tmp rfl) (fun c=>?_) (fun c=>?_)
    · rw [if_pos c] at h
      refine S.O 4 rfl rfl ?_
      obtain ⟨q4,Hq4,h⟩:=Option.bind_eq_some_iff.1 h
      refine O.c (chattelref01_Sub.cs Hq4) rfl rfl rfl ?_
      refine S.e 1 rfl rfl ?_
      refine S.O 3 rfl rfl ?_
      obtain ⟨q5,Hq5,h⟩:=Option.bind_eq_some_iff.1 h
      refine O.c (chattelref04_Of.cs Hq5) rfl rfl rfl ?_
      refine S.e 1 rfl rfl ?_
      refine X.ret ?_
      cases h
      exact S.R rfl rfl rfl
    · rw [if_neg c] at h
      refine X.skip ?_
      refine S.O 4 rfl rfl ?_
      obtain ⟨q6,Hq6,h⟩:=Option.bind_eq_some_iff.1 h
      refine O.c (chattelref01_Sub.cs Hq6) rfl rfl rfl ?_
      refine S.e 1 rfl rfl ?_
      refine S.O 3 rfl rfl ?_
      obtain ⟨q7,Hq7,h⟩:=Option.bind_eq_some_iff.1 h
      refine O.c (chattelref04_Of.cs Hq7) rfl rfl rfl ?_
      refine S.e 1 rfl rfl ?_
      refine X.ret ?_
      cases h
      exact S.R rfl rfl rfl
noncomputable def c65:Code:=Tryz.f65.body.getD .skip
theorem fn65:FnOk Tryz.prog 65 Tryz.f65 c65:=⟨Tryz.func65,rfl,by kernel_rfl,by kernel_rfl,mixed⟩
theorem chattelref05_Add.cs {k:Nat} {l0_0:List Int} {a0_1:Bool} {l0_2:List Int} {l1_0:List Int} {a1_1:Bool} {l1_2:List Int} {r:List Int×Bool×List Int} (h:chattelref05_Add.f k l0_0 a0_1 l0_2 l1_0 a1_1 l1_2=some r):CS Tryz.prog 65 [.agg [.fi .i64 l0_0, .bool a0_1, .fi .i64 l0_2], .agg [.fi .i64 l1_0, .bool a1_1, .fi .i64 l1_2]] .no [.agg [.fi .i64 r.1, .bool r.2.1, .fi .i64 r.2.2]]:=by
  unfold chattelref05_Add.f at h
  refine E.pure fn65 rfl ?_
  refine S.A 3 rfl rfl ?_
  refine S.O 2 rfl rfl ?_
  obtain ⟨q1,Hq1,h⟩:=Option.bind_eq_some_iff.1 h
  refine O.c (chattelref05_cross.cs Hq1) rfl rfl rfl ?_
  refine S.e 2 rfl rfl ?_
  refine S.O 2 rfl rfl ?_
  obtain ⟨q2,Hq2,h⟩:=Option.bind_eq_some_iff.1 h
  refine O.c (chattelref05_cross.cs Hq2) rfl rfl rfl ?_
  refine S.e 2 rfl rfl ?_
  refine S.O 2 rfl rfl ?_
  obtain ⟨q3,Hq3,h⟩:=Option.bind_eq_some_iff.1 h
  refine O.c (chattelref04_Add.cs Hq3) rfl rfl rfl ?_
  refine S.e 2 rfl rfl ?_
  refine S.O 4 rfl rfl ?_
  obtain ⟨q4,Hq4,h⟩:=Option.bind_eq_some_iff.1 h
  refine O.c (chattelref01_Mul.cs Hq4) rfl rfl rfl ?_
  refine S.e 1 rfl rfl ?_
  refine S.O 2 rfl rfl ?_
  obtain ⟨q5,Hq5,h⟩:=Option.bind_eq_some_iff.1 h
  refine O.c (chattelref05_Make.cs Hq5) rfl rfl rfl ?_
  refine S.e 1 rfl rfl ?_
  refine X.ret ?_
  cases h
  exact S.R rfl rfl rfl
noncomputable def c96:Code:=Tryz.f96.body.getD .skip
theorem fn96:FnOk Tryz.prog 96 Tryz.f96 c96:=⟨Tryz.func96,rfl,by kernel_rfl,by kernel_rfl,mixed⟩
theorem chattelref09_Number.cs {k:Nat} {a0_0:Int} {a0_1:Int} {a0_2:Int} {r:Int} (h:chattelref09_Number.f k a0_0 a0_1 a0_2=some r):CS Tryz.prog 96 [.agg [.int .i64 a0_0, .int .i64 a0_1, .int .i64 a0_2]] .no [.int .i64 r]:=by
  unfold chattelref09_Number.f at h
  refine E.pure fn96 rfl ?_
  refine S.A 2 rfl rfl ?_
  refine S.A 1 rfl rfl ?_
  refine X.seq ?_
  refine S.A 1 rfl rfl ?_
  refine X.block ?_
  refine X.inv (fun k s=>∃ x3 x4 x1320000 x1320001 x1320002 u1,s.t 3 = .int .i64 x3∧s.t 4 = .int .i64 x4∧s.t 1 = .op 1 u1 0 0∧s.b 1=⟨u1, .own, .vals [.agg [.int .i64 x1320000, .int .i64 x1320001, .int .i64 x1320002]],28⟩∧chattelref09_Number.l0 k x3 x4 x1320000 x1320001 x1320002=some r) ?_ ?_ ⟨_,_,_,_,_,_,rfl,rfl,rfl,rfl,h⟩
  · rintro s ⟨_,_,_,_,_,_,_,_,_,_,h⟩;unfold chattelref09_Number.l0 at h;cases h
  · rintro k1 s1 ⟨x3,x4,x1320000,x1320001,x1320002,u1,e0,e1,e2,e3,h⟩
    unfold chattelref09_Number.l0 at h
    rw [St.fixT e0,St.fixT e1,St.fixT e2,St.fixB e3]
    refine X.seq ?_
    refine S.A 4 rfl rfl ?_
    refine X.condP (.tmp rfl) (fun c=>?_) (fun c=>?_)
    · rw [if_pos c] at h
      refine X.skip ?_
      refine X.seq ?_
      refine X.block ?_
      refine S.O 1 rfl rfl ?_
      obtain ⟨q1,Hq1,h⟩:=Option.bind_eq_some_iff.1 h
      refine O.c (chattelref09_Leap.cs Hq1) rfl rfl rfl ?_
      refine S.e 1 rfl rfl ?_
      refine S.A 3 rfl rfl ?_
      refine S.A 1 rfl rfl ?_
      refine X.cond (.tmp rfl) (fun c=>?_) (fun c=>?_)
      · rw [if_pos c] at h
        refine X.still ?_
        refine S.e 3 rfl rfl ?_
        refine X.still ?_
        refine S.e 3 rfl rfl ?_
        exact ⟨_,(by omega),_,_,_,_,_,_,rfl,rfl,rfl,rfl,h⟩
      · rw [if_neg (bf c)] at h
        refine X.skip ?_
        refine X.still ?_
        refine S.e 3 rfl rfl ?_
        exact ⟨_,(by omega),_,_,_,_,_,_,rfl,rfl,rfl,rfl,h⟩
    · rw [if_neg c] at h
      refine X.exit (B.out ?_)
      refine X.seq ?_
      refine S.A 1 rfl rfl ?_
      refine X.block ?_
      refine X.inv (fun k s=>k≤k1∧∃ x3 x6 x1320000 x1320001 x1320002 u1,s.t 3 = .int .i64 x3∧s.t 6 = .int .i64 x6∧s.t 1 = .op 1 u1 0 0∧s.b 1=⟨u1, .own, .vals [.agg [.int .i64 x1320000, .int .i64 x1320001, .int .i64 x1320002]],28⟩∧chattelref09_Number.l1 k x3 x6 x1320000 x1320001 x1320002=some r) ?_ ?_ ⟨(by omega),_,_,_,_,_,_,rfl,rfl,rfl,rfl,h⟩
      · rintro s ⟨_,_,_,_,_,_,_,_,_,_,_,h⟩;unfold chattelref09_Number.l1 at h;cases h
      · rintro k2 s2 ⟨kl2,x3,x6,x1320000,x1320001,x1320002,u1,e0,e1,e2,e3,h⟩
        unfold chattelref09_Number.l1 at h
        rw [St.fixT e0,St.fixT e1,St.fixT e2,St.fixB e3]
        refine X.seq ?_
        refine S.A 4 rfl rfl ?_
        refine X.condP (.tmp rfl) (fun c=>?_) (fun c=>?_)
        · rw [if_pos c] at h
          refine X.skip ?_
          refine X.seq ?_
          refine X.block ?_
          refine S.O 3 rfl rfl ?_
          obtain ⟨q2,Hq2,h⟩:=Option.bind_eq_some_iff.1 h
          refine O.c (chattelref09_Days.cs Hq2) rfl rfl rfl ?_
          refine S.e 1 rfl rfl ?_
          refine X.still ?_
          refine S.e 4 rfl rfl ?_
          refine X.still ?_
          refine S.e 3 rfl rfl ?_
          exact ⟨_,(by omega),(by omega),_,_,_,_,_,_,rfl,rfl,rfl,rfl,h⟩
        · rw [if_neg c] at h
          refine X.exit (B.out ?_)
          refine S.A 5 rfl rfl ?_
          refine X.ret ?_
          cases h
          exact S.R rfl rfl rfl
noncomputable def c63:Code:=Tryz.f63.body.getD .skip
theorem fn63:FnOk Tryz.prog 63 Tryz.f63 c63:=⟨Tryz.func63,rfl,by kernel_rfl,by kernel_rfl,mixed⟩
theorem chattelref11_Year.cs {k:Nat} {a0:Int} {a1_0:Int} {a1_1:Int} {a1_2:Int} {a2_0:Int} {a2_1:Int} {a2_2:Int} {r:List Int×Bool×List Int} (h:chattelref11_Year.f k a0 a1_0 a1_1 a1_2 a2_0 a2_1 a2_2=some r):CS Tryz.prog 63 [.int .i64 a0, .agg [.int .i64 a1_0, .int .i64 a1_1, .int .i64 a1_2], .agg [.int .i64 a2_0, .int .i64 a2_1, .int .i64 a2_2]] .no [.agg [.fi .i64 r.1, .bool r.2.1, .fi .i64 r.2.2]]:=by
  unfold chattelref11_Year.f at h
  refine E.pure fn63 rfl ?_
  refine S.A 3 rfl rfl ?_
  refine X.seq ?_
  refine S.A 2 rfl rfl ?_
  refine X.condE (.tmp rfl) (fun c=>?_) (fun c=>?_)
  · rw [if_pos c] at h
    refine S.A 3 rfl rfl ?_
    refine S.A 3 rfl rfl ?_
    refine X.seq ?_
    refine S.A 2 rfl rfl ?_
    refine X.condE (.tmp rfl) (fun c=>?_) (fun c=>?_)
    · rw [if_pos c] at h
      refine X.still ?_
      refine S.e 1 rfl rfl ?_
      refine X.seq ?_
      refine S.O 3 rfl rfl ?_
      refine O.splitE (fun c=>?_) (fun c=>?_)
      · rw [if_pos c] at h
        refine S.e 3 rfl rfl ?_
        refine X.condE (.tmp rfl) (fun c=>?_) (fun c=>?_)
        · refine X.still ?_
          refine S.e 1 rfl rfl ?_
          refine S.O 17 rfl rfl ?_
          obtain ⟨q1,Hq1,h⟩:=Option.bind_eq_some_iff.1 h
          refine O.c (chattelref05_Small.cs Hq1) rfl rfl rfl ?_
          refine S.e 1 rfl rfl ?_
          refine X.ret ?_
          cases h
          exact S.R rfl rfl rfl
        · exact absurd rfl c
      · rw [if_neg c] at h
        refine S.e 3 rfl rfl ?_
        refine X.condF (.tmp rfl) ?_
        refine X.skip ?_
        refine S.O 17 rfl rfl ?_
        obtain ⟨q2,Hq2,h⟩:=Option.bind_eq_some_iff.1 h
        refine O.c (chattelref05_Small.cs Hq2) rfl rfl rfl ?_
        refine S.e 1 rfl rfl ?_
        refine X.ret ?_
        cases h
        exact S.R rfl rfl rfl
    · rw [if_neg c] at h
      refine X.skip ?_
      refine X.seq ?_
      refine S.O 3 rfl rfl ?_
      refine O.splitE (fun c=>?_) (fun c=>?_)
      · rw [if_pos c] at h
        refine S.e 3 rfl rfl ?_
        refine X.condE (.tmp rfl) (fun c=>?_) (fun c=>?_)
        · rw [if_pos c] at h
          refine X.still ?_
          refine S.e 1 rfl rfl ?_
          refine S.O 17 rfl rfl ?_
          obtain ⟨q3,Hq3,h⟩:=Option.bind_eq_some_iff.1 h
          refine O.c (chattelref05_Small.cs Hq3) rfl rfl rfl ?_
          refine S.e 1 rfl rfl ?_
          refine X.ret ?_
          cases h
          exact S.R rfl rfl rfl
        · rw [if_neg c] at h
          refine X.skip ?_
          refine S.O 17 rfl rfl ?_
          obtain ⟨q4,Hq4,h⟩:=Option.bind_eq_some_iff.1 h
          refine O.c (chattelref05_Small.cs Hq4) rfl rfl rfl ?_
          refine S.e 1 rfl rfl ?_
          refine X.ret ?_
          cases h
          exact S.R rfl rfl rfl
      · rw [if_neg c] at h
        refine S.e 3 rfl rfl ?_
        refine X.condF (.tmp rfl) ?_
        refine X.skip ?_
        refine S.O 17 rfl rfl ?_
        obtain ⟨q5,Hq5,h⟩:=Option.bind_eq_some_iff.1 h
        refine O.c (chattelref05_Small.cs Hq5) rfl rfl rfl ?_
        refine S.e 1 rfl rfl ?_
        refine X.ret ?_
        cases h
        exact S.R rfl rfl rfl
  · rw [if_neg c] at h
    refine X.skip ?_
    refine S.O 1 rfl rfl ?_
    obtain ⟨q6,Hq6,h⟩:=Option.bind_eq_some_iff.1 h
    refine O.c (chattelref09_Number.cs Hq6) rfl rfl rfl ?_
    refine S.e 1 rfl rfl ?_
    refine S.O 1 rfl rfl ?_
    obtain ⟨q7,Hq7,h⟩:=Option.bind_eq_some_iff.1 h
    refine O.c (chattelref09_Number.cs Hq7) rfl rfl rfl ?_
    refine S.e 1 rfl rfl ?_
    refine X.seq ?_
    refine S.A 2 rfl rfl ?_
    refine X.condE (.tmp rfl) (fun c=>?_) (fun c=>?_)
    · rw [if_pos c] at h
      refine S.O 3 rfl rfl ?_
      obtain ⟨q8,Hq8,h⟩:=Option.bind_eq_some_iff.1 h
      refine O.c (chattelref05_Small.cs Hq8) rfl rfl rfl ?_
      refine S.e 1 rfl rfl ?_
      refine X.ret ?_
      cases h
      exact S.R rfl rfl rfl
    · rw [if_neg c] at h
      refine X.skip ?_
      refine X.seq ?_
      refine X.still ?_
      obtain ⟨q9,Hq9,h⟩:=Option.bind_eq_some_iff.1 h
      refine O.c (chattelref05_Small.cs Hq9) rfl rfl rfl ?_
      refine S.e 2 rfl rfl ?_
      refine X.seq ?_
      refine S.A 3 rfl rfl ?_
      refine X.block ?_
      refine X.inv (fun k s=>∃ x9 x10 x12 x1324000 x1324001 x1324002 x1384000 x1384001 x1384002 u11 u4 u5 u6 z4_0 z4_1 z4_2,s.t 9 = .int .i64 x9∧s.t 10 = .int .i64 x10∧s.t 12 = .int .i64 x12∧s.t 4 = .op 4 u4 0 0∧s.b 4=⟨u4, .own, .vals [.agg [.int .i64 z4_0, .int .i64 z4_1, .int .i64 z4_2]],28⟩∧s.t 5 = .op 5 u5 0 0∧s.b 5=⟨u5, .own, .vals [.agg [.int .i64 x1324000, .int .i64 x1324001, .int .i64 x1324002]],28⟩∧s.t 6 = .op 6 u6 0 0∧s.b 6=⟨u6, .own, .vals [.agg [.fi .i64 [], .bool false, .fi .i64 []]],71⟩∧s.t 11 = .op 11 u11 0 0∧s.b 11=⟨u11, .own, .vals [.agg [.fi .i64 x1384000, .bool x1384001, .fi .i64 x1384002]],71⟩∧chattelref11_Year.l0 k x9 x10 x12 x1324000 x1324001 x1324002 x1384000 x1384001 x1384002=some r) ?_ ?_ ⟨_,_,_,_,_,_,_,_,_,_,_,_,_,_,_,_,rfl,rfl,rfl,rfl,rfl,rfl,rfl,rfl,rfl,rfl,rfl,h⟩
      · rintro s ⟨_,_,_,_,_,_,_,_,_,_,_,_,_,_,_,_,_,_,_,_,_,_,_,_,_,_,_,h⟩;unfold chattelref11_Year.l0 at h;cases h
      · rintro k1 s1 ⟨x9,x10,x12,x1324000,x1324001,x1324002,x1384000,x1384001,x1384002,u11,u4,u5,u6,z4_0,z4_1,z4_2,e0,e1,e2,e3,e4,e5,e6,e7,e8,e9,e10,h⟩
        unfold chattelref11_Year.l0 at h
        rw [St.fixT e0,St.fixT e1,St.fixT e2,St.fixT e3,St.fixB e4,St.fixT e5,St.fixB e6,St.fixT e7,St.fixB e8,St.fixT e9,St.fixB e10]
        refine X.seq ?_
        refine S.A 4 rfl rfl ?_
        refine X.condP (.tmp rfl) (fun c=>?_) (fun c=>?_)
        · rw [if_pos c] at h
          refine X.skip ?_
          refine X.seq ?_
          refine X.block ?_
          refine S.O 2 rfl rfl ?_
          obtain ⟨q10,Hq10,h⟩:=Option.bind_eq_some_iff.1 h
          refine O.c (chattelref09_Number.cs Hq10) rfl rfl rfl ?_
          refine S.e 1 rfl rfl ?_
          refine S.A 1 rfl rfl ?_
          refine S.O 1 rfl rfl ?_
          obtain ⟨q11,Hq11,h⟩:=Option.bind_eq_some_iff.1 h
          refine O.c (chattelref09_Leap.cs Hq11) rfl rfl rfl ?_
          refine S.e 1 rfl rfl ?_
          refine X.seq ?_
          refine S.A 1 rfl rfl ?_
          refine X.cond (.tmp rfl) (fun c=>?_) (fun c=>?_)
          · rw [if_pos c] at h
            refine X.still ?_
            refine S.e 1 rfl rfl ?_
            refine S.O 2 rfl rfl ?_
            refine O.pu (U.mx (.tmp rfl) (.tmp rfl)) ?_
            refine S.e 1 rfl rfl ?_
            refine S.O 4 rfl rfl ?_
            refine O.pu (U.mn (.tmp rfl) (.tmp rfl)) ?_
            refine S.e 1 rfl rfl ?_
            refine S.O 4 rfl rfl ?_
            obtain ⟨q12,Hq12,h⟩:=Option.bind_eq_some_iff.1 h
            refine O.c (chattelref05_Small.cs Hq12) rfl rfl rfl ?_
            refine S.e 2 rfl rfl ?_
            refine X.still ?_
            refine S.r 2 rfl rfl ?_
            obtain ⟨q13,Hq13,h⟩:=Option.bind_eq_some_iff.1 h
            refine O.c (chattelref05_Add.cs Hq13) rfl rfl rfl ?_
            refine S.e 1 rfl rfl ?_
            refine X.still ?_
            refine S.e 3 rfl rfl ?_
            exact ⟨_,(by omega),_,_,_,_,_,_,_,_,_,_,_,_,_,_,_,_,rfl,rfl,rfl,rfl,rfl,rfl,rfl,rfl,rfl,rfl,rfl,h⟩
          · rw [if_neg (bf c)] at h
            refine X.skip ?_
            refine S.O 2 rfl rfl ?_
            refine O.pu (U.mx (.tmp rfl) (.tmp rfl)) ?_
            refine S.e 1 rfl rfl ?_
            refine S.O 4 rfl rfl ?_
            refine O.pu (U.mn (.tmp rfl) (.tmp rfl)) ?_
            refine S.e 1 rfl rfl ?_
            refine S.O 4 rfl rfl ?_
            obtain ⟨q14,Hq14,h⟩:=Option.bind_eq_some_iff.1 h
            refine O.c (chattelref05_Small.cs Hq14) rfl rfl rfl ?_
            refine S.e 2 rfl rfl ?_
            refine X.still ?_
            refine S.r 2 rfl rfl ?_
            obtain ⟨q15,Hq15,h⟩:=Option.bind_eq_some_iff.1 h
            refine O.c (chattelref05_Add.cs Hq15) rfl rfl rfl ?_
            refine S.e 1 rfl rfl ?_
            refine X.still ?_
            refine S.e 3 rfl rfl ?_
            exact ⟨_,(by omega),_,_,_,_,_,_,_,_,_,_,_,_,_,_,_,_,rfl,rfl,rfl,rfl,rfl,rfl,rfl,rfl,rfl,rfl,rfl,h⟩
        · rw [if_neg c] at h
          refine X.exit (B.out ?_)
          refine S.A 2 rfl rfl ?_
          refine X.ret ?_
          cases h
          exact S.R rfl rfl rfl
noncomputable def c64:Code:=Tryz.f64.body.getD .skip
theorem fn64:FnOk Tryz.prog 64 Tryz.f64 c64:=⟨Tryz.func64,rfl,by kernel_rfl,by kernel_rfl,mixed⟩
theorem chattelref05_Mul.cs {k:Nat} {l0_0:List Int} {a0_1:Bool} {l0_2:List Int} {l1_0:List Int} {a1_1:Bool} {l1_2:List Int} {r:List Int×Bool×List Int} (h:chattelref05_Mul.f k l0_0 a0_1 l0_2 l1_0 a1_1 l1_2=some r):CS Tryz.prog 64 [.agg [.fi .i64 l0_0, .bool a0_1, .fi .i64 l0_2], .agg [.fi .i64 l1_0, .bool a1_1, .fi .i64 l1_2]] .no [.agg [.fi .i64 r.1, .bool r.2.1, .fi .i64 r.2.2]]:=by
  unfold chattelref05_Mul.f at h
  refine E.pure fn64 rfl ?_
  refine S.A 3 rfl rfl ?_
  refine S.O 4 rfl rfl ?_
  obtain ⟨q1,Hq1,h⟩:=Option.bind_eq_some_iff.1 h
  refine O.c (chattelref04_Mul.cs Hq1) rfl rfl rfl ?_
  refine S.e 2 rfl rfl ?_
  refine S.O 4 rfl rfl ?_
  obtain ⟨q2,Hq2,h⟩:=Option.bind_eq_some_iff.1 h
  refine O.c (chattelref01_Mul.cs Hq2) rfl rfl rfl ?_
  refine S.e 1 rfl rfl ?_
  refine S.O 2 rfl rfl ?_
  obtain ⟨q3,Hq3,h⟩:=Option.bind_eq_some_iff.1 h
  refine O.c (chattelref05_Make.cs Hq3) rfl rfl rfl ?_
  refine S.e 1 rfl rfl ?_
  refine X.ret ?_
  cases h
  exact S.R rfl rfl rfl
noncomputable def c23:Code:=Tryz.f23.body.getD .skip
theorem fn23:FnOk Tryz.prog 23 Tryz.f23 c23:=⟨Tryz.func23,rfl,by kernel_rfl,by kernel_rfl,mixed⟩
theorem chattelref12_Weighted.cs {k:Nat} {a0:Int} {l1:List (S91)} {l2:List (S71)} {r:List Int×Bool×List Int} (h:chattelref12_Weighted.f k a0 l1 l2=some r):CS Tryz.prog 23 [.int .i64 a0, .fv (List.map en91 l1), .fv (List.map en71 l2)] .no [.agg [.fi .i64 r.1, .bool r.2.1, .fi .i64 r.2.2]]:=by
  unfold chattelref12_Weighted.f at h
  refine E.pure fn23 rfl ?_
  refine S.A 1 rfl rfl ?_
  refine X.seq ?_
  refine X.still ?_
  obtain ⟨q1,Hq1,h⟩:=Option.bind_eq_some_iff.1 h
  refine O.c (chattelref05_Small.cs Hq1) rfl rfl rfl ?_
  refine S.e 2 rfl rfl ?_
  refine X.seq ?_
  refine S.A 1 rfl rfl ?_
  refine X.block ?_
  refine X.inv (fun k s=>∃ x0 x1 x2 x8 x1443000 x1443001 x1443002 u6 u7,s.t 0 = .int .i64 x0∧s.t 1 = .fv (List.map en91 x1)∧s.t 2 = .fv (List.map en71 x2)∧s.t 8 = .int .i64 x8∧s.t 6 = .op 6 u6 0 0∧s.b 6=⟨u6, .own, .vals [.agg [.fi .i64 [], .bool false, .fi .i64 []]],71⟩∧s.t 7 = .op 7 u7 0 0∧s.b 7=⟨u7, .own, .vals [.agg [.fi .i64 x1443000, .bool x1443001, .fi .i64 x1443002]],71⟩∧chattelref12_Weighted.l0 k x0 x1 x2 x8 x1443000 x1443001 x1443002=some r) ?_ ?_ ⟨_,_,_,_,_,_,_,_,_,rfl,rfl,rfl,rfl,rfl,rfl,rfl,rfl,h⟩
  · rintro s ⟨_,_,_,_,_,_,_,_,_,_,_,_,_,_,_,_,_,h⟩;unfold chattelref12_Weighted.l0 at h;cases h
  · rintro k1 s1 ⟨x0,x1,x2,x8,x1443000,x1443001,x1443002,u6,u7,e0,e1,e2,e3,e4,e5,e6,e7,h⟩
    unfold chattelref12_Weighted.l0 at h
    rw [St.fixT e0,St.fixT e1,St.fixT e2,St.fixT e3,St.fixT e4,St.fixB e5,St.fixT e6,St.fixB e7]
    refine X.seq ?_
    refine S.O 2 rfl rfl ?_
    refine O.pu (U.lenS rfl (.tmp rfl)) ?_
    refine S.e 1 rfl rfl ?_
    refine X.condP (.tmp rfl) (fun c=>?_) (fun c=>?_)
    · rw [if_pos c] at h
      refine X.skip ?_
      refine X.seq ?_
      refine X.block ?_
      refine S.D 3 rfl rfl ?_
      repeat (rw [giff] at h;obtain ⟨_,h⟩:=h)
      refine D.pu (U.rdVS z91 rfl (fun _=>⟨rfl,rfl⟩) (.tmp rfl) (.tmp rfl) (by omega) (by omega)) ?_
      refine S.d 4 rfl rfl ?_
      refine D.pu (U.rdVS z91 rfl (fun _=>⟨rfl,rfl⟩) (.tmp rfl) (.tmp rfl) (by omega) (by omega)) ?_
      refine S.d 2 rfl rfl ?_
      obtain ⟨q2,Hq2,h⟩:=Option.bind_eq_some_iff.1 h
      refine D.c (chattelref11_Year.cs Hq2) rfl rfl rfl ?_
      refine S.d 2 rfl rfl ?_
      refine D.nil (by kernel_rfl) ?_
      refine S.D 3 rfl rfl ?_
      repeat (rw [giff] at h;obtain ⟨_,h⟩:=h)
      refine D.pu (U.rdVS z71 rfl (fun _=>⟨rfl,rfl⟩) (.tmp rfl) (.tmp rfl) (by omega) (by omega)) ?_
      refine S.d 1 rfl rfl ?_
      obtain ⟨q3,Hq3,h⟩:=Option.bind_eq_some_iff.1 h
      refine D.c (chattelref05_Mul.cs Hq3) rfl rfl rfl ?_
      refine S.d 2 rfl rfl ?_
      refine D.nil (by kernel_rfl) ?_
      refine X.still ?_
      refine S.r 2 rfl rfl ?_
      obtain ⟨q4,Hq4,h⟩:=Option.bind_eq_some_iff.1 h
      refine O.c (chattelref05_Add.cs Hq4) rfl rfl rfl ?_
      refine S.e 1 rfl rfl ?_
      refine X.still ?_
      refine S.e 3 rfl rfl ?_
      exact ⟨_,(by omega),_,_,_,_,_,_,_,_,_,rfl,rfl,rfl,rfl,rfl,rfl,rfl,rfl,h⟩
    · rw [if_neg c] at h
      refine X.exit (B.out ?_)
      refine S.A 2 rfl rfl ?_
      refine X.ret ?_
      cases h
      exact S.R rfl rfl rfl
noncomputable def c102:Code:=Tryz.f102.body.getD .skip
theorem fn102:FnOk Tryz.prog 102 Tryz.f102 c102:=⟨Tryz.func102,rfl,by kernel_rfl,by kernel_rfl,mixed⟩
theorem whole_Int_Sub.cs {k:Nat} {l0_0:List Int} {a0_1:Bool} {l1_0:List Int} {a1_1:Bool} {r:List Int×Bool} (h:whole_Int_Sub.f k l0_0 a0_1 l1_0 a1_1=some r):CS Tryz.prog 102 [.agg [.fi .u64 l0_0, .bool a0_1], .agg [.fi .u64 l1_0, .bool a1_1]] .no [.agg [.fi .u64 r.1, .bool r.2]]:=by
  unfold whole_Int_Sub.f at h
  refine E.pure fn102 rfl ?_
  refine S.A 3 rfl rfl ?_
  refine S.D 2 rfl rfl ?_
  obtain ⟨q1,Hq1,h⟩:=Option.bind_eq_some_iff.1 h
  refine D.c (whole_Int_Neg.cs Hq1) rfl rfl rfl ?_
  obtain ⟨q2,Hq2,h⟩:=Option.bind_eq_some_iff.1 h
  refine D.c (whole_Int_Add.cs Hq2) rfl rfl rfl ?_
  refine S.d 1 rfl rfl ?_
  refine D.nil (by kernel_rfl) ?_
  refine X.ret ?_
  cases h
  exact S.R rfl rfl rfl
noncomputable def c68:Code:=Tryz.f68.body.getD .skip
theorem fn68:FnOk Tryz.prog 68 Tryz.f68 c68:=⟨Tryz.func68,rfl,by kernel_rfl,by kernel_rfl,mixed⟩
theorem whole_Int_Cmp.cs {k:Nat} {l0_0:List Int} {a0_1:Bool} {l1_0:List Int} {a1_1:Bool} {r:Int} (h:whole_Int_Cmp.f k l0_0 a0_1 l1_0 a1_1=some r):CS Tryz.prog 68 [.agg [.fi .u64 l0_0, .bool a0_1], .agg [.fi .u64 l1_0, .bool a1_1]] .no [.int .i64 r]:=by
  unfold whole_Int_Cmp.f at h
  refine E.pure fn68 rfl ?_
  refine S.A 3 rfl rfl ?_
  refine S.O 2 rfl rfl ?_
  obtain ⟨q1,Hq1,h⟩:=Option.bind_eq_some_iff.1 h
  refine O.c (whole_Int_Sub.cs Hq1) rfl rfl rfl ?_
  obtain ⟨q2,Hq2,h⟩:=Option.bind_eq_some_iff.1 h
  refine O.c (whole_Int_Sign.cs Hq2) rfl rfl rfl ?_
  refine S.e 1 rfl rfl ?_
  refine X.ret ?_
  cases h
  exact S.R rfl rfl rfl
noncomputable def c24:Code:=Tryz.f24.body.getD .skip
theorem fn24:FnOk Tryz.prog 24 Tryz.f24 c24:=⟨Tryz.func24,rfl,by kernel_rfl,by kernel_rfl,mixed⟩
theorem frac_Frac_Cmp.cs {k:Nat} {l0_0:List Int} {a0_1:Bool} {l0_2:List Int} {l1_0:List Int} {a1_1:Bool} {l1_2:List Int} {r:Int} (h:frac_Frac_Cmp.f k l0_0 a0_1 l0_2 l1_0 a1_1 l1_2=some r):CS Tryz.prog 24 [.agg [.fi .u64 l0_0, .bool a0_1, .fi .u64 l0_2], .agg [.fi .u64 l1_0, .bool a1_1, .fi .u64 l1_2]] .no [.int .i64 r]:=by
  unfold frac_Frac_Cmp.f at h
  refine E.pure fn24 rfl ?_
  refine S.A 3 rfl rfl ?_
  refine S.D 3 rfl rfl ?_
  obtain ⟨q1,Hq1,h⟩:=Option.bind_eq_some_iff.1 h
  refine D.c (frac_Frac_den.cs Hq1) rfl rfl rfl ?_
  obtain ⟨q2,Hq2,h⟩:=Option.bind_eq_some_iff.1 h
  refine D.c (whole_Int_Mul.cs Hq2) rfl rfl rfl ?_
  refine S.d 3 rfl rfl ?_
  obtain ⟨q3,Hq3,h⟩:=Option.bind_eq_some_iff.1 h
  refine D.c (frac_Frac_den.cs Hq3) rfl rfl rfl ?_
  obtain ⟨q4,Hq4,h⟩:=Option.bind_eq_some_iff.1 h
  refine D.c (whole_Int_Mul.cs Hq4) rfl rfl rfl ?_
  obtain ⟨q5,Hq5,h⟩:=Option.bind_eq_some_iff.1 h
  refine D.c (whole_Int_Cmp.cs Hq5) rfl rfl rfl ?_
  refine S.d 1 rfl rfl ?_
  refine D.nil (by kernel_rfl) ?_
  refine X.ret ?_
  cases h
  exact S.R rfl rfl rfl
theorem chattellaw12_SplitSums.j0_e {k y0 y1 y2 y3 y4 y5 y6 y7 y8 y9 r}:(chattellaw12_SplitSums.j0 k y0 y1 y2 y3 y4 y5 y6 y7 y8 y9=some r) = ∃ j,k=j + 1∧chattellaw12_SplitSums.j0 (j + 1) y0 y1 y2 y3 y4 y5 y6 y7 y8 y9=some r:=propext ⟨fun h=>by cases k with|zero=>(unfold chattellaw12_SplitSums.j0 at h;cases h)|succ k=>exact ⟨k,rfl,h⟩,fun ⟨j,hj,h⟩=>by subst hj;exact h⟩
theorem chattellaw12_SplitSums.j2_e {k y0 y1 y2 y3 y4 y5 y6 y7 y8 y9 y10 y11 y12 y13 y14 y15 y16 y17 r}:(chattellaw12_SplitSums.j2 k y0 y1 y2 y3 y4 y5 y6 y7 y8 y9 y10 y11 y12 y13 y14 y15 y16 y17=some r) = ∃ j,k=j + 1∧chattellaw12_SplitSums.j2 (j + 1) y0 y1 y2 y3 y4 y5 y6 y7 y8 y9 y10 y11 y12 y13 y14 y15 y16 y17=some r:=propext ⟨fun h=>by cases k with|zero=>(unfold chattellaw12_SplitSums.j2 at h;cases h)|succ k=>exact ⟨k,rfl,h⟩,fun ⟨j,hj,h⟩=>by subst hj;exact h⟩
noncomputable def c5:Code:=Tryz.f5.body.getD .skip
theorem fn5:FnOk Tryz.prog 5 Tryz.f5 c5:=⟨Tryz.func5,rfl,by kernel_rfl,by kernel_rfl,mixed⟩
theorem chattellaw12_SplitSums.cs {k:Nat} {a0_0:Int} {a0_1:Int} {a0_2:Int} {a0_3:Int} {l0_4:List Int} {l0_5:List Int} {a0_6:Int} {r:Bool} (h:chattellaw12_SplitSums.f k a0_0 a0_1 a0_2 a0_3 l0_4 l0_5 a0_6=some r):CS Tryz.prog 5 [.agg [.int .i64 a0_0, .int .i64 a0_1, .int .i64 a0_2, .int .u16 a0_3, .fi .i16 l0_4, .fi .i16 l0_5, .int .u8 a0_6]] .no [.bool r]:=by
  unfold chattellaw12_SplitSums.f at h
  refine E.pure fn5 rfl ?_
  refine S.A 2 rfl rfl ?_
  refine S.O 1 rfl rfl ?_
  obtain ⟨q1,Hq1,h⟩:=Option.bind_eq_some_iff.1 h
  refine O.puE (v':=.tup [_,_, .os 29 (1) 0 _ true]) (b':=⟨1, .own,_,_⟩) (U.callTV (en:=en28) (ss:=[]) [_,_] [] (.cons (.tmp (v:=.agg _) rfl) .nil) (.cons (.cl (.aggL (.cons .int (.cons .int (.cons .int (.cons .int (.cons .fi (.cons .fi (.cons .int .nil))))))))) .nil) (chattellaw12_Time_make.cs Hq1) (fun _=>.aggL (.cons .int (.cons .int (.cons .int .nil)))) (fun _=>.aggL (.cons .int (.cons .int (.cons .int .nil)))) (FlL.cons (.aggL (.cons .int (.cons .int (.cons .int .nil)))) (FlL.cons (.aggL (.cons .int (.cons .int (.cons .int .nil)))) FlL.nil)) FlL.nil) rfl rfl ?_
  refine S.e 9 rfl rfl ?_
  refine S.O 3 rfl rfl ?_
  obtain ⟨q2,Hq2,h⟩:=Option.bind_eq_some_iff.1 h
  refine O.ef (U.callZ (ss:=[29]) (.cons (.tmp (v:=.agg _) rfl) (.cons (.tmp (v:=.agg _) rfl) (.cons (.tmp (v:=.os _ _ _ _ _) rfl) .nil))) (.cons (.cl (.aggL (.cons .int (.cons .int (.cons .int .nil))))) (.cons (.cl (.aggL (.cons .int (.cons .int (.cons .int .nil))))) (.cons (.osVf (by simp) rfl (Mode.live_ne rfl) rfl (ClL.map fun _=>.aggL (.cons .int (.cons .int (.cons .int .nil)))) (by first|rfl|(simp only [List.length_map,List.length_append,List.length_cons,List.length_nil] at *;done)|(simp only [List.length_map,List.length_append,List.length_cons,List.length_nil] at *;omega))) .nil))) (split_Parts.cs Hq2) (.tupL (.cons (.fv (ClL.map fun _=>.aggL (.cons .int (.cons .int (.cons .int (.cons .int (.cons .int (.cons .int .nil)))))))) (.cons .int .nil))) (nowin rfl)) ?_
  refine S.e 5 rfl rfl ?_
  refine S.O 3 rfl rfl ?_
  obtain ⟨q3,Hq3,h⟩:=Option.bind_eq_some_iff.1 h
  refine O.ef (U.callZ (ss:=[29]) (.cons (.tmp (v:=.agg _) rfl) (.cons (.tmp (v:=.agg _) rfl) (.cons (.tmp (v:=.os _ _ _ _ _) rfl) .nil))) (.cons (.cl (.aggL (.cons .int (.cons .int (.cons .int .nil))))) (.cons (.cl (.aggL (.cons .int (.cons .int (.cons .int .nil))))) (.cons (.osVf (by simp) rfl (Mode.live_ne rfl) rfl (ClL.map fun _=>.aggL (.cons .int (.cons .int (.cons .int .nil)))) (by first|rfl|(simp only [List.length_map,List.length_append,List.length_cons,List.length_nil] at *;done)|(simp only [List.length_map,List.length_append,List.length_cons,List.length_nil] at *;omega))) .nil))) (chattelref12_Parts.cs Hq3) (.tupL (.cons (.fv (ClL.map fun _=>.aggL (.cons .int (.cons .int (.cons .int (.cons .int (.cons .int (.cons .int .nil)))))))) (.cons .int .nil))) (nowin rfl)) ?_
  refine S.e 5 rfl rfl ?_
  refine X.seq ?_
  refine X.seq ?_
  refine X.still ?_
  obtain ⟨q4,Hq4,h⟩:=Option.bind_eq_some_iff.1 h
  refine O.c (chattellaw12_wakes.cs Hq4) rfl rfl rfl ?_
  refine S.r 2 rfl rfl ?_
  refine O.splitNot (fun c=>?_) (fun c=>?_)
  · rw [if_neg (bf c)] at h
    refine S.e 10 rfl rfl ?_
    repeat (rw [chattellaw12_SplitSums.j0_e] at h;obtain ⟨k,_,h⟩:=h;unfold chattellaw12_SplitSums.j0 at h;try dsimp only at h)
    rw [if_pos rfl] at h
    refine X.condT (.tmp rfl) ?_
    refine S.A 1 rfl rfl ?_
    refine X.ret ?_
    cases h
    exact S.R rfl rfl rfl
  · rw [if_pos c] at h
    refine S.r 4 rfl rfl ?_
    refine O.splitN (fun c=>?_) (fun c=>?_)
    · rw [if_neg c] at h
      refine S.e 6 rfl rfl ?_
      repeat (rw [chattellaw12_SplitSums.j0_e] at h;obtain ⟨k,_,h⟩:=h;unfold chattellaw12_SplitSums.j0 at h;try dsimp only at h)
      rw [if_pos rfl] at h
      refine X.condT (.tmp rfl) ?_
      refine S.A 1 rfl rfl ?_
      refine X.ret ?_
      cases h
      exact S.R rfl rfl rfl
    · rw [if_pos c] at h
      refine S.r 1 rfl rfl ?_
      refine G.pu (W.t rfl rfl) (U.lenS rfl (.tmp rfl)) ?_
      refine S.r 1 rfl rfl ?_
      refine G.pu (W.t rfl rfl) (U.lenS rfl (.tmp rfl)) ?_
      refine S.e 2 rfl rfl ?_
      repeat (rw [chattellaw12_SplitSums.j0_e] at h;obtain ⟨k,_,h⟩:=h;unfold chattellaw12_SplitSums.j0 at h;try dsimp only at h)
      refine X.condN (.tmp rfl) (fun c=>?_) (fun c=>?_)
      · rw [if_pos (ne1 c)] at h
        refine S.A 1 rfl rfl ?_
        refine X.ret ?_
        cases h
        exact S.R rfl rfl rfl
      · rw [if_neg (ne0 c)] at h
        refine X.skip ?_
        refine S.O 2 rfl rfl ?_
        refine O.pu (Pu.bin (.tmp rfl) .int (.rem (by omega))) ?_
        refine S.e 2 rfl rfl ?_
        refine X.seq ?_
        refine X.still ?_
        refine O.ef (U.nilOE (u:=1) (row:=.vals (List.map en49 [])) (e:=49) rfl rfl) ?_
        refine O.ef (U.nilOE (u:=1) (row:=.vals (List.map en49 [])) (e:=49) rfl rfl) ?_
        refine O.nil ?_
        refine X.seq ?_
        refine X.still ?_
        refine O.ef (U.nilOE (u:=1) (row:=.vals (List.map en71 [])) (e:=71) rfl rfl) ?_
        refine O.nil ?_
        refine X.seq ?_
        refine X.still ?_
        obtain ⟨q5,Hq5,h⟩:=Option.bind_eq_some_iff.1 h
        refine O.c (whole_From.cs Hq5) rfl rfl rfl ?_
        refine S.e 2 rfl rfl ?_
        refine X.seq ?_
        refine S.O 1 rfl rfl ?_
        refine O.pu (U.lenS rfl (.tmp rfl)) ?_
        refine S.e 1 rfl rfl ?_
        refine X.block ?_
        refine X.inv (fun k s=>∃ x6 x8 x10 x11 x12 x13 x66 x67 x1507000 x1507001 x1507002 x1507003 x1507004 x1507005 x1507006 x1532000 x1532001 n11 n12 n13 u1 u11 u12 u13 u14 u3 u4 z3_0 z3_1 z3_2 z4_0 z4_1 z4_2,s.t 6 = .fv (List.map en55 x6)∧s.t 8 = .fv (List.map en91 x8)∧s.t 10 = .int .i64 x10∧s.b 11=⟨u11, .own, .vals (List.map en49 x11),49⟩∧s.t 11 = .os 11 u11 0 n11 true∧x11.length=n11∧s.b 12=⟨u12, .own, .vals (List.map en49 x12),49⟩∧s.t 12 = .os 12 u12 0 n12 true∧x12.length=n12∧s.b 13=⟨u13, .own, .vals (List.map en71 x13),71⟩∧s.t 13 = .os 13 u13 0 n13 true∧x13.length=n13∧s.t 66 = .int .i64 x66∧s.t 67 = .int .i64 x67∧s.t 1 = .op 1 u1 0 0∧s.b 1=⟨u1, .own, .vals [.agg [.int .i64 x1507000, .int .i64 x1507001, .int .i64 x1507002, .int .u16 x1507003, .fi .i16 x1507004, .fi .i16 x1507005, .int .u8 x1507006]],26⟩∧s.t 3 = .op 3 u3 0 0∧s.b 3=⟨u3, .own, .vals [.agg [.int .i64 z3_0, .int .i64 z3_1, .int .i64 z3_2]],28⟩∧s.t 4 = .op 4 u4 0 0∧s.b 4=⟨u4, .own, .vals [.agg [.int .i64 z4_0, .int .i64 z4_1, .int .i64 z4_2]],28⟩∧s.t 14 = .op 14 u14 0 0∧s.b 14=⟨u14, .own, .vals [.agg [.fi .u64 x1532000, .bool x1532001]],47⟩∧chattellaw12_SplitSums.l0 k x6 x8 x10 x11 x12 x13 x66 x67 x1507000 x1507001 x1507002 x1507003 x1507004 x1507005 x1507006 x1532000 x1532001=some r) ?_ ?_ ⟨_,_,_,_,_,_,_,_,_,_,_,_,_,_,_,_,_,_,_,_,_,_,_,_,_,_,_,_,_,_,_,_,_,rfl,rfl,rfl,rfl,rfl,rfl,rfl,rfl,rfl,rfl,rfl,rfl,rfl,rfl,rfl,rfl,rfl,rfl,rfl,rfl,rfl,rfl,h⟩
        · rintro s ⟨_,_,_,_,_,_,_,_,_,_,_,_,_,_,_,_,_,_,_,_,_,_,_,_,_,_,_,_,_,_,_,_,_,_,_,_,_,_,_,_,_,_,_,_,_,_,_,_,_,_,_,_,_,_,_,h⟩;unfold chattellaw12_SplitSums.l0 at h;cases h
        · rintro k1 s1 ⟨x6,x8,x10,x11,x12,x13,x66,x67,x1507000,x1507001,x1507002,x1507003,x1507004,x1507005,x1507006,x1532000,x1532001,n11,n12,n13,u1,u11,u12,u13,u14,u3,u4,z3_0,z3_1,z3_2,z4_0,z4_1,z4_2,e0,e1,e2,e3,e4,rfl,e6,e7,rfl,e9,e10,rfl,e12,e13,e14,e15,e16,e17,e18,e19,e20,e21,h⟩
          unfold chattellaw12_SplitSums.l0 at h
          rw [St.fixT e0,St.fixT e1,St.fixT e2,St.fixB e3,St.fixT e4,St.fixB e6,St.fixT e7,St.fixB e9,St.fixT e10,St.fixT e12,St.fixT e13,St.fixT e14,St.fixB e15,St.fixT e16,St.fixB e17,St.fixT e18,St.fixB e19,St.fixT e20,St.fixB e21]
          refine S.A 1 rfl rfl ?_
          refine X.seq ?_
          refine X.condP (.tmp rfl) (fun c=>?_) (fun c=>?_)
          · rw [if_pos c] at h
            refine X.skip ?_
            refine X.seq ?_
            refine X.block ?_
            refine S.A 2 rfl rfl ?_
            refine S.A 2 rfl rfl ?_
            refine X.seq ?_
            refine S.O 3 rfl rfl ?_
            refine O.pu (Pu.lenI rfl (.tmp rfl)) ?_
            refine S.e 1 rfl rfl ?_
            refine X.condP (.tmp rfl) (fun c=>?_) (fun c=>?_)
            · rw [if_pos c] at h
              refine X.still ?_
              refine S.r 3 rfl rfl ?_
              repeat first|(rw [giff] at h;obtain ⟨_,h⟩:=h)|(rw [chattellaw12_SplitSums.j2_e] at h;obtain ⟨k,_,h⟩:=h;unfold chattellaw12_SplitSums.j2 at h;try dsimp only at h)
              refine O.pu (U.rdI rfl rfl (.tmp rfl) (.tmp rfl) (by omega) (by omega)) ?_
              refine S.e 3 rfl rfl ?_
              refine S.O 1 rfl rfl ?_
              obtain ⟨q6,Hq6,h⟩:=Option.bind_eq_some_iff.1 h
              refine O.c (whole_From.cs Hq6) rfl rfl rfl ?_
              obtain ⟨q7,Hq7,h⟩:=Option.bind_eq_some_iff.1 h
              refine O.c (whole_From.cs Hq7) rfl rfl rfl ?_
              obtain ⟨q8,Hq8,h⟩:=Option.bind_eq_some_iff.1 h
              refine O.c (frac_Of.cs Hq8) rfl rfl rfl ?_
              refine S.e 6 rfl rfl ?_
              refine X.drawn ?_
              refine S.d 2 rfl rfl ?_
              refine D.puE (v':=.os 91 ((s1.b 91).ver + 1) 0 _ true) (b':=⟨(s1.b 91).ver + 1, .own,_,_⟩) (U.litS (en:=en49) (l:=[⟨⟨⟨_⟩,_⟩,⟨_⟩⟩]) rfl (.cons (.tmp (v:=.agg _) rfl) rfl .nil) rfl rfl rfl (fun _=>rfl)) rfl rfl ?_
              repeat (rw [giff] at h;obtain ⟨_,h⟩:=h)
              refine D.ef (C.appendSE (en:=en49) (u':=(s1.b 92).ver + 1) rfl (.tmp rfl) rfl (by first|rfl|(simp only [List.length_append,List.length_cons,List.length_nil] at *;omega)) (.tmp rfl) (.osVf (List.mem_singleton.2 rfl) rfl (Mode.live_ne rfl) rfl (ClL.map fun _=>.aggL (.cons .fi (.cons .bool (.cons .fi .nil)))) (by simp)) rfl (fun _=>⟨rfl,rfl⟩) (by simp only [maxLen,List.length_cons,List.length_nil];omega) (by simp only [List.length_cons,List.length_nil];omega) rfl) ?_
              refine S.d 2 rfl rfl ?_
              obtain ⟨q9,Hq9,h⟩:=Option.bind_eq_some_iff.1 h
              refine D.c (frac_From.cs Hq9) rfl rfl rfl ?_
              refine D.puE (v':=.os 96 ((s1.b 96).ver + 1) 0 _ true) (b':=⟨(s1.b 96).ver + 1, .own,_,_⟩) (U.litS (en:=en49) (l:=[⟨⟨⟨_⟩,_⟩,⟨_⟩⟩]) rfl (.cons (.tmp (v:=.agg _) rfl) rfl .nil) rfl rfl rfl (fun _=>rfl)) rfl rfl ?_
              repeat (rw [giff] at h;obtain ⟨_,h⟩:=h)
              refine D.ef (C.appendSE (en:=en49) (u':=(s1.b 97).ver + 1) rfl (.tmp rfl) rfl (by first|rfl|(simp only [List.length_append,List.length_cons,List.length_nil] at *;omega)) (.tmp rfl) (.osVf (List.mem_singleton.2 rfl) rfl (Mode.live_ne rfl) rfl (ClL.map fun _=>.aggL (.cons .fi (.cons .bool (.cons .fi .nil)))) (by simp)) rfl (fun _=>⟨rfl,rfl⟩) (by simp only [maxLen,List.length_cons,List.length_nil];omega) (by simp only [List.length_cons,List.length_nil];omega) rfl) ?_
              refine S.d 2 rfl rfl ?_
              obtain ⟨q10,Hq10,h⟩:=Option.bind_eq_some_iff.1 h
              refine D.c (chattelref05_Small.cs Hq10) rfl rfl rfl ?_
              refine D.puE (v':=.os 101 ((s1.b 101).ver + 1) 0 _ true) (b':=⟨(s1.b 101).ver + 1, .own,_,_⟩) (U.litS (en:=en71) (l:=[⟨⟨_,_⟩,_⟩]) rfl (.cons (.tmp (v:=.agg _) rfl) rfl .nil) rfl rfl rfl (fun _=>rfl)) rfl rfl ?_
              repeat (rw [giff] at h;obtain ⟨_,h⟩:=h)
              refine D.ef (C.appendSE (en:=en71) (u':=(s1.b 102).ver + 1) rfl (.tmp rfl) rfl (by first|rfl|(simp only [List.length_append,List.length_cons,List.length_nil] at *;omega)) (.tmp rfl) (.osVf (List.mem_singleton.2 rfl) rfl (Mode.live_ne rfl) rfl (ClL.map fun _=>.aggL (.cons .fi (.cons .bool (.cons .fi .nil)))) (by simp)) rfl (fun _=>⟨rfl,rfl⟩) (by simp only [maxLen,List.length_cons,List.length_nil];omega) (by simp only [List.length_cons,List.length_nil];omega) rfl) ?_
              refine D.ef (C.takeE (u':=u11 + 1) (.tmp rfl) rfl (ne_of_beq rfl) rfl) ?_
              refine D.ef (C.takeE (u':=u12 + 1) (.tmp rfl) rfl (ne_of_beq rfl) rfl) ?_
              refine D.ef (C.takeE (u':=u13 + 1) (.tmp rfl) rfl (ne_of_beq rfl) rfl) ?_
              refine D.nil (by kernel_rfl) ?_
              refine X.still ?_
              refine S.e 2 rfl rfl ?_
              exact ⟨_,(by omega),_,_,_,_,_,_,_,_,_,_,_,_,_,_,_,_,_,_,_,_,_,_,_,_,_,_,_,_,_,_,_,_,_,rfl,rfl,rfl,rfl,rfl,(by first|rfl|(simp only [List.length_set];done)|(simp only [List.length_drop,List.length_take,List.length_append,List.length_set] at *;omega)),rfl,rfl,(by first|rfl|(simp only [List.length_set];done)|(simp only [List.length_drop,List.length_take,List.length_append,List.length_set] at *;omega)),rfl,rfl,(by first|rfl|(simp only [List.length_set];done)|(simp only [List.length_drop,List.length_take,List.length_append,List.length_set] at *;omega)),rfl,rfl,rfl,rfl,rfl,rfl,rfl,rfl,rfl,rfl,h⟩
            · rw [if_neg c] at h
              refine X.skip ?_
              refine S.O 1 rfl rfl ?_
              repeat (rw [chattellaw12_SplitSums.j2_e] at h;obtain ⟨k,_,h⟩:=h;unfold chattellaw12_SplitSums.j2 at h;try dsimp only at h)
              obtain ⟨q11,Hq11,h⟩:=Option.bind_eq_some_iff.1 h
              refine O.c (whole_From.cs Hq11) rfl rfl rfl ?_
              obtain ⟨q12,Hq12,h⟩:=Option.bind_eq_some_iff.1 h
              refine O.c (whole_From.cs Hq12) rfl rfl rfl ?_
              obtain ⟨q13,Hq13,h⟩:=Option.bind_eq_some_iff.1 h
              refine O.c (frac_Of.cs Hq13) rfl rfl rfl ?_
              refine S.e 6 rfl rfl ?_
              refine X.drawn ?_
              refine S.d 2 rfl rfl ?_
              refine D.puE (v':=.os 91 ((s1.b 91).ver + 1) 0 _ true) (b':=⟨(s1.b 91).ver + 1, .own,_,_⟩) (U.litS (en:=en49) (l:=[⟨⟨⟨_⟩,_⟩,⟨_⟩⟩]) rfl (.cons (.tmp (v:=.agg _) rfl) rfl .nil) rfl rfl rfl (fun _=>rfl)) rfl rfl ?_
              repeat (rw [giff] at h;obtain ⟨_,h⟩:=h)
              refine D.ef (C.appendSE (en:=en49) (u':=(s1.b 92).ver + 1) rfl (.tmp rfl) rfl (by first|rfl|(simp only [List.length_append,List.length_cons,List.length_nil] at *;omega)) (.tmp rfl) (.osVf (List.mem_singleton.2 rfl) rfl (Mode.live_ne rfl) rfl (ClL.map fun _=>.aggL (.cons .fi (.cons .bool (.cons .fi .nil)))) (by simp)) rfl (fun _=>⟨rfl,rfl⟩) (by simp only [maxLen,List.length_cons,List.length_nil];omega) (by simp only [List.length_cons,List.length_nil];omega) rfl) ?_
              refine S.d 2 rfl rfl ?_
              obtain ⟨q14,Hq14,h⟩:=Option.bind_eq_some_iff.1 h
              refine D.c (frac_From.cs Hq14) rfl rfl rfl ?_
              refine D.puE (v':=.os 96 ((s1.b 96).ver + 1) 0 _ true) (b':=⟨(s1.b 96).ver + 1, .own,_,_⟩) (U.litS (en:=en49) (l:=[⟨⟨⟨_⟩,_⟩,⟨_⟩⟩]) rfl (.cons (.tmp (v:=.agg _) rfl) rfl .nil) rfl rfl rfl (fun _=>rfl)) rfl rfl ?_
              repeat (rw [giff] at h;obtain ⟨_,h⟩:=h)
              refine D.ef (C.appendSE (en:=en49) (u':=(s1.b 97).ver + 1) rfl (.tmp rfl) rfl (by first|rfl|(simp only [List.length_append,List.length_cons,List.length_nil] at *;omega)) (.tmp rfl) (.osVf (List.mem_singleton.2 rfl) rfl (Mode.live_ne rfl) rfl (ClL.map fun _=>.aggL (.cons .fi (.cons .bool (.cons .fi .nil)))) (by simp)) rfl (fun _=>⟨rfl,rfl⟩) (by simp only [maxLen,List.length_cons,List.length_nil];omega) (by simp only [List.length_cons,List.length_nil];omega) rfl) ?_
              refine S.d 2 rfl rfl ?_
              obtain ⟨q15,Hq15,h⟩:=Option.bind_eq_some_iff.1 h
              refine D.c (chattelref05_Small.cs Hq15) rfl rfl rfl ?_
              refine D.puE (v':=.os 101 ((s1.b 101).ver + 1) 0 _ true) (b':=⟨(s1.b 101).ver + 1, .own,_,_⟩) (U.litS (en:=en71) (l:=[⟨⟨_,_⟩,_⟩]) rfl (.cons (.tmp (v:=.agg _) rfl) rfl .nil) rfl rfl rfl (fun _=>rfl)) rfl rfl ?_
              repeat (rw [giff] at h;obtain ⟨_,h⟩:=h)
              refine D.ef (C.appendSE (en:=en71) (u':=(s1.b 102).ver + 1) rfl (.tmp rfl) rfl (by first|rfl|(simp only [List.length_append,List.length_cons,List.length_nil] at *;omega)) (.tmp rfl) (.osVf (List.mem_singleton.2 rfl) rfl (Mode.live_ne rfl) rfl (ClL.map fun _=>.aggL (.cons .fi (.cons .bool (.cons .fi .nil)))) (by simp)) rfl (fun _=>⟨rfl,rfl⟩) (by simp only [maxLen,List.length_cons,List.length_nil];omega) (by simp only [List.length_cons,List.length_nil];omega) rfl) ?_
              refine D.ef (C.takeE (u':=u11 + 1) (.tmp rfl) rfl (ne_of_beq rfl) rfl) ?_
              refine D.ef (C.takeE (u':=u12 + 1) (.tmp rfl) rfl (ne_of_beq rfl) rfl) ?_
              refine D.ef (C.takeE (u':=u13 + 1) (.tmp rfl) rfl (ne_of_beq rfl) rfl) ?_
              refine D.nil (by kernel_rfl) ?_
              refine X.still ?_
              refine S.e 2 rfl rfl ?_
              exact ⟨_,(by omega),_,_,_,_,_,_,_,_,_,_,_,_,_,_,_,_,_,_,_,_,_,_,_,_,_,_,_,_,_,_,_,_,_,rfl,rfl,rfl,rfl,rfl,(by first|rfl|(simp only [List.length_set];done)|(simp only [List.length_drop,List.length_take,List.length_append,List.length_set] at *;omega)),rfl,rfl,(by first|rfl|(simp only [List.length_set];done)|(simp only [List.length_drop,List.length_take,List.length_append,List.length_set] at *;omega)),rfl,rfl,(by first|rfl|(simp only [List.length_set];done)|(simp only [List.length_drop,List.length_take,List.length_append,List.length_set] at *;omega)),rfl,rfl,rfl,rfl,rfl,rfl,rfl,rfl,rfl,rfl,h⟩
          · rw [if_neg c] at h
            refine X.exit (B.out ?_)
            refine S.O 3 rfl rfl ?_
            obtain ⟨q16,Hq16,h⟩:=Option.bind_eq_some_iff.1 h
            refine O.pu (U.callN (ss:=[11]) (.cons (.tmp (v:=.int _ _) rfl) (.cons (.tmp (v:=.fv _) rfl) (.cons (.tmp (v:=.os _ _ _ _ _) rfl) .nil))) (.cons (.cl .int) (.cons (.cl (.fv (ClL.map fun _=>.aggL (.cons .int (.cons .int (.cons .int (.cons .int (.cons .int (.cons .int .nil))))))))) (.cons (.osVf (by simp) rfl (Mode.live_ne rfl) rfl (ClL.map fun _=>.aggL (.cons .fi (.cons .bool (.cons .fi .nil)))) (by first|rfl|(simp only [List.length_map,List.length_append,List.length_cons,List.length_nil] at *;done)|(simp only [List.length_map,List.length_append,List.length_cons,List.length_nil] at *;omega))) .nil))) (split_Weighted.cs Hq16) (NoI.one rfl (by kernel_rfl) fun _=>⟨rfl,rfl⟩) (.tupL (.cons (.aggL (.cons .fi (.cons .bool (.cons .fi .nil)))) (.cons .int .nil)))) ?_
            refine S.e 6 rfl rfl ?_
            refine S.O 3 rfl rfl ?_
            obtain ⟨q17,Hq17,h⟩:=Option.bind_eq_some_iff.1 h
            refine O.pu (U.callN (ss:=[12]) (.cons (.tmp (v:=.int _ _) rfl) (.cons (.tmp (v:=.fv _) rfl) (.cons (.tmp (v:=.os _ _ _ _ _) rfl) .nil))) (.cons (.cl .int) (.cons (.cl (.fv (ClL.map fun _=>.aggL (.cons .int (.cons .int (.cons .int (.cons .int (.cons .int (.cons .int .nil))))))))) (.cons (.osVf (by simp) rfl (Mode.live_ne rfl) rfl (ClL.map fun _=>.aggL (.cons .fi (.cons .bool (.cons .fi .nil)))) (by first|rfl|(simp only [List.length_map,List.length_append,List.length_cons,List.length_nil] at *;done)|(simp only [List.length_map,List.length_append,List.length_cons,List.length_nil] at *;omega))) .nil))) (split_Weighted.cs Hq17) (NoI.one rfl (by kernel_rfl) fun _=>⟨rfl,rfl⟩) (.tupL (.cons (.aggL (.cons .fi (.cons .bool (.cons .fi .nil)))) (.cons .int .nil)))) ?_
            refine S.e 6 rfl rfl ?_
            refine S.O 2 rfl rfl ?_
            obtain ⟨q18,Hq18,h⟩:=Option.bind_eq_some_iff.1 h
            refine O.pu (U.call (ss:=[]) (.cons (.tmp (v:=.int _ _) rfl) (.cons (.tmp (v:=.fv _) rfl) .nil)) (.cons (.cl .int) (.cons (.cl (.fv (ClL.map fun _=>.aggL (.cons .int (.cons .int (.cons .int (.cons .int (.cons .int (.cons .int .nil))))))))) .nil)) (split_Years.cs Hq18) (.inl rfl) (.tupL (.cons (.aggL (.cons .fi (.cons .bool (.cons .fi .nil)))) (.cons .int .nil)))) ?_
            refine S.e 6 rfl rfl ?_
            refine S.O 4 rfl rfl ?_
            refine O.puE (v':=.os 129 ((s1.b 129).ver + 1) 0 _ true) (b':=⟨(s1.b 129).ver + 1, .own,_,_⟩) (U.litS (en:=en49) (l:=[⟨⟨⟨_⟩,_⟩,⟨_⟩⟩]) rfl (.cons (.tmp (v:=.agg _) rfl) rfl .nil) rfl rfl rfl (fun _=>rfl)) rfl rfl ?_
            repeat (rw [giff] at h;obtain ⟨_,h⟩:=h)
            refine O.ef (U.appendSE (en:=en49) (u':=(s1.b 130).ver + 1) rfl (.tmp rfl) rfl (by first|rfl|(simp only [List.length_append,List.length_cons,List.length_nil] at *;omega)) (.tmp rfl) (.osVf (List.mem_singleton.2 rfl) rfl (Mode.live_ne rfl) rfl (ClL.map fun _=>.aggL (.cons .fi (.cons .bool (.cons .fi .nil)))) (by simp)) rfl (fun _=>⟨rfl,rfl⟩) (by simp only [maxLen,List.length_cons,List.length_nil];omega) (by simp only [List.length_cons,List.length_nil];omega) rfl) ?_
            obtain ⟨q19,Hq19,h⟩:=Option.bind_eq_some_iff.1 h
            refine O.pu (U.callN (ss:=[130]) (.cons (.tmp (v:=.int _ _) rfl) (.cons (.tmp (v:=.fv _) rfl) (.cons (.tmp (v:=.os _ _ _ _ _) rfl) .nil))) (.cons (.cl .int) (.cons (.cl (.fv (ClL.map fun _=>.aggL (.cons .int (.cons .int (.cons .int (.cons .int (.cons .int (.cons .int .nil))))))))) (.cons (.osVf (by simp) rfl (Mode.live_ne rfl) rfl (ClL.map fun _=>.aggL (.cons .fi (.cons .bool (.cons .fi .nil)))) (by first|rfl|(simp only [List.length_map,List.length_append,List.length_cons,List.length_nil] at *;done)|(simp only [List.length_map,List.length_append,List.length_cons,List.length_nil] at *;omega))) .nil))) (split_Weighted.cs Hq19) (NoI.one rfl (by kernel_rfl) fun _=>⟨rfl,rfl⟩) (.tupL (.cons (.aggL (.cons .fi (.cons .bool (.cons .fi .nil)))) (.cons .int .nil)))) ?_
            refine S.e 6 rfl rfl ?_
            refine S.D 3 rfl rfl ?_
            refine D.splitE (fun c=>?_) (fun c=>?_)
            · rw [if_pos c] at h
              refine S.d 4 rfl rfl ?_
              refine D.splitE (fun c=>?_) (fun c=>?_)
              · rw [if_pos c] at h
                refine S.d 4 rfl rfl ?_
                refine D.splitE (fun c=>?_) (fun c=>?_)
                · rw [if_pos c] at h
                  refine S.d 4 rfl rfl ?_
                  refine D.splitE (fun c=>?_) (fun c=>?_)
                  · rw [if_pos c] at h
                    refine S.d 1 rfl rfl ?_
                    obtain ⟨q20,Hq20,h⟩:=Option.bind_eq_some_iff.1 h
                    refine D.gpu (W.t rfl rfl) (U.call (ss:=[]) (.cons (.tmp (v:=.agg _) rfl) .nil) (.cons (.cl (.aggL (.cons .fi (.cons .bool (.cons .fi .nil))))) .nil) (frac_Frac_Print.cs Hq20) (.inl rfl) (.str)) ?_
                    refine S.d 3 rfl rfl ?_
                    obtain ⟨q21,Hq21,h⟩:=Option.bind_eq_some_iff.1 h
                    refine D.gef (W.t rfl rfl) (C.callZ (ss:=[13]) (.cons (.tmp (v:=.int _ _) rfl) (.cons (.tmp (v:=.fv _) rfl) (.cons (.tmp (v:=.os _ _ _ _ _) rfl) .nil))) (.cons (.cl .int) (.cons (.cl (.fv (ClL.map fun _=>.aggL (.cons .int (.cons .int (.cons .int (.cons .int (.cons .int (.cons .int .nil))))))))) (.cons (.osVf (by simp) rfl (Mode.live_ne rfl) rfl (ClL.map fun _=>.aggL (.cons .fi (.cons .bool (.cons .fi .nil)))) (by first|rfl|(simp only [List.length_map,List.length_append,List.length_cons,List.length_nil] at *;done)|(simp only [List.length_map,List.length_append,List.length_cons,List.length_nil] at *;omega))) .nil))) (chattelref12_Weighted.cs Hq21) (.aggL (.cons .fi (.cons .bool (.cons .fi .nil)))) (nowin rfl)) ?_
                    obtain ⟨q22,Hq22,h⟩:=Option.bind_eq_some_iff.1 h
                    refine D.gpu (W.t rfl rfl) (U.call (ss:=[]) (.cons (.tmp (v:=.agg _) rfl) .nil) (.cons (.cl (.aggL (.cons .fi (.cons .bool (.cons .fi .nil))))) .nil) (chattelref05_Print.cs Hq22) (.inl rfl) (.str)) ?_
                    refine S.d 3 rfl rfl ?_
                    refine D.splitS rfl (fun c=>?_) (fun c=>?_)
                    · rw [if_pos c] at h
                      refine S.d 3 rfl rfl ?_
                      obtain ⟨q23,Hq23,h⟩:=Option.bind_eq_some_iff.1 h
                      refine D.gpu (W.t rfl rfl) (U.call (ss:=[]) (.cons (.tmp (v:=.agg _) rfl) .nil) (.cons (.cl (.aggL (.cons .fi (.cons .bool .nil)))) .nil) (frac_From.cs Hq23) (.inl rfl) (.aggL (.cons .fi (.cons .bool (.cons .fi .nil))))) ?_
                      obtain ⟨q24,Hq24,h⟩:=Option.bind_eq_some_iff.1 h
                      refine D.gpu (W.t rfl rfl) (U.call (ss:=[]) (.cons (.tmp (v:=.agg _) rfl) (.cons (.tmp (v:=.agg _) rfl) .nil)) (.cons (.cl (.aggL (.cons .fi (.cons .bool (.cons .fi .nil))))) (.cons (.cl (.aggL (.cons .fi (.cons .bool (.cons .fi .nil))))) .nil)) (frac_Frac_Mul.cs Hq24) (.inl rfl) (.aggL (.cons .fi (.cons .bool (.cons .fi .nil))))) ?_
                      obtain ⟨q25,Hq25,h⟩:=Option.bind_eq_some_iff.1 h
                      refine D.gpu (W.t rfl rfl) (U.call (ss:=[]) (.cons (.tmp (v:=.agg _) rfl) (.cons (.tmp (v:=.agg _) rfl) .nil)) (.cons (.cl (.aggL (.cons .fi (.cons .bool (.cons .fi .nil))))) (.cons (.cl (.aggL (.cons .fi (.cons .bool (.cons .fi .nil))))) .nil)) (frac_Frac_Cmp.cs Hq25) (.inl rfl) (.int)) ?_
                      refine S.d 3 rfl rfl ?_
                      refine D.nil (by kernel_rfl) ?_
                      refine X.ret ?_
                      cases h
                      exact S.R rfl rfl rfl
                    · rw [if_neg c] at h
                      refine S.d 9 rfl rfl ?_
                      refine D.nil (by kernel_rfl) ?_
                      refine X.ret ?_
                      cases h
                      exact S.R rfl rfl rfl
                  · rw [if_neg c] at h
                    refine S.d 19 rfl rfl ?_
                    refine D.nil (by kernel_rfl) ?_
                    refine X.ret ?_
                    cases h
                    exact S.R rfl rfl rfl
                · rw [if_neg c] at h
                  refine S.d 23 rfl rfl ?_
                  refine D.nil (by kernel_rfl) ?_
                  refine X.ret ?_
                  cases h
                  exact S.R rfl rfl rfl
              · rw [if_neg c] at h
                refine S.d 27 rfl rfl ?_
                refine D.nil (by kernel_rfl) ?_
                refine X.ret ?_
                cases h
                exact S.R rfl rfl rfl
            · rw [if_neg c] at h
              refine S.d 31 rfl rfl ?_
              refine D.nil (by kernel_rfl) ?_
              refine X.ret ?_
              cases h
              exact S.R rfl rfl rfl
end Go.Proofs.YtakidmbnkkhojaaGreat
end
