-- Joined of: G31 G7
import Derived.Test.YtakidmbnkkhojaaGreatC942JG2
import Derived.Test.YtakidmbnkkhojaaGreatC942Sp15
import Derived.Test.YtakidmbnkkhojaaGreatC942Sp19
import Derived.Test.YtakidmbnkkhojaaGreatC942JG3
import Derived.Test.YtakidmbnkkhojaaGreatC942S7
import Derived.Test.YtakidmbnkkhojaaGreatC942Sp20
section
namespace Go.Proofs.YtakidmbnkkhojaaGreat
open Go.AVL Go.RowKit Go.Proofs.YtakidmbnkkhojaaGreat.F Go.Proofs.YtakidmbnkkhojaaGreatX Go.Proofs.YtakidmbnkkhojaaGreatW.PrintWords Go.Proofs.YtakidmbnkkhojaaGreatW.PrintLast Go.Proofs.YtakidmbnkkhojaaGreatW.PrintMore
set_option linter.unusedVariables false
set_option linter.unusedSimpArgs false
set_option maxRecDepth 100000
set_option maxHeartbeats 16000000
noncomputable def c31:Code:=Tryz.f31.body.getD .skip
theorem fn31:FnOk Tryz.prog 31 Tryz.f31 c31:=⟨Tryz.func31,rfl,by kernel_rfl,by kernel_rfl,mixed⟩
theorem split_Part.cs {k:Nat} {l0:List (S55)} {l1:List (S55)} {r:Bool} (h:split_Part.f k l0 l1=some r):CS Tryz.prog 31 [.fv (List.map en55 l0), .fv (List.map en55 l1)] .no [.bool r]:=by
  unfold split_Part.f at h
  refine E.pure fn31 rfl ?_
  refine S.A 1 rfl rfl ?_
  refine X.seq ?_
  refine S.O 1 rfl rfl ?_
  refine O.pu (U.lenS rfl (.tmp rfl)) ?_
  refine S.r 1 rfl rfl ?_
  refine O.pu (U.lenS rfl (.tmp rfl)) ?_
  refine S.e 1 rfl rfl ?_
  refine X.condN (.tmp rfl) (fun c=>?_) (fun c=>?_)
  · rw [if_neg c] at h
    refine S.A 1 rfl rfl ?_
    refine X.ret ?_
    cases h
    exact S.R rfl rfl rfl
  · rw [if_pos c] at h
    refine X.skip ?_
    refine X.seq ?_
    refine S.O 1 rfl rfl ?_
    refine O.pu (U.lenS rfl (.tmp rfl)) ?_
    refine S.e 1 rfl rfl ?_
    refine X.block ?_
    refine X.inv (fun k s=>∃ x0 x1 x12 x13,s.t 0 = .fv (List.map en55 x0)∧s.t 1 = .fv (List.map en55 x1)∧s.t 12 = .int .i64 x12∧s.t 13 = .int .i64 x13∧split_Part.l0 k x0 x1 x12 x13=some r) ?_ ?_ ⟨_,_,_,_,rfl,rfl,rfl,rfl,h⟩
    · rintro s ⟨_,_,_,_,_,_,_,_,h⟩;unfold split_Part.l0 at h;cases h
    · rintro k1 s1 ⟨x0,x1,x12,x13,e0,e1,e2,e3,h⟩
      unfold split_Part.l0 at h
      rw [St.fixT e0,St.fixT e1,St.fixT e2,St.fixT e3]
      refine S.A 1 rfl rfl ?_
      refine X.seq ?_
      refine X.condP (.tmp rfl) (fun c=>?_) (fun c=>?_)
      · rw [if_pos c] at h
        refine X.skip ?_
        refine X.seq ?_
        refine X.block ?_
        refine S.A 2 rfl rfl ?_
        refine S.D 2 rfl rfl ?_
        repeat (rw [giff] at h;obtain ⟨_,h⟩:=h)
        refine D.pu (U.rdVS z55 rfl (fun _=>⟨rfl,rfl⟩) (.tmp rfl) (.tmp rfl) (by omega) (by omega)) ?_
        refine S.d 3 rfl rfl ?_
        refine D.pu (U.rdVS z55 rfl (fun _=>⟨rfl,rfl⟩) (.tmp rfl) (.tmp rfl) (by omega) (by omega)) ?_
        refine S.d 1 rfl rfl ?_
        refine D.pu (U.neq55 (.tmp rfl) (.tmp rfl)) ?_
        refine D.nil (by kernel_rfl) ?_
        refine X.cond (.tmp rfl) (fun c=>?_) (fun c=>?_)
        · replace h:=iteT c h
          refine S.A 1 rfl rfl ?_
          refine X.ret ?_
          cases h
          exact S.R rfl rfl rfl
        · replace h:=iteF c h
          refine X.skip ?_
          refine X.still ?_
          refine S.e 2 rfl rfl ?_
          exact ⟨_,(by omega),_,_,_,_,rfl,rfl,rfl,rfl,h⟩
      · rw [if_neg c] at h
        refine X.exit (B.out ?_)
        refine S.A 1 rfl rfl ?_
        refine X.ret ?_
        cases h
        exact S.R rfl rfl rfl
noncomputable def c7:Code:=Tryz.f7.body.getD .skip
theorem fn7:FnOk Tryz.prog 7 Tryz.f7 c7:=⟨Tryz.func7,rfl,by kernel_rfl,by kernel_rfl,mixed⟩
theorem chattellaw12_SplitOrder.cs {k:Nat} {a0_0:Int} {a0_1:Int} {a0_2:Int} {a0_3:Int} {l0_4:List Int} {l0_5:List Int} {a0_6:Int} {a1:Int} {r:Bool} (h:chattellaw12_SplitOrder.f k a0_0 a0_1 a0_2 a0_3 l0_4 l0_5 a0_6 a1=some r):CS Tryz.prog 7 [.agg [.int .i64 a0_0, .int .i64 a0_1, .int .i64 a0_2, .int .u16 a0_3, .fi .i16 l0_4, .fi .i16 l0_5, .int .u8 a0_6], .int .u16 a1] .no [.bool r]:=by
  unfold chattellaw12_SplitOrder.f at h
  refine E.pure fn7 rfl ?_
  refine S.A 2 rfl rfl ?_
  refine S.O 1 rfl rfl ?_
  obtain ⟨q1,Hq1,h⟩:=Option.bind_eq_some_iff.1 h
  refine O.puE (v':=.tup [_,_, .os 25 (1) 0 _ true]) (b':=⟨1, .own,_,_⟩) (U.callTV (en:=en28) (ss:=[]) [_,_] [] (.cons (.tmp (v:=.agg _) rfl) .nil) (.cons (.cl (.aggL (.cons .int (.cons .int (.cons .int (.cons .int (.cons .fi (.cons .fi (.cons .int .nil))))))))) .nil) (chattellaw12_Time_make.cs Hq1) (fun _=>.aggL (.cons .int (.cons .int (.cons .int .nil)))) (fun _=>.aggL (.cons .int (.cons .int (.cons .int .nil)))) (FlL.cons (.aggL (.cons .int (.cons .int (.cons .int .nil)))) (FlL.cons (.aggL (.cons .int (.cons .int (.cons .int .nil)))) FlL.nil)) FlL.nil) rfl rfl ?_
  refine S.e 9 rfl rfl ?_
  refine S.O 3 rfl rfl ?_
  obtain ⟨q2,Hq2,h⟩:=Option.bind_eq_some_iff.1 h
  refine O.puE (v':=.tup [.os 33 (1) 0 _ true,_]) (b':=⟨1, .own,_,_⟩) (U.callTV (en:=en55) (ss:=[25]) [] [_] (.cons (.tmp (v:=.agg _) rfl) (.cons (.tmp (v:=.agg _) rfl) (.cons (.tmp (v:=.os _ _ _ _ _) rfl) .nil))) (.cons (.cl (.aggL (.cons .int (.cons .int (.cons .int .nil))))) (.cons (.cl (.aggL (.cons .int (.cons .int (.cons .int .nil))))) (.cons (.osVf (by simp) rfl (Mode.live_ne rfl) rfl (ClL.map fun _=>.aggL (.cons .int (.cons .int (.cons .int .nil)))) (by first|rfl|(simp only [List.length_map,List.length_append,List.length_cons,List.length_nil] at *;done)|(simp only [List.length_map,List.length_append,List.length_cons,List.length_nil] at *;omega))) .nil))) (split_Parts.csF Hq2) (fun _=>.aggL (.cons .int (.cons .int (.cons .int (.cons .int (.cons .int (.cons .int .nil))))))) (fun _=>.aggL (.cons .int (.cons .int (.cons .int (.cons .int (.cons .int (.cons .int .nil))))))) FlL.nil (FlL.cons (.int) FlL.nil)) rfl rfl ?_
  refine S.e 5 rfl rfl ?_
  refine S.O 1 rfl rfl ?_
  obtain ⟨q3,Hq3,h⟩:=Option.bind_eq_some_iff.1 h
  refine O.puE (v':=.os 37 (1) 0 _ true) (b':=⟨1, .own,_,_⟩) (U.callTV (en:=en28) (ss:=[25]) [] [] (.cons (.tmp (v:=.os _ _ _ _ _) rfl) .nil) (.cons (.osVf (by simp) rfl (Mode.live_ne rfl) rfl (ClL.map fun _=>.aggL (.cons .int (.cons .int (.cons .int .nil)))) (by first|rfl|(simp only [List.length_map,List.length_append,List.length_cons,List.length_nil] at *;done)|(simp only [List.length_map,List.length_append,List.length_cons,List.length_nil] at *;omega))) .nil) (api_Date_27.cs Hq3) (fun _=>.aggL (.cons .int (.cons .int (.cons .int .nil)))) (fun _=>.aggL (.cons .int (.cons .int (.cons .int .nil)))) FlL.nil FlL.nil) rfl rfl ?_
  refine O.ef (U.takeE (u':=1) (.tmp rfl) rfl (ne_of_beq rfl) rfl) ?_
  refine O.nil ?_
  refine S.O 1 rfl rfl ?_
  obtain ⟨q4,Hq4,h⟩:=Option.bind_eq_some_iff.1 h
  have hlc:=clone_len Hq3
  obtain rfl:=YtakidmbnkkhojaaGreatM.rev_is (by omega) Hq4
  refine O.ef (U.rev (.tmp rfl) rfl rfl (by omega)) ?_
  refine O.nil ?_
  refine X.room 10 (List.length (List.reverse q3) + List.length q1.2.2.2.2.2.2) rfl ?_ ?_
  · refine S.D 4 rfl rfl ?_
    repeat (rw [giff] at h;obtain ⟨_,h⟩:=h)
    refine D.ef (C.apR (en:=en28) (u':=1) (List.reverse q3) [] rfl (.tmp rfl) rfl (by simp) (by simp) (.tmp (v:=.os _ _ _ _ _) rfl) (.osVf (List.mem_singleton.2 rfl) rfl (Mode.live_ne rfl) rfl (ClL.map fun _=>.aggL (.cons .int (.cons .int (.cons .int .nil)))) (by simp)) rfl (fun _=>⟨rfl,rfl⟩) (by simp only [List.length_reverse,List.length_cons,List.length_nil] at *;omega) (by simp only [maxLen,List.length_reverse,List.length_cons,List.length_nil] at *;omega) (by simp only [List.length_reverse,List.length_cons,List.length_nil] at *;omega) rfl) ?_
    obtain ⟨q5,Hq5,h⟩:=Option.bind_eq_some_iff.1 h
    refine D.puE (v':=.tup [.os 46 (1) 0 _ true,_]) (b':=⟨1, .own,_,_⟩) (U.callTV (en:=en55) (ss:=[45]) [] [_] (.cons (.tmp (v:=.agg _) rfl) (.cons (.tmp (v:=.agg _) rfl) (.cons (.tmp (v:=.os _ _ _ _ _) rfl) .nil))) (.cons (.cl (.aggL (.cons .int (.cons .int (.cons .int .nil))))) (.cons (.cl (.aggL (.cons .int (.cons .int (.cons .int .nil))))) (.cons (.osVf (by simp) rfl (Mode.live_ne rfl) rfl (ClL.map fun _=>.aggL (.cons .int (.cons .int (.cons .int .nil)))) (by first|rfl|(simp only [List.length_map,List.length_append,List.length_cons,List.length_nil] at *;done)|(simp only [List.length_map,List.length_append,List.length_cons,List.length_nil] at *;omega))) .nil))) (split_Parts.csF Hq5) (fun _=>.aggL (.cons .int (.cons .int (.cons .int (.cons .int (.cons .int (.cons .int .nil))))))) (fun _=>.aggL (.cons .int (.cons .int (.cons .int (.cons .int (.cons .int (.cons .int .nil))))))) FlL.nil (FlL.cons (.int) FlL.nil)) rfl rfl ?_
    refine S.d 5 rfl rfl ?_
    refine D.nil (by kernel_rfl) ?_
    refine S.O 2 rfl rfl ?_
    obtain ⟨q6,Hq6,h⟩:=Option.bind_eq_some_iff.1 h
    refine O.c (month_Between.cs Hq6) rfl rfl rfl ?_
    refine S.e 5 rfl rfl ?_
    refine S.D 5 rfl rfl ?_
    repeat (rw [giffn] at h;obtain ⟨_,h⟩:=h)
    refine D.pu (Pu.bin (.tmp rfl) (.tmp rfl) (.rem (by omega))) ?_
    obtain ⟨q7,Hq7,h⟩:=Option.bind_eq_some_iff.1 h
    refine D.c (month_AddDays.cs Hq7) rfl rfl rfl ?_
    refine S.d 6 rfl rfl ?_
    refine D.nil (by kernel_rfl) ?_
    refine S.O 3 rfl rfl ?_
    obtain ⟨q8,Hq8,h⟩:=Option.bind_eq_some_iff.1 h
    refine O.puE (v':=.tup [.os 69 (1) 0 _ true,_]) (b':=⟨1, .own,_,_⟩) (U.callTV (en:=en55) (ss:=[25]) [] [_] (.cons (.tmp (v:=.agg _) rfl) (.cons (.tmp (v:=.agg _) rfl) (.cons (.tmp (v:=.os _ _ _ _ _) rfl) .nil))) (.cons (.cl (.aggL (.cons .int (.cons .int (.cons .int .nil))))) (.cons (.cl (.aggL (.cons .int (.cons .int (.cons .int .nil))))) (.cons (.osVf (by simp) rfl (Mode.live_ne rfl) rfl (ClL.map fun _=>.aggL (.cons .int (.cons .int (.cons .int .nil)))) (by first|rfl|(simp only [List.length_map,List.length_append,List.length_cons,List.length_nil] at *;done)|(simp only [List.length_map,List.length_append,List.length_cons,List.length_nil] at *;omega))) .nil))) (split_Parts.csF Hq8) (fun _=>.aggL (.cons .int (.cons .int (.cons .int (.cons .int (.cons .int (.cons .int .nil))))))) (fun _=>.aggL (.cons .int (.cons .int (.cons .int (.cons .int (.cons .int (.cons .int .nil))))))) FlL.nil (FlL.cons (.int) FlL.nil)) rfl rfl ?_
    refine S.r 3 rfl rfl ?_
    refine O.ef (U.takeE (u':=1) (.tmp rfl) rfl (ne_of_beq rfl) rfl) ?_
    refine S.e 1 rfl rfl ?_
    refine S.O 3 rfl rfl ?_
    obtain ⟨q9,Hq9,h⟩:=Option.bind_eq_some_iff.1 h
    refine O.puE (v':=.tup [.os 76 (1) 0 _ true,_]) (b':=⟨1, .own,_,_⟩) (U.callTV (en:=en55) (ss:=[25]) [] [_] (.cons (.tmp (v:=.agg _) rfl) (.cons (.tmp (v:=.agg _) rfl) (.cons (.tmp (v:=.os _ _ _ _ _) rfl) .nil))) (.cons (.cl (.aggL (.cons .int (.cons .int (.cons .int .nil))))) (.cons (.cl (.aggL (.cons .int (.cons .int (.cons .int .nil))))) (.cons (.osVf (by simp) rfl (Mode.live_ne rfl) rfl (ClL.map fun _=>.aggL (.cons .int (.cons .int (.cons .int .nil)))) (by first|rfl|(simp only [List.length_map,List.length_append,List.length_cons,List.length_nil] at *;done)|(simp only [List.length_map,List.length_append,List.length_cons,List.length_nil] at *;omega))) .nil))) (split_Parts.csF Hq9) (fun _=>.aggL (.cons .int (.cons .int (.cons .int (.cons .int (.cons .int (.cons .int .nil))))))) (fun _=>.aggL (.cons .int (.cons .int (.cons .int (.cons .int (.cons .int (.cons .int .nil))))))) FlL.nil (FlL.cons (.int) FlL.nil)) rfl rfl ?_
    refine S.e 5 rfl rfl ?_
    refine X.room' 10 (List.length (List.reverse q3) + 1) rfl ?_ ?_
    · refine S.D 4 rfl rfl ?_
      refine D.puE (v':=.os 84 (1) 0 _ true) (b':=⟨1, .own,_,_⟩) (U.litS (en:=en28) (l:=[⟨_,_,_⟩]) rfl (.cons (.tmp (v:=.agg _) rfl) rfl .nil) rfl rfl rfl (fun _=>rfl)) rfl rfl ?_
      repeat (rw [giff] at h;obtain ⟨_,h⟩:=h)
      refine D.ef (C.apR (en:=en28) (u':=1) (List.reverse q3) [] rfl (.tmp rfl) rfl (by simp) (by simp) (.tmp (v:=.os _ _ _ _ _) rfl) (.osVf (List.mem_singleton.2 rfl) rfl (Mode.live_ne rfl) rfl (ClL.map fun _=>.aggL (.cons .int (.cons .int (.cons .int .nil)))) (by simp)) rfl (fun _=>⟨rfl,rfl⟩) (by simp only [List.length_reverse,List.length_cons,List.length_nil] at *;omega) (by simp only [maxLen,List.length_reverse,List.length_cons,List.length_nil] at *;omega) (by simp only [List.length_reverse,List.length_cons,List.length_nil] at *;omega) rfl) ?_
      obtain ⟨q10,Hq10,h⟩:=Option.bind_eq_some_iff.1 h
      refine D.puE (v':=.tup [.os 86 (1) 0 _ true,_]) (b':=⟨1, .own,_,_⟩) (U.callTV (en:=en55) (ss:=[85]) [] [_] (.cons (.tmp (v:=.agg _) rfl) (.cons (.tmp (v:=.agg _) rfl) (.cons (.tmp (v:=.os _ _ _ _ _) rfl) .nil))) (.cons (.cl (.aggL (.cons .int (.cons .int (.cons .int .nil))))) (.cons (.cl (.aggL (.cons .int (.cons .int (.cons .int .nil))))) (.cons (.osVf (by simp) rfl (Mode.live_ne rfl) rfl (ClL.map fun _=>.aggL (.cons .int (.cons .int (.cons .int .nil)))) (by first|rfl|(simp only [List.length_map,List.length_append,List.length_cons,List.length_nil] at *;done)|(simp only [List.length_map,List.length_append,List.length_cons,List.length_nil] at *;omega))) .nil))) (split_Parts.csF Hq10) (fun _=>.aggL (.cons .int (.cons .int (.cons .int (.cons .int (.cons .int (.cons .int .nil))))))) (fun _=>.aggL (.cons .int (.cons .int (.cons .int (.cons .int (.cons .int (.cons .int .nil))))))) FlL.nil (FlL.cons (.int) FlL.nil)) rfl rfl ?_
      refine S.d 5 rfl rfl ?_
      refine D.nil (by kernel_rfl) ?_
      refine X.seq ?_
      refine X.still ?_
      obtain ⟨q11,Hq11,h⟩:=Option.bind_eq_some_iff.1 h
      refine O.c (chattellaw12_wakes.cs Hq11) rfl rfl rfl ?_
      refine S.r 1 rfl rfl ?_
      refine O.split (fun c=>?_) (fun c=>?_)
      · rw [if_pos c] at h
        refine S.r 4 rfl rfl ?_
        refine O.splitE (fun c=>?_) (fun c=>?_)
        · rw [if_pos c] at h
          refine S.r 4 rfl rfl ?_
          refine O.splitE (fun c=>?_) (fun c=>?_)
          · rw [if_pos c] at h
            refine S.r 4 rfl rfl ?_
            refine O.splitE (fun c=>?_) (fun c=>?_)
            · rw [if_pos c] at h
              refine S.r 4 rfl rfl ?_
              refine O.splitE (fun c=>?_) (fun c=>?_)
              · rw [if_pos c] at h
                refine S.r 4 rfl rfl ?_
                refine O.splitE (fun c=>?_) (fun c=>?_)
                · rw [if_pos c] at h
                  refine S.r 2 rfl rfl ?_
                  obtain ⟨q12,Hq12,h⟩:=Option.bind_eq_some_iff.1 h
                  refine G.pu (W.t rfl rfl) (U.call (ss:=[33,46]) (.cons (.tmp (v:=.os _ _ _ _ _) rfl) (.cons (.tmp (v:=.os _ _ _ _ _) rfl) .nil)) (.cons (.osVf (by simp) rfl (Mode.live_ne rfl) rfl (ClL.map fun _=>.aggL (.cons .int (.cons .int (.cons .int (.cons .int (.cons .int (.cons .int .nil))))))) (by first|rfl|(simp only [List.length_map,List.length_append,List.length_cons,List.length_nil] at *;done)|(simp only [List.length_map,List.length_append,List.length_cons,List.length_nil] at *;omega))) (.cons (.osVf (by simp) rfl (Mode.live_ne rfl) rfl (ClL.map fun _=>.aggL (.cons .int (.cons .int (.cons .int (.cons .int (.cons .int (.cons .int .nil))))))) (by first|rfl|(simp only [List.length_map,List.length_append,List.length_cons,List.length_nil] at *;done)|(simp only [List.length_map,List.length_append,List.length_cons,List.length_nil] at *;omega))) .nil)) (split_Part.cs Hq12) (.inr (.bool)) (.bool)) ?_
                  refine S.r 2 rfl rfl ?_
                  refine O.split (fun c=>?_) (fun c=>?_)
                  · rw [if_pos c] at h
                    refine S.r 2 rfl rfl ?_
                    repeat (rw [giff] at h;obtain ⟨_,h⟩:=h)
                    refine G.ef (W.t rfl rfl) (U.appendSE (en:=en55) (u':=1) rfl (.tmp rfl) rfl (by first|rfl|(simp only [List.length_append,List.length_cons,List.length_nil] at *;omega)) (.tmp rfl) (.osVf (List.mem_singleton.2 rfl) rfl (Mode.live_ne rfl) rfl (ClL.map fun _=>.aggL (.cons .int (.cons .int (.cons .int (.cons .int (.cons .int (.cons .int .nil))))))) (by simp)) rfl (fun _=>⟨rfl,rfl⟩) (by simp only [maxLen,List.length_cons,List.length_nil];omega) (by simp only [List.length_cons,List.length_nil];omega) rfl) ?_
                    refine S.r 1 rfl rfl ?_
                    obtain ⟨q13,Hq13,h⟩:=Option.bind_eq_some_iff.1 h
                    refine G.pu (W.t rfl rfl) (U.call (ss:=[86,118]) (.cons (.tmp (v:=.os _ _ _ _ _) rfl) (.cons (.tmp (v:=.os _ _ _ _ _) rfl) .nil)) (.cons (.osVf (by simp) rfl (Mode.live_ne rfl) rfl (ClL.map fun _=>.aggL (.cons .int (.cons .int (.cons .int (.cons .int (.cons .int (.cons .int .nil))))))) (by first|rfl|(simp only [List.length_map,List.length_append,List.length_cons,List.length_nil] at *;done)|(simp only [List.length_map,List.length_append,List.length_cons,List.length_nil] at *;omega))) (.cons (.osVf (by simp) rfl (Mode.live_ne rfl) rfl (ClL.map fun _=>.aggL (.cons .int (.cons .int (.cons .int (.cons .int (.cons .int (.cons .int .nil))))))) (by first|rfl|(simp only [List.length_map,List.length_append,List.length_cons,List.length_nil] at *;done)|(simp only [List.length_map,List.length_append,List.length_cons,List.length_nil] at *;omega))) .nil)) (split_Part.cs Hq13) (.inr (.bool)) (.bool)) ?_
                    refine S.e 2 rfl rfl ?_
                    refine X.ret ?_
                    cases h
                    exact S.R rfl rfl rfl
                  · rw [if_neg (bf c)] at h
                    refine S.e 7 rfl rfl ?_
                    refine X.ret ?_
                    cases h
                    exact S.R rfl rfl rfl
                · rw [if_neg c] at h
                  refine S.e 12 rfl rfl ?_
                  refine X.ret ?_
                  cases h
                  exact S.R rfl rfl rfl
              · rw [if_neg c] at h
                refine S.e 16 rfl rfl ?_
                refine X.ret ?_
                cases h
                exact S.R rfl rfl rfl
            · rw [if_neg c] at h
              refine S.e 20 rfl rfl ?_
              refine X.ret ?_
              cases h
              exact S.R rfl rfl rfl
          · rw [if_neg c] at h
            refine S.e 24 rfl rfl ?_
            refine X.ret ?_
            cases h
            exact S.R rfl rfl rfl
        · rw [if_neg c] at h
          refine S.e 28 rfl rfl ?_
          refine X.ret ?_
          cases h
          exact S.R rfl rfl rfl
      · rw [if_neg (bf c)] at h
        refine S.e 32 rfl rfl ?_
        refine X.ret ?_
        cases h
        exact S.R rfl rfl rfl
    · refine S.D 4 rfl rfl ?_
      refine D.puE (v':=.os 84 (1) 0 _ true) (b':=⟨1, .own,_,_⟩) (U.litS (en:=en28) (l:=[⟨_,_,_⟩]) rfl (.cons (.tmp (v:=.agg _) rfl) rfl .nil) rfl rfl rfl (fun _=>rfl)) rfl rfl ?_
      repeat (rw [giff] at h;obtain ⟨_,h⟩:=h)
      refine D.ef (C.apP (en:=en28) (List.reverse q3) [] rfl (.tmp rfl) rfl (by simp) (by simp) (.tmp (v:=.os _ _ _ _ _) rfl) (.osVf (List.mem_singleton.2 rfl) rfl (Mode.live_ne rfl) rfl (ClL.map fun _=>.aggL (.cons .int (.cons .int (.cons .int .nil)))) (by simp)) rfl (fun _=>⟨rfl,rfl⟩) (by simp only [List.length_reverse,List.length_cons,List.length_nil] at *;omega)) ?_
      obtain ⟨q14,Hq14,h⟩:=Option.bind_eq_some_iff.1 h
      refine D.puE (v':=.tup [.os 86 (1) 0 _ true,_]) (b':=⟨1, .own,_,_⟩) (U.callTV (en:=en55) (ss:=[10]) [] [_] (.cons (.tmp (v:=.agg _) rfl) (.cons (.tmp (v:=.agg _) rfl) (.cons (.tmp (v:=.os _ _ _ _ _) rfl) .nil))) (.cons (.cl (.aggL (.cons .int (.cons .int (.cons .int .nil))))) (.cons (.cl (.aggL (.cons .int (.cons .int (.cons .int .nil))))) (.cons (Snap.pre (en:=en28) _ _ (by simp) rfl (by simp) (fun _=>.aggL (.cons .int (.cons .int (.cons .int .nil))))) .nil))) (split_Parts.csF Hq14) (fun _=>.aggL (.cons .int (.cons .int (.cons .int (.cons .int (.cons .int (.cons .int .nil))))))) (fun _=>.aggL (.cons .int (.cons .int (.cons .int (.cons .int (.cons .int (.cons .int .nil))))))) FlL.nil (FlL.cons (.int) FlL.nil)) rfl rfl ?_
      refine S.d 5 rfl rfl ?_
      refine D.nil (by kernel_rfl) ?_
      refine X.seq ?_
      refine X.still ?_
      obtain ⟨q15,Hq15,h⟩:=Option.bind_eq_some_iff.1 h
      refine O.c (chattellaw12_wakes.cs Hq15) rfl rfl rfl ?_
      refine S.r 1 rfl rfl ?_
      refine O.split (fun c=>?_) (fun c=>?_)
      · rw [if_pos c] at h
        refine S.r 4 rfl rfl ?_
        refine O.splitE (fun c=>?_) (fun c=>?_)
        · rw [if_pos c] at h
          refine S.r 4 rfl rfl ?_
          refine O.splitE (fun c=>?_) (fun c=>?_)
          · rw [if_pos c] at h
            refine S.r 4 rfl rfl ?_
            refine O.splitE (fun c=>?_) (fun c=>?_)
            · rw [if_pos c] at h
              refine S.r 4 rfl rfl ?_
              refine O.splitE (fun c=>?_) (fun c=>?_)
              · rw [if_pos c] at h
                refine S.r 4 rfl rfl ?_
                refine O.splitE (fun c=>?_) (fun c=>?_)
                · rw [if_pos c] at h
                  refine S.r 2 rfl rfl ?_
                  obtain ⟨q16,Hq16,h⟩:=Option.bind_eq_some_iff.1 h
                  refine G.pu (W.t rfl rfl) (U.call (ss:=[33,46]) (.cons (.tmp (v:=.os _ _ _ _ _) rfl) (.cons (.tmp (v:=.os _ _ _ _ _) rfl) .nil)) (.cons (.osVf (by simp) rfl (Mode.live_ne rfl) rfl (ClL.map fun _=>.aggL (.cons .int (.cons .int (.cons .int (.cons .int (.cons .int (.cons .int .nil))))))) (by first|rfl|(simp only [List.length_map,List.length_append,List.length_cons,List.length_nil] at *;done)|(simp only [List.length_map,List.length_append,List.length_cons,List.length_nil] at *;omega))) (.cons (.osVf (by simp) rfl (Mode.live_ne rfl) rfl (ClL.map fun _=>.aggL (.cons .int (.cons .int (.cons .int (.cons .int (.cons .int (.cons .int .nil))))))) (by first|rfl|(simp only [List.length_map,List.length_append,List.length_cons,List.length_nil] at *;done)|(simp only [List.length_map,List.length_append,List.length_cons,List.length_nil] at *;omega))) .nil)) (split_Part.cs Hq16) (.inr (.bool)) (.bool)) ?_
                  refine S.r 2 rfl rfl ?_
                  refine O.split (fun c=>?_) (fun c=>?_)
                  · rw [if_pos c] at h
                    refine S.r 2 rfl rfl ?_
                    repeat (rw [giff] at h;obtain ⟨_,h⟩:=h)
                    refine G.ef (W.t rfl rfl) (U.appendSE (en:=en55) (u':=1) rfl (.tmp rfl) rfl (by first|rfl|(simp only [List.length_append,List.length_cons,List.length_nil] at *;omega)) (.tmp rfl) (.osVf (List.mem_singleton.2 rfl) rfl (Mode.live_ne rfl) rfl (ClL.map fun _=>.aggL (.cons .int (.cons .int (.cons .int (.cons .int (.cons .int (.cons .int .nil))))))) (by simp)) rfl (fun _=>⟨rfl,rfl⟩) (by simp only [maxLen,List.length_cons,List.length_nil];omega) (by simp only [List.length_cons,List.length_nil];omega) rfl) ?_
                    refine S.r 1 rfl rfl ?_
                    obtain ⟨q17,Hq17,h⟩:=Option.bind_eq_some_iff.1 h
                    refine G.pu (W.t rfl rfl) (U.call (ss:=[86,118]) (.cons (.tmp (v:=.os _ _ _ _ _) rfl) (.cons (.tmp (v:=.os _ _ _ _ _) rfl) .nil)) (.cons (.osVf (by simp) rfl (Mode.live_ne rfl) rfl (ClL.map fun _=>.aggL (.cons .int (.cons .int (.cons .int (.cons .int (.cons .int (.cons .int .nil))))))) (by first|rfl|(simp only [List.length_map,List.length_append,List.length_cons,List.length_nil] at *;done)|(simp only [List.length_map,List.length_append,List.length_cons,List.length_nil] at *;omega))) (.cons (.osVf (by simp) rfl (Mode.live_ne rfl) rfl (ClL.map fun _=>.aggL (.cons .int (.cons .int (.cons .int (.cons .int (.cons .int (.cons .int .nil))))))) (by first|rfl|(simp only [List.length_map,List.length_append,List.length_cons,List.length_nil] at *;done)|(simp only [List.length_map,List.length_append,List.length_cons,List.length_nil] at *;omega))) .nil)) (split_Part.cs Hq17) (.inr (.bool)) (.bool)) ?_
                    refine S.e 2 rfl rfl ?_
                    refine X.ret ?_
                    cases h
                    exact S.R rfl rfl rfl
                  · rw [if_neg (bf c)] at h
                    refine S.e 7 rfl rfl ?_
                    refine X.ret ?_
                    cases h
                    exact S.R rfl rfl rfl
                · rw [if_neg c] at h
                  refine S.e 12 rfl rfl ?_
                  refine X.ret ?_
                  cases h
                  exact S.R rfl rfl rfl
              · rw [if_neg c] at h
                refine S.e 16 rfl rfl ?_
                refine X.ret ?_
                cases h
                exact S.R rfl rfl rfl
            · rw [if_neg c] at h
              refine S.e 20 rfl rfl ?_
              refine X.ret ?_
              cases h
              exact S.R rfl rfl rfl
          · rw [if_neg c] at h
            refine S.e 24 rfl rfl ?_
            refine X.ret ?_
            cases h
            exact S.R rfl rfl rfl
        · rw [if_neg c] at h
          refine S.e 28 rfl rfl ?_
          refine X.ret ?_
          cases h
          exact S.R rfl rfl rfl
      · rw [if_neg (bf c)] at h
        refine S.e 32 rfl rfl ?_
        refine X.ret ?_
        cases h
        exact S.R rfl rfl rfl
  · refine S.D 4 rfl rfl ?_
    repeat (rw [giff] at h;obtain ⟨_,h⟩:=h)
    refine D.ef (C.apP (en:=en28) (List.reverse q3) [] rfl (.tmp rfl) rfl (by simp) (by simp) (.tmp (v:=.os _ _ _ _ _) rfl) (.osVf (List.mem_singleton.2 rfl) rfl (Mode.live_ne rfl) rfl (ClL.map fun _=>.aggL (.cons .int (.cons .int (.cons .int .nil)))) (by simp)) rfl (fun _=>⟨rfl,rfl⟩) (by simp only [List.length_reverse,List.length_cons,List.length_nil] at *;omega)) ?_
    obtain ⟨q18,Hq18,h⟩:=Option.bind_eq_some_iff.1 h
    refine D.puE (v':=.tup [.os 46 (1) 0 _ true,_]) (b':=⟨1, .own,_,_⟩) (U.callTV (en:=en55) (ss:=[10]) [] [_] (.cons (.tmp (v:=.agg _) rfl) (.cons (.tmp (v:=.agg _) rfl) (.cons (.tmp (v:=.os _ _ _ _ _) rfl) .nil))) (.cons (.cl (.aggL (.cons .int (.cons .int (.cons .int .nil))))) (.cons (.cl (.aggL (.cons .int (.cons .int (.cons .int .nil))))) (.cons (Snap.pre (en:=en28) _ _ (by simp) rfl (by simp) (fun _=>.aggL (.cons .int (.cons .int (.cons .int .nil))))) .nil))) (split_Parts.csF Hq18) (fun _=>.aggL (.cons .int (.cons .int (.cons .int (.cons .int (.cons .int (.cons .int .nil))))))) (fun _=>.aggL (.cons .int (.cons .int (.cons .int (.cons .int (.cons .int (.cons .int .nil))))))) FlL.nil (FlL.cons (.int) FlL.nil)) rfl rfl ?_
    refine S.d 5 rfl rfl ?_
    refine D.nil (by kernel_rfl) ?_
    refine S.O 2 rfl rfl ?_
    obtain ⟨q19,Hq19,h⟩:=Option.bind_eq_some_iff.1 h
    refine O.c (month_Between.cs Hq19) rfl rfl rfl ?_
    refine S.e 5 rfl rfl ?_
    refine S.D 5 rfl rfl ?_
    repeat (rw [giffn] at h;obtain ⟨_,h⟩:=h)
    refine D.pu (Pu.bin (.tmp rfl) (.tmp rfl) (.rem (by omega))) ?_
    obtain ⟨q20,Hq20,h⟩:=Option.bind_eq_some_iff.1 h
    refine D.c (month_AddDays.cs Hq20) rfl rfl rfl ?_
    refine S.d 6 rfl rfl ?_
    refine D.nil (by kernel_rfl) ?_
    refine S.O 3 rfl rfl ?_
    obtain ⟨q21,Hq21,h⟩:=Option.bind_eq_some_iff.1 h
    refine O.puE (v':=.tup [.os 69 (1) 0 _ true,_]) (b':=⟨1, .own,_,_⟩) (U.callTV (en:=en55) (ss:=[25]) [] [_] (.cons (.tmp (v:=.agg _) rfl) (.cons (.tmp (v:=.agg _) rfl) (.cons (.tmp (v:=.os _ _ _ _ _) rfl) .nil))) (.cons (.cl (.aggL (.cons .int (.cons .int (.cons .int .nil))))) (.cons (.cl (.aggL (.cons .int (.cons .int (.cons .int .nil))))) (.cons (.osVf (by simp) rfl (Mode.live_ne rfl) rfl (ClL.map fun _=>.aggL (.cons .int (.cons .int (.cons .int .nil)))) (by first|rfl|(simp only [List.length_map,List.length_append,List.length_cons,List.length_nil] at *;done)|(simp only [List.length_map,List.length_append,List.length_cons,List.length_nil] at *;omega))) .nil))) (split_Parts.csF Hq21) (fun _=>.aggL (.cons .int (.cons .int (.cons .int (.cons .int (.cons .int (.cons .int .nil))))))) (fun _=>.aggL (.cons .int (.cons .int (.cons .int (.cons .int (.cons .int (.cons .int .nil))))))) FlL.nil (FlL.cons (.int) FlL.nil)) rfl rfl ?_
    refine S.r 3 rfl rfl ?_
    refine O.ef (U.takeE (u':=1) (.tmp rfl) rfl (ne_of_beq rfl) rfl) ?_
    refine S.e 1 rfl rfl ?_
    refine S.O 3 rfl rfl ?_
    obtain ⟨q22,Hq22,h⟩:=Option.bind_eq_some_iff.1 h
    refine O.puE (v':=.tup [.os 76 (1) 0 _ true,_]) (b':=⟨1, .own,_,_⟩) (U.callTV (en:=en55) (ss:=[25]) [] [_] (.cons (.tmp (v:=.agg _) rfl) (.cons (.tmp (v:=.agg _) rfl) (.cons (.tmp (v:=.os _ _ _ _ _) rfl) .nil))) (.cons (.cl (.aggL (.cons .int (.cons .int (.cons .int .nil))))) (.cons (.cl (.aggL (.cons .int (.cons .int (.cons .int .nil))))) (.cons (.osVf (by simp) rfl (Mode.live_ne rfl) rfl (ClL.map fun _=>.aggL (.cons .int (.cons .int (.cons .int .nil)))) (by first|rfl|(simp only [List.length_map,List.length_append,List.length_cons,List.length_nil] at *;done)|(simp only [List.length_map,List.length_append,List.length_cons,List.length_nil] at *;omega))) .nil))) (split_Parts.csF Hq22) (fun _=>.aggL (.cons .int (.cons .int (.cons .int (.cons .int (.cons .int (.cons .int .nil))))))) (fun _=>.aggL (.cons .int (.cons .int (.cons .int (.cons .int (.cons .int (.cons .int .nil))))))) FlL.nil (FlL.cons (.int) FlL.nil)) rfl rfl ?_
    refine S.e 5 rfl rfl ?_
    refine X.room' 10 (List.length (List.reverse q3) + 1) rfl ?_ ?_
    · refine S.D 4 rfl rfl ?_
      refine D.puE (v':=.os 84 (1) 0 _ true) (b':=⟨1, .own,_,_⟩) (U.litS (en:=en28) (l:=[⟨_,_,_⟩]) rfl (.cons (.tmp (v:=.agg _) rfl) rfl .nil) rfl rfl rfl (fun _=>rfl)) rfl rfl ?_
      repeat (rw [giff] at h;obtain ⟨_,h⟩:=h)
      refine D.ef (C.apR (en:=en28) (u':=1) (List.reverse q3) (q1.2.2.2.2.2.2 ++ List.drop (List.length q1.2.2.2.2.2.2) []) rfl (.tmp rfl) rfl (by simp) (by simp) (.tmp (v:=.os _ _ _ _ _) rfl) (.osVf (List.mem_singleton.2 rfl) rfl (Mode.live_ne rfl) rfl (ClL.map fun _=>.aggL (.cons .int (.cons .int (.cons .int .nil)))) (by simp)) rfl (fun _=>⟨rfl,rfl⟩) (by simp only [List.length_reverse,List.length_cons,List.length_nil] at *;omega) (by simp only [maxLen,List.length_reverse,List.length_cons,List.length_nil] at *;omega) (by simp only [List.length_reverse,List.length_cons,List.length_nil] at *;omega) rfl) ?_
      obtain ⟨q23,Hq23,h⟩:=Option.bind_eq_some_iff.1 h
      refine D.puE (v':=.tup [.os 86 (1) 0 _ true,_]) (b':=⟨1, .own,_,_⟩) (U.callTV (en:=en55) (ss:=[85]) [] [_] (.cons (.tmp (v:=.agg _) rfl) (.cons (.tmp (v:=.agg _) rfl) (.cons (.tmp (v:=.os _ _ _ _ _) rfl) .nil))) (.cons (.cl (.aggL (.cons .int (.cons .int (.cons .int .nil))))) (.cons (.cl (.aggL (.cons .int (.cons .int (.cons .int .nil))))) (.cons (.osVf (by simp) rfl (Mode.live_ne rfl) rfl (ClL.map fun _=>.aggL (.cons .int (.cons .int (.cons .int .nil)))) (by first|rfl|(simp only [List.length_map,List.length_append,List.length_cons,List.length_nil] at *;done)|(simp only [List.length_map,List.length_append,List.length_cons,List.length_nil] at *;omega))) .nil))) (split_Parts.csF Hq23) (fun _=>.aggL (.cons .int (.cons .int (.cons .int (.cons .int (.cons .int (.cons .int .nil))))))) (fun _=>.aggL (.cons .int (.cons .int (.cons .int (.cons .int (.cons .int (.cons .int .nil))))))) FlL.nil (FlL.cons (.int) FlL.nil)) rfl rfl ?_
      refine S.d 5 rfl rfl ?_
      refine D.nil (by kernel_rfl) ?_
      refine X.seq ?_
      refine X.still ?_
      obtain ⟨q24,Hq24,h⟩:=Option.bind_eq_some_iff.1 h
      refine O.c (chattellaw12_wakes.cs Hq24) rfl rfl rfl ?_
      refine S.r 1 rfl rfl ?_
      refine O.split (fun c=>?_) (fun c=>?_)
      · rw [if_pos c] at h
        refine S.r 4 rfl rfl ?_
        refine O.splitE (fun c=>?_) (fun c=>?_)
        · rw [if_pos c] at h
          refine S.r 4 rfl rfl ?_
          refine O.splitE (fun c=>?_) (fun c=>?_)
          · rw [if_pos c] at h
            refine S.r 4 rfl rfl ?_
            refine O.splitE (fun c=>?_) (fun c=>?_)
            · rw [if_pos c] at h
              refine S.r 4 rfl rfl ?_
              refine O.splitE (fun c=>?_) (fun c=>?_)
              · rw [if_pos c] at h
                refine S.r 4 rfl rfl ?_
                refine O.splitE (fun c=>?_) (fun c=>?_)
                · rw [if_pos c] at h
                  refine S.r 2 rfl rfl ?_
                  obtain ⟨q25,Hq25,h⟩:=Option.bind_eq_some_iff.1 h
                  refine G.pu (W.t rfl rfl) (U.call (ss:=[33,46]) (.cons (.tmp (v:=.os _ _ _ _ _) rfl) (.cons (.tmp (v:=.os _ _ _ _ _) rfl) .nil)) (.cons (.osVf (by simp) rfl (Mode.live_ne rfl) rfl (ClL.map fun _=>.aggL (.cons .int (.cons .int (.cons .int (.cons .int (.cons .int (.cons .int .nil))))))) (by first|rfl|(simp only [List.length_map,List.length_append,List.length_cons,List.length_nil] at *;done)|(simp only [List.length_map,List.length_append,List.length_cons,List.length_nil] at *;omega))) (.cons (.osVf (by simp) rfl (Mode.live_ne rfl) rfl (ClL.map fun _=>.aggL (.cons .int (.cons .int (.cons .int (.cons .int (.cons .int (.cons .int .nil))))))) (by first|rfl|(simp only [List.length_map,List.length_append,List.length_cons,List.length_nil] at *;done)|(simp only [List.length_map,List.length_append,List.length_cons,List.length_nil] at *;omega))) .nil)) (split_Part.cs Hq25) (.inr (.bool)) (.bool)) ?_
                  refine S.r 2 rfl rfl ?_
                  refine O.split (fun c=>?_) (fun c=>?_)
                  · rw [if_pos c] at h
                    refine S.r 2 rfl rfl ?_
                    repeat (rw [giff] at h;obtain ⟨_,h⟩:=h)
                    refine G.ef (W.t rfl rfl) (U.appendSE (en:=en55) (u':=1) rfl (.tmp rfl) rfl (by first|rfl|(simp only [List.length_append,List.length_cons,List.length_nil] at *;omega)) (.tmp rfl) (.osVf (List.mem_singleton.2 rfl) rfl (Mode.live_ne rfl) rfl (ClL.map fun _=>.aggL (.cons .int (.cons .int (.cons .int (.cons .int (.cons .int (.cons .int .nil))))))) (by simp)) rfl (fun _=>⟨rfl,rfl⟩) (by simp only [maxLen,List.length_cons,List.length_nil];omega) (by simp only [List.length_cons,List.length_nil];omega) rfl) ?_
                    refine S.r 1 rfl rfl ?_
                    obtain ⟨q26,Hq26,h⟩:=Option.bind_eq_some_iff.1 h
                    refine G.pu (W.t rfl rfl) (U.call (ss:=[86,118]) (.cons (.tmp (v:=.os _ _ _ _ _) rfl) (.cons (.tmp (v:=.os _ _ _ _ _) rfl) .nil)) (.cons (.osVf (by simp) rfl (Mode.live_ne rfl) rfl (ClL.map fun _=>.aggL (.cons .int (.cons .int (.cons .int (.cons .int (.cons .int (.cons .int .nil))))))) (by first|rfl|(simp only [List.length_map,List.length_append,List.length_cons,List.length_nil] at *;done)|(simp only [List.length_map,List.length_append,List.length_cons,List.length_nil] at *;omega))) (.cons (.osVf (by simp) rfl (Mode.live_ne rfl) rfl (ClL.map fun _=>.aggL (.cons .int (.cons .int (.cons .int (.cons .int (.cons .int (.cons .int .nil))))))) (by first|rfl|(simp only [List.length_map,List.length_append,List.length_cons,List.length_nil] at *;done)|(simp only [List.length_map,List.length_append,List.length_cons,List.length_nil] at *;omega))) .nil)) (split_Part.cs Hq26) (.inr (.bool)) (.bool)) ?_
                    refine S.e 2 rfl rfl ?_
                    refine X.ret ?_
                    cases h
                    exact S.R rfl rfl rfl
                  · rw [if_neg (bf c)] at h
                    refine S.e 7 rfl rfl ?_
                    refine X.ret ?_
                    cases h
                    exact S.R rfl rfl rfl
                · rw [if_neg c] at h
                  refine S.e 12 rfl rfl ?_
                  refine X.ret ?_
                  cases h
                  exact S.R rfl rfl rfl
              · rw [if_neg c] at h
                refine S.e 16 rfl rfl ?_
                refine X.ret ?_
                cases h
                exact S.R rfl rfl rfl
            · rw [if_neg c] at h
              refine S.e 20 rfl rfl ?_
              refine X.ret ?_
              cases h
              exact S.R rfl rfl rfl
          · rw [if_neg c] at h
            refine S.e 24 rfl rfl ?_
            refine X.ret ?_
            cases h
            exact S.R rfl rfl rfl
        · rw [if_neg c] at h
          refine S.e 28 rfl rfl ?_
          refine X.ret ?_
          cases h
          exact S.R rfl rfl rfl
      · rw [if_neg (bf c)] at h
        refine S.e 32 rfl rfl ?_
        refine X.ret ?_
        cases h
        exact S.R rfl rfl rfl
    · refine S.D 4 rfl rfl ?_
      refine D.puE (v':=.os 84 (1) 0 _ true) (b':=⟨1, .own,_,_⟩) (U.litS (en:=en28) (l:=[⟨_,_,_⟩]) rfl (.cons (.tmp (v:=.agg _) rfl) rfl .nil) rfl rfl rfl (fun _=>rfl)) rfl rfl ?_
      repeat (rw [giff] at h;obtain ⟨_,h⟩:=h)
      refine D.ef (C.apP (en:=en28) (List.reverse q3) (q1.2.2.2.2.2.2 ++ List.drop (List.length q1.2.2.2.2.2.2) []) rfl (.tmp rfl) rfl (by simp) (by simp) (.tmp (v:=.os _ _ _ _ _) rfl) (.osVf (List.mem_singleton.2 rfl) rfl (Mode.live_ne rfl) rfl (ClL.map fun _=>.aggL (.cons .int (.cons .int (.cons .int .nil)))) (by simp)) rfl (fun _=>⟨rfl,rfl⟩) (by simp only [List.length_reverse,List.length_cons,List.length_nil] at *;omega)) ?_
      obtain ⟨q27,Hq27,h⟩:=Option.bind_eq_some_iff.1 h
      refine D.puE (v':=.tup [.os 86 (1) 0 _ true,_]) (b':=⟨1, .own,_,_⟩) (U.callTV (en:=en55) (ss:=[10]) [] [_] (.cons (.tmp (v:=.agg _) rfl) (.cons (.tmp (v:=.agg _) rfl) (.cons (.tmp (v:=.os _ _ _ _ _) rfl) .nil))) (.cons (.cl (.aggL (.cons .int (.cons .int (.cons .int .nil))))) (.cons (.cl (.aggL (.cons .int (.cons .int (.cons .int .nil))))) (.cons (Snap.pre (en:=en28) _ _ (by simp) rfl (by simp) (fun _=>.aggL (.cons .int (.cons .int (.cons .int .nil))))) .nil))) (split_Parts.csF Hq27) (fun _=>.aggL (.cons .int (.cons .int (.cons .int (.cons .int (.cons .int (.cons .int .nil))))))) (fun _=>.aggL (.cons .int (.cons .int (.cons .int (.cons .int (.cons .int (.cons .int .nil))))))) FlL.nil (FlL.cons (.int) FlL.nil)) rfl rfl ?_
      refine S.d 5 rfl rfl ?_
      refine D.nil (by kernel_rfl) ?_
      refine X.seq ?_
      refine X.still ?_
      obtain ⟨q28,Hq28,h⟩:=Option.bind_eq_some_iff.1 h
      refine O.c (chattellaw12_wakes.cs Hq28) rfl rfl rfl ?_
      refine S.r 1 rfl rfl ?_
      refine O.split (fun c=>?_) (fun c=>?_)
      · rw [if_pos c] at h
        refine S.r 4 rfl rfl ?_
        refine O.splitE (fun c=>?_) (fun c=>?_)
        · rw [if_pos c] at h
          refine S.r 4 rfl rfl ?_
          refine O.splitE (fun c=>?_) (fun c=>?_)
          · rw [if_pos c] at h
            refine S.r 4 rfl rfl ?_
            refine O.splitE (fun c=>?_) (fun c=>?_)
            · rw [if_pos c] at h
              refine S.r 4 rfl rfl ?_
              refine O.splitE (fun c=>?_) (fun c=>?_)
              · rw [if_pos c] at h
                refine S.r 4 rfl rfl ?_
                refine O.splitE (fun c=>?_) (fun c=>?_)
                · rw [if_pos c] at h
                  refine S.r 2 rfl rfl ?_
                  obtain ⟨q29,Hq29,h⟩:=Option.bind_eq_some_iff.1 h
                  refine G.pu (W.t rfl rfl) (U.call (ss:=[33,46]) (.cons (.tmp (v:=.os _ _ _ _ _) rfl) (.cons (.tmp (v:=.os _ _ _ _ _) rfl) .nil)) (.cons (.osVf (by simp) rfl (Mode.live_ne rfl) rfl (ClL.map fun _=>.aggL (.cons .int (.cons .int (.cons .int (.cons .int (.cons .int (.cons .int .nil))))))) (by first|rfl|(simp only [List.length_map,List.length_append,List.length_cons,List.length_nil] at *;done)|(simp only [List.length_map,List.length_append,List.length_cons,List.length_nil] at *;omega))) (.cons (.osVf (by simp) rfl (Mode.live_ne rfl) rfl (ClL.map fun _=>.aggL (.cons .int (.cons .int (.cons .int (.cons .int (.cons .int (.cons .int .nil))))))) (by first|rfl|(simp only [List.length_map,List.length_append,List.length_cons,List.length_nil] at *;done)|(simp only [List.length_map,List.length_append,List.length_cons,List.length_nil] at *;omega))) .nil)) (split_Part.cs Hq29) (.inr (.bool)) (.bool)) ?_
                  refine S.r 2 rfl rfl ?_
                  refine O.split (fun c=>?_) (fun c=>?_)
                  · rw [if_pos c] at h
                    refine S.r 2 rfl rfl ?_
                    repeat (rw [giff] at h;obtain ⟨_,h⟩:=h)
                    refine G.ef (W.t rfl rfl) (U.appendSE (en:=en55) (u':=1) rfl (.tmp rfl) rfl (by first|rfl|(simp only [List.length_append,List.length_cons,List.length_nil] at *;omega)) (.tmp rfl) (.osVf (List.mem_singleton.2 rfl) rfl (Mode.live_ne rfl) rfl (ClL.map fun _=>.aggL (.cons .int (.cons .int (.cons .int (.cons .int (.cons .int (.cons .int .nil))))))) (by simp)) rfl (fun _=>⟨rfl,rfl⟩) (by simp only [maxLen,List.length_cons,List.length_nil];omega) (by simp only [List.length_cons,List.length_nil];omega) rfl) ?_
                    refine S.r 1 rfl rfl ?_
                    obtain ⟨q30,Hq30,h⟩:=Option.bind_eq_some_iff.1 h
                    refine G.pu (W.t rfl rfl) (U.call (ss:=[86,118]) (.cons (.tmp (v:=.os _ _ _ _ _) rfl) (.cons (.tmp (v:=.os _ _ _ _ _) rfl) .nil)) (.cons (.osVf (by simp) rfl (Mode.live_ne rfl) rfl (ClL.map fun _=>.aggL (.cons .int (.cons .int (.cons .int (.cons .int (.cons .int (.cons .int .nil))))))) (by first|rfl|(simp only [List.length_map,List.length_append,List.length_cons,List.length_nil] at *;done)|(simp only [List.length_map,List.length_append,List.length_cons,List.length_nil] at *;omega))) (.cons (.osVf (by simp) rfl (Mode.live_ne rfl) rfl (ClL.map fun _=>.aggL (.cons .int (.cons .int (.cons .int (.cons .int (.cons .int (.cons .int .nil))))))) (by first|rfl|(simp only [List.length_map,List.length_append,List.length_cons,List.length_nil] at *;done)|(simp only [List.length_map,List.length_append,List.length_cons,List.length_nil] at *;omega))) .nil)) (split_Part.cs Hq30) (.inr (.bool)) (.bool)) ?_
                    refine S.e 2 rfl rfl ?_
                    refine X.ret ?_
                    cases h
                    exact S.R rfl rfl rfl
                  · rw [if_neg (bf c)] at h
                    refine S.e 7 rfl rfl ?_
                    refine X.ret ?_
                    cases h
                    exact S.R rfl rfl rfl
                · rw [if_neg c] at h
                  refine S.e 12 rfl rfl ?_
                  refine X.ret ?_
                  cases h
                  exact S.R rfl rfl rfl
              · rw [if_neg c] at h
                refine S.e 16 rfl rfl ?_
                refine X.ret ?_
                cases h
                exact S.R rfl rfl rfl
            · rw [if_neg c] at h
              refine S.e 20 rfl rfl ?_
              refine X.ret ?_
              cases h
              exact S.R rfl rfl rfl
          · rw [if_neg c] at h
            refine S.e 24 rfl rfl ?_
            refine X.ret ?_
            cases h
            exact S.R rfl rfl rfl
        · rw [if_neg c] at h
          refine S.e 28 rfl rfl ?_
          refine X.ret ?_
          cases h
          exact S.R rfl rfl rfl
      · rw [if_neg (bf c)] at h
        refine S.e 32 rfl rfl ?_
        refine X.ret ?_
        cases h
        exact S.R rfl rfl rfl
end Go.Proofs.YtakidmbnkkhojaaGreat
end
