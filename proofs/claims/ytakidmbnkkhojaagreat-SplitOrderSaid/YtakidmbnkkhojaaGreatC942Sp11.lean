import Derived.Test.YtakidmbnkkhojaaGreatC942Sp10
namespace Go.Proofs.YtakidmbnkkhojaaGreat
open Go.RowKit Go.Sort Go.Lib Go.Shelf Go.Proofs Go.Proofs.YtakidmbnkkhojaaGreatW.PrintWords Go.Proofs.YtakidmbnkkhojaaGreatW.PrintLast Go.Proofs.YtakidmbnkkhojaaGreatW.PrintMore
set_option linter.unusedVariables false
set_option linter.unusedSimpArgs false
set_option maxRecDepth 100000
theorem hIndex0 (A:Option Addr) (cap g:Nat) (lb:Array Value) (w:World):Calls Tryz.prog 75 #[.slice A 0 cap, .func (.func g) #[] lb] w fun e w'=>e = .returned (.int .i64 (-1))∧w'=w:=by
  go_enter Tryz.func75,Tryz.ntmps75
  go_wp2
  go_loopg [5,8] 0 (fun gg s5 s8 wr=>s8 = .int .i64 0∧wr=w)
  case atStart=>exact ⟨rfl,rfl⟩
  case round =>
    obtain ⟨rfl,rfl⟩:=hrel
    go_wp2
    go_ret
    exact ⟨rfl,rfl⟩
theorem hDel0 (g:Nat) (lb:Array Value) (w:World):Calls Tryz.prog 35 #[.slice none 0 0, .func (.func g) #[] lb] w fun e w'=>e = .returned (.slice none 0 0)∧w'=w:=by
  go_enter Tryz.func35,Tryz.ntmps35
  go_wp2_with (go_at_call 75;refine (hIndex0 _ _ _ _ _).mono ?_;rintro e w1 ⟨rfl,rfl⟩)
  go_ret
  exact ⟨rfl,rfl⟩
theorem hIns0 (f:Value) (w:World):Calls Tryz.prog 106 #[.slice none 0 0, .int .i64 0, .int .i64 0,f] w fun e w'=>e = .returned (.tuple #[])∧w'=w:=by
  go_enter Tryz.func106,Tryz.ntmps106
  go_wp2
  go_loopg [8] 0 (fun gg s8 wr=>s8 = .int .i64 1∧wr=w)
  case atStart=>exact ⟨rfl,rfl⟩
  case round =>
    obtain ⟨rfl,rfl⟩:=hrel
    go_wp2
    go_end0
    exact ⟨rfl,rfl⟩
set_option maxHeartbeats 2000000 in
theorem hPdq0 (f lim:Value) (w:World):Calls Tryz.prog 76 #[.slice none 0 0, .int .i64 0, .int .i64 0,lim,f] w fun e w'=>e = .returned (.tuple #[])∧w'=w:=by
  go_enter Tryz.func76,Tryz.ntmps76
  go_wp2
  go_loopg [1,2] 0 (fun gg s1 s2 wr=>s1 = .int .i64 0∧s2 = .int .i64 0∧wr=w)
  case atStart=>exact ⟨rfl,rfl,rfl⟩
  case round =>
    obtain ⟨rfl,rfl,rfl⟩:=hrel
    go_wp2_with (go_at_call 106;refine (hIns0 _ _).mono ?_;rintro e w1 ⟨rfl,rfl⟩)
    refine bodyPost_ret (results_none rfl _ _ _) rfl ?_
    exact ⟨rfl,rfl⟩
theorem hLen0 (w:World):Calls Tryz.prog 77 #[.int .u64 0] w fun e w'=>(∃ l:Int,e = .returned (.int .i64 l))∧w'=w:=by
  have h:=Any.bits_Len (SlLaysF0.n15.bits (P:=Tryz.prog) (ρ:=sren) {slays with}) 0 w (by omega) (by omega)
  exact h.mono fun e w' ⟨he,hw⟩=>⟨⟨_,he⟩,hw⟩
theorem hSort0 (f:Value) (w:World):Calls Tryz.prog 37 #[.slice none 0 0,f] w fun e w'=>e = .returned (.tuple #[])∧w'=w:=by
  go_enter Tryz.func37,Tryz.ntmps37
  go_wp2_with (first|(go_at_call 77;refine (hLen0 _).mono ?_;rintro e w1 ⟨⟨l,rfl⟩,rfl⟩)|(go_at_call 76;refine (hPdq0 _ _ _).mono ?_;rintro e w1 ⟨rfl,rfl⟩))
  go_end0
  exact ⟨rfl,rfl⟩
end Go.Proofs.YtakidmbnkkhojaaGreat
