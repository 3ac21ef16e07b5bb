import Derived.Test.YtakidmbnkkhojaaGreatC942X
import Derived.Sort.WalkA
import Derived.Shelf.GgSortFunc.RowK
namespace Go.Proofs.YtakidmbnkkhojaaGreat
open Go.RowKit Go.Sort Go.Lib Go.Proofs.YtakidmbnkkhojaaGreatW.PrintWords Go.Proofs.YtakidmbnkkhojaaGreatW.PrintLast Go.Proofs.YtakidmbnkkhojaaGreatW.PrintMore Go.Proofs.YtakidmbnkkhojaaGreatX
set_option linter.unusedVariables false
set_option linter.unusedSimpArgs false
abbrev D3:=Int×Int×Int
def enD (x:D3):List Value:=[.int .i64 x.1, .int .i64 x.2.1, .int .i64 x.2.2]
def c3 (x y:Int):Int:=if x < y then -1 else if y < x then 1 else 0
def o3 (a b c:Int):Int:=if a=0 then (if b=0 then c else b) else a
def cmpD (x y:D3):Int:=o3 (c3 x.1 y.1) (c3 x.2.1 y.2.1) (c3 x.2.2 y.2.2)
theorem hNaN (x:Int) (w:World):Calls Tryz.prog 104 #[.int .i64 x] w fun e w'=>e = .returned (.bool false)∧w'=w:=by
  go_enter Tryz.func104,Tryz.ntmps104
  go_wp2
  go_ret
  exact ⟨rfl,rfl⟩
set_option maxHeartbeats 1000000 in
theorem hCmp (x y:Int) (w:World):Calls Tryz.prog 71 #[.int .i64 x, .int .i64 y] w fun e w'=>e = .returned (.int .i64 (c3 x y))∧w'=w:=by
  have hn:=fun z w=>hNaN z w
  by_cases h1:x < y
  · have e:c3 x y = -1:=if_pos h1
    rw [e]
    clear e
    go_enter Tryz.func71,Tryz.ntmps71
    go_wp2_with (go_at_call 104;refine (hn _ _).mono ?_;rintro e w' ⟨rfl,rfl⟩)
    go_ret
    exact ⟨rfl,rfl⟩
  · by_cases h2:y < x
    · have e:c3 x y=1:=by unfold c3;rw [if_neg h1,if_pos h2]
      rw [e]
      clear e
      go_enter Tryz.func71,Tryz.ntmps71
      go_wp2_with (go_at_call 104;refine (hn _ _).mono ?_;rintro e w' ⟨rfl,rfl⟩)
      go_ret
      exact ⟨rfl,rfl⟩
    · have e:c3 x y=0:=by unfold c3;rw [if_neg h1,if_neg h2]
      rw [e]
      clear e
      go_enter Tryz.func71,Tryz.ntmps71
      go_wp2_with (go_at_call 104;refine (hn _ _).mono ?_;rintro e w' ⟨rfl,rfl⟩)
      go_ret
      exact ⟨rfl,rfl⟩
def g3 (a b c:Int) (k:Nat):Int:=match k with|0=>a|1=>b|_=>c
theorem o3_at (a b c:Int) {k:Nat} (hk:k < 3) (h0:g3 a b c k≠0) (hz : ∀ j,j < k→g3 a b c j=0):o3 a b c=g3 a b c k:=by
  unfold o3
  match k,hk with
  | 0,_=>exact if_neg h0
  | 1,_=>rw [if_pos (show a=0 from hz 0 (by decide)),if_neg (show ¬ b=0 from h0)];rfl
  | 2,_=>rw [if_pos (show a=0 from hz 0 (by decide)),if_pos (show b=0 from hz 1 (by decide))];rfl
theorem o3_none (a b c:Int) (hz : ∀ j,j < 3→g3 a b c j=0):o3 a b c=0:=by
  unfold o3
  rw [if_pos (show a=0 from hz 0 (by decide)),if_pos (show b=0 from hz 1 (by decide))]
  exact hz 2 (by decide)
set_option maxHeartbeats 1000000 in
theorem hOr (b off:Nat) (x y z:Int) (w:World) (hc : ∀ k,k < 3→w.cell? ⟨b,off + k,none⟩=some (.int .i64 (g3 x y z k))) :
    Calls Tryz.prog 70 #[.slice (some ⟨b,off,none⟩) 3 3] w fun e w'=>e = .returned (.int .i64 (o3 x y z))∧w'=w:=by
  have O1:=fun k hk h0 hz=>o3_at x y z (k:=k) hk h0 hz
  have O2:=o3_none x y z
  generalize g3 x y z=f at *
  generalize o3 x y z=r at *
  have A1:Aside (∀ k,k < 3→f k≠0→(∀ j,j < k→f j=0)→r=f k):=O1
  have A2:Aside ((∀ j,j < 3→f j=0)→r=0):=O2
  have AC:Aside (∀ k,k < 3→w.cell? ⟨b,off + k,none⟩=some (.int .i64 (f k))):=hc
  clear O1 O2 hc
  go_enter Tryz.func70,Tryz.ntmps70
  go_wp2
  go_loopg [5,8] 3 (fun g s5 s8 wr=>∃ k:Nat,k≤3∧3 - k≤g∧s8 = .int .i64 k∧wr=w∧Aside (∀ j,j < k→f j=0))
  case atStart=>exact ⟨0,Nat.zero_le _,by omega,rfl,rfl,fun j hj=>absurd hj (Nat.not_lt_zero _)⟩
  case round =>
    obtain ⟨k,hk,hg,rfl,rfl,AZ⟩:=hrel
    by_cases hlt:k < 3
    · have hc:=AC.out k hlt
      have hl:(k:Int) < 3:=by omega
      by_cases hz:f k=0
      · rw [hz] at hc
        go_wp2
        go_roundg (3 - (k + 1))
        case measure=>omega
        case rel =>
          refine ⟨k + 1,by omega,Nat.le_refl _,by go_num,rfl,fun j hj=>?_⟩
          by_cases e:j=k
          · subst e;exact hz
          · exact AZ.out j (by omega)
      · have e:=A1.out k hlt hz AZ.out
        generalize f k=v at *
        go_wp2
        go_ret
        exact ⟨by rw [e];rfl,rfl⟩
    · have hl : ¬ (k:Int) < 3:=by omega
      have e:=A2.out (fun j hj=>AZ.out j (by omega))
      subst e
      go_wp2
      go_ret
      exact ⟨rfl,rfl⟩
end Go.Proofs.YtakidmbnkkhojaaGreat
