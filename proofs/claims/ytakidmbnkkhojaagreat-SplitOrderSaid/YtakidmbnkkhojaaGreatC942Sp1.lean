import Derived.Test.YtakidmbnkkhojaaGreatC942Sp0
import Derived.Shelf.SlSortCmp.WholeK
import Derived.StillTailTactics
namespace Go.Proofs.YtakidmbnkkhojaaGreat
open Go.RowKit Go.Sort Go.Lib Go.Shelf Go.Proofs.YtakidmbnkkhojaaGreatW.PrintWords Go.Proofs.YtakidmbnkkhojaaGreatW.PrintLast Go.Proofs.YtakidmbnkkhojaaGreatW.PrintMore Go.Proofs.YtakidmbnkkhojaaGreatX
set_option linter.unusedVariables false
theorem cells3 {W:World} {b t:Nat} {x y z:Int} (hb:b=W.heap.size) (k:Nat) (hk:k < 3):(W.alloc (.cells #[.int .i64 x, .int .i64 y, .int .i64 z] t)).drew.cell? ⟨b,0 + k,none⟩=some (.int .i64 (g3 x y z k)):=by
  show (W.alloc (.cells #[.int .i64 x, .int .i64 y, .int .i64 z] t)).cell? ⟨b,0 + k,none⟩=_
  rw [World.cell?_alloc_at _ _ _ _ hb]
  match k,hk with
  | 0,_=>rfl
  | 1,_=>rfl
  | 2,_=>rfl
set_option maxHeartbeats 4000000 in
set_option maxRecDepth 100000 in
theorem hDate (x0 x1 x2 y0 y1 y2:Int) (w:World):Calls Tryz.prog 26 #[.agg #[.int .i64 x0, .int .i64 x1, .int .i64 x2], .agg #[.int .i64 y0, .int .i64 y1, .int .i64 y2]] w fun e w'=>e = .returned (.int .i64 (o3 (c3 x0 y0) (c3 x1 y1) (c3 x2 y2)))∧∃ q os',w'=grow (w.drewN q) os':=by
  have h1:=fun x y w=>hCmp x y w
  have h2:=fun b off x y z w hc=>hOr b off x y z w hc
  generalize c3=c at *
  generalize o3=o at *
  go_enter Tryz.func26,Tryz.ntmps26
  go_wp2_with fail
  refine wp_region_still_tail 15 (by kernel_rfl) (by kernel_rfl) ?_
  simp only [List.take_succ_cons,List.take_zero,List.drop_succ_cons,List.drop_zero]
  change wpStill _ _ (World.drew _) _ _ _
  repeat (first|still_step|still_call (h1 _ _ _))
  refine wpStill_nil ?_
  change wpList _ _ _ _ _ (World.drew _)
  go_wp2_with ((go_at_call 70;refine (h2 _ 0 _ _ _ _ (fun k hk=>cells3 (by go_simp) k hk)).mono ?_;rintro e w' ⟨rfl,rfl⟩))
  go_ret
  exact ⟨rfl,1,_,by rw [alloc_eq_grow,alloc_eq_grow,alloc_eq_grow,grow_grow,grow_grow];rfl⟩
end Go.Proofs.YtakidmbnkkhojaaGreat
