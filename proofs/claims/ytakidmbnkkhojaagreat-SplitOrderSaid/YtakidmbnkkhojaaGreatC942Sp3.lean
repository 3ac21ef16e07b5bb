import Derived.Test.YtakidmbnkkhojaaGreatC942Sp2
namespace Go.Proofs.YtakidmbnkkhojaaGreat
open Go.RowKit Go.Sort Go.Lib Go.Shelf Go.Proofs
set_option linter.unusedVariables false
theorem cmpD_lt (x y:D3):cmpD x y < 0 ↔ x.1 < y.1∨(x.1=y.1∧(x.2.1 < y.2.1∨(x.2.1=y.2.1∧x.2.2 < y.2.2))):=by
  unfold cmpD o3 c3
  (repeat' split) <;> omega
theorem cmpD_gt (x y:D3):cmpD x y > 0 ↔ y.1 < x.1∨(x.1=y.1∧(y.2.1 < x.2.1∨(x.2.1=y.2.1∧y.2.2 < x.2.2))):=by
  unfold cmpD o3 c3
  (repeat' split) <;> omega
theorem ltD (x y:D3):ltOf cmpD x y=decide (cmpD x y < 0):=rfl
theorem swoD:SWO (ltOf cmpD) where
  irrefl x:=by
    rw [ltD,decide_eq_false_iff_not,cmpD_lt];omega
  trans x y z h1 h2:=by
    rw [ltD,decide_eq_true_iff,cmpD_lt] at *;omega
  ntrans x y z h1 h2:=by
    rw [ltD,decide_eq_false_iff_not,cmpD_lt] at *;omega
theorem enters26 : ∀ args w,(callFunc 26 args).run Tryz.prog w = .ok (.enter 26 args) w:=enters_of Tryz.func26 (by kernel_rfl) rfl
theorem hSort (blk off cap:Nat) (d:Array D3) (w:World) (hH:HoldsK enD 3 w blk off d) (hblk:blk < w.heap.size) (hsz:d.size < 4611686018427387904) :
    Calls Tryz.prog 37 #[.slice (some ⟨blk,off,none⟩) d.size cap, .func (.func 26) #[] #[]] w fun e w'=>e = .returned (.tuple #[])∧∃ d' n os,PermIn 0 d.size d d'∧SortedIn (ltOf cmpD) 0 d.size d'∧w'=sortWorldK enD 3 w blk off n d' os:=by
  have h:=AnyQ.slices_SortFunc slays 3 Tryz.isAgg28 Tryz.sizeOf28 enD (fun _=>rfl) (fun x v hv=>by simp [enD] at hv;rcases hv with rfl|rfl|rfl <;> rfl) cmpD swoD 26 #[] blk off cap d w enters26
    (fun m os dk hs x y=>hDate x.1 x.2.1 x.2.2 y.1 y.2.1 y.2.2 _) hH hblk hsz
  exact h
end Go.Proofs.YtakidmbnkkhojaaGreat
