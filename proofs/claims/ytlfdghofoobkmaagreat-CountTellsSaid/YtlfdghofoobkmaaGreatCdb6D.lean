import Derived.ArgAppend
import Derived.Below
import Derived.BigQuiet
import Derived.Deep.AppendLies
import Derived.Deep.CutBlock
import Derived.Deep.DeepCutAuto
import Derived.Deep.Draws
import Derived.Deep.LoopGhost
import Derived.Deep.OwnRows
import Derived.Deep.QuietTactic
import Derived.Deep.RegionHeld3
import Derived.KernelRfl
import Derived.Laws.BitsLemmas
import Derived.Laws.BytesArg
import Derived.Laws.IdiomCopy
import Derived.Laws.MakeOwn
import Derived.Laws.OwnMore
import Derived.Laws.Rows
import Derived.Laws.Slices
import Derived.Lib.AppendStr
import Derived.Lib.ConvBytes
import Derived.Maps.AppendAt
import Derived.OrdersHeld
import Derived.OwnWalk
import Derived.RowKit
import Derived.RowKit3
import Derived.Tactics
import Derived.Test.YtlfdghofoobkmaaGreatProg
import Derived.Test.YtlfdghofoobkmaaGreatCdb6WApart
import Derived.Test.YtlfdghofoobkmaaGreatCdb6WArr
import Derived.Test.YtlfdghofoobkmaaGreatCdb6WN
import Derived.Test.YtlfdghofoobkmaaGreatCdb6WWords
import Derived.Laws.StructEq
import Derived.Test.YtlfdghofoobkmaaGreatCdb6WFoot
import Derived.Test.YtlfdghofoobkmaaGreatCdb6WLast
import Derived.Test.YtlfdghofoobkmaaGreatCdb6WKept
import Derived.Test.YtlfdghofoobkmaaGreatCdb6WMore
import Derived.Test.YtlfdghofoobkmaaGreatCdb6WRepsOne
import Derived.Test.YtlfdghofoobkmaaGreatCdb6WShare
import Derived.Test.YtlfdghofoobkmaaGreatCdb6X
import Derived.WalkKit
import Derived.WideLaws
namespace Go.Proofs.YtlfdghofoobkmaaGreat.F
open Go.RowKit Go.Proofs.YtlfdghofoobkmaaGreatW.PrintWords Go.Proofs.YtlfdghofoobkmaaGreatW.PrintLast Go.Proofs.YtlfdghofoobkmaaGreatW.PrintMore Go.Proofs.YtlfdghofoobkmaaGreatX
set_option linter.unusedVariables false
set_option linter.unusedSimpArgs false
def chattelref09_Cmp.l0:Nat→List Int→List Int→Int→Option (Int)
  | 0,_,_,_=>none
  | k + 1,x5,x6,x7=>if x7 < 3 then (if 0≤x7 then (if x7 < (x5.length:Int) then (if x7 < (x6.length:Int) then (if (rd x5 x7) < (rd x6 x7) then (some (-1)) else (if (rd x5 x7) > (rd x6 x7) then (some 1) else (chattelref09_Cmp.l0 k x5 x6 (wrap64 (x7 + 1))))) else (none)) else (none)) else (none)) else (some 0)
def chattelref09_Cmp.f (k:Nat) (a0_0:Int) (a0_1:Int) (a0_2:Int) (a1_0:Int) (a1_1:Int) (a1_2:Int):Option (Int):=chattelref09_Cmp.l0 k (([a0_0,a0_1,a0_2]:List Int)) (([a1_0,a1_1,a1_2]:List Int)) 0
def chattelref09_Leap.j0:Nat→Int→Bool→Option (Bool)
  | 0,_,_=>none
  | k + 1,x0,x8=>if x8=true then (some false) else (if (Int.tmod x0 400)=0 then (some true) else (if (Int.tmod x0 4)=0 then (some ((Int.tmod x0 100) != 0)) else (some false)))
def chattelref09_Leap.f (k:Nat) (a0:Int):Option (Bool):=if a0 < 1 then (chattelref09_Leap.j0 k a0 true) else (chattelref09_Leap.j0 k a0 (decide (a0 > 9999)))
def chattelref09_Days.j0:Nat→Int→Int→Bool→Option (Int)
  | 0,_,_,_=>none
  | k + 1,x0,x1,x19=>if x19=true then (some 0) else (if x1=2 then ((chattelref09_Leap.f k x0).bind fun t113=>(if t113=true then (some 29) else (some 28))) else (if x1=4 then (some 30) else (if x1=6 then (some 30) else (if x1=9 then (some 30) else (if x1=11 then (some 30) else (some 31))))))
def chattelref09_Days.f (k:Nat) (a0:Int) (a1:Int):Option (Int):=if a0 < 1 then (chattelref09_Days.j0 k a0 a1 true) else (if a0 > 9999 then (chattelref09_Days.j0 k a0 a1 true) else (if a1 < 1 then (chattelref09_Days.j0 k a0 a1 true) else (chattelref09_Days.j0 k a0 a1 (decide (a1 > 12)))))
def chattelref09_Make.j0:Nat→Int→Int→Int→Int→Option (Int×Int×Int)
  | 0,_,_,_,_=>none
  | k + 1,x5,x115000,x115001,x115002=>if (Int.tmod x115001 12) < 0 then ((chattelref09_Days.f k (wrap64 (x5 + 1)) (wrap64 ((wrap64 ((Int.tmod x115001 12) + 12)) + 1))).bind fun t116=>(if t116=0 then (none) else (if (Int.tmod x115002 t116) < 0 then (some (wrap64 (x5 + 1),wrap64 ((wrap64 ((Int.tmod x115001 12) + 12)) + 1),wrap64 ((wrap64 ((Int.tmod x115002 t116) + t116)) + 1))) else (some (wrap64 (x5 + 1),wrap64 ((wrap64 ((Int.tmod x115001 12) + 12)) + 1),wrap64 ((Int.tmod x115002 t116) + 1)))))) else ((chattelref09_Days.f k (wrap64 (x5 + 1)) (wrap64 ((Int.tmod x115001 12) + 1))).bind fun t117=>(if t117=0 then (none) else (if (Int.tmod x115002 t117) < 0 then (some (wrap64 (x5 + 1),wrap64 ((Int.tmod x115001 12) + 1),wrap64 ((wrap64 ((Int.tmod x115002 t117) + t117)) + 1))) else (some (wrap64 (x5 + 1),wrap64 ((Int.tmod x115001 12) + 1),wrap64 ((Int.tmod x115002 t117) + 1))))))
def chattelref09_Make.f (k:Nat) (a0_0:Int) (a0_1:Int) (a0_2:Int) (a1:Int):Option (Int×Int×Int):=if a1=0 then (none) else (if (Int.tmod a0_0 a1) < 0 then (chattelref09_Make.j0 k (wrap64 ((Int.tmod a0_0 a1) + a1)) a0_0 a0_1 a0_2) else (chattelref09_Make.j0 k (Int.tmod a0_0 a1) a0_0 a0_1 a0_2))
def chattellaw11_near.f (k:Nat) (a0_0:Int) (a0_1:Int) (a0_2:Int) (a1_0:Int) (a1_1:Int) (a1_2:Int):Option (Int×Int×Int×Int×Int×Int):=(chattelref09_Make.f k a0_0 a0_1 a0_2 9980).bind fun bt122=>((chattelref09_Make.f k a1_0 a1_1 a1_2 12).bind fun bt126=>((chattelref09_Days.f k (wrap64 (bt126.1 + bt122.1)) bt126.2.1).bind fun t130=>((chattelref09_Cmp.f k bt122.1 bt122.2.1 bt122.2.2 (wrap64 (bt126.1 + bt122.1)) bt126.2.1 (mn bt126.2.2 t130)).bind fun t131=>(if t131 > 0 then (some (wrap64 (bt126.1 + bt122.1),bt126.2.1,mn bt126.2.2 t130,bt122.1,bt122.2.1,bt122.2.2)) else (some (bt122.1,bt122.2.1,bt122.2.2,wrap64 (bt126.1 + bt122.1),bt126.2.1,mn bt126.2.2 t130))))))
def count_Basis_good.f (a0:Int):Option (Bool):=if a0 ≥ 0 then (some (decide (a0 < 3))) else (some false)
def date_good.f (a0:Int):Option (Bool):=if a0 ≥ 1 then (some (decide (a0≤9999))) else (some false)
def date_Leap.f (a0:Int):Option (Bool):=(date_good.f a0).bind fun t132=>(if t132=true then (if (Int.tmod a0 4)=0 then (if (Int.tmod a0 100)=0 then (some ((Int.tmod a0 400) == 0)) else (some true)) else (some ((Int.tmod a0 400) == 0))) else (some false))
def date_Days.j0:Nat→Int→Int→Bool→Option (Int)
  | 0,_,_,_=>none
  | k + 1,x0,x1,x15=>if x15=true then (some 0) else (if x1=2 then ((date_Leap.f x0).bind fun t134=>(if t134=true then (some 29) else (if 0≤(wrap64 (x1 - 1)) then (if (wrap64 (x1 - 1)) < 12 then (some (rd ([31,28,31,30,31,30,31,31,30,31,30,31]:List Int) (wrap64 (x1 - 1)))) else (none)) else (none)))) else (if 0≤(wrap64 (x1 - 1)) then (if (wrap64 (x1 - 1)) < 12 then (some (rd ([31,28,31,30,31,30,31,31,30,31,30,31]:List Int) (wrap64 (x1 - 1)))) else (none)) else (none)))
def date_Days.f (k:Nat) (a0:Int) (a1:Int):Option (Int):=(date_good.f a0).bind fun t133=>(if t133=true then (if a1 < 1 then (date_Days.j0 k a0 a1 true) else (date_Days.j0 k a0 a1 (decide (a1 > 12)))) else (date_Days.j0 k a0 a1 true))
theorem date_Days.mono_l : ∀ k,(∀ y0 y1 y2,LeO (date_Days.j0 k y0 y1 y2) (date_Days.j0 (k + 1) y0 y1 y2))
  | 0=>fun _ _ _ r h=>by simp [date_Days.j0] at h
  | k + 1=>by
    have ih0:=date_Days.mono_l k
    · intro y0 y1 y2
      unfold date_Days.j0
      repeat' first
      | (with_reducible exact ih0 _ _ _)
      | (with_reducible exact LeO.refl _)
      | (with_reducible exact LeO.none _)
      | (with_reducible refine LeO.ite ?_ ?_)
      | (with_reducible refine LeO.bind ?_ (fun _=>?_))
      | exact ih0 _ _ _
      | exact LeO.none _
      | refine LeO.ite ?_ ?_
      | refine LeO.bind ?_ (fun _=>?_)
theorem date_Days.mono : ∀ a0 a1 k,LeO (date_Days.f k a0 a1) (date_Days.f (k + 1) a0 a1):=by
  intro a0 a1 k
  have ih0:=date_Days.mono_l k
  unfold date_Days.f
  repeat' first
      | (with_reducible exact ih0 _ _ _)
      | (with_reducible exact LeO.refl _)
      | (with_reducible exact LeO.none _)
      | (with_reducible refine LeO.ite ?_ ?_)
      | (with_reducible refine LeO.bind ?_ (fun _=>?_))
      | exact ih0 _ _ _
      | exact LeO.none _
      | refine LeO.ite ?_ ?_
      | refine LeO.bind ?_ (fun _=>?_)
def date_Check.f (k:Nat) (a0_0:Int) (a0_1:Int) (a0_2:Int):Option (Int):=if a0_2 < 1 then (some 11) else ((date_Days.f k a0_0 a0_1).bind fun t136=>(if a0_2 > t136 then (some 11) else (some 0)))
theorem date_Check.mono : ∀ a0 a1 a2 k,LeO (date_Check.f k a0 a1 a2) (date_Check.f (k + 1) a0 a1 a2):=by
  intro a0 a1 a2 k
  unfold date_Check.f
  repeat' first
      | (with_reducible exact date_Days.mono _ _ _)
      | (with_reducible exact LeO.refl _)
      | (with_reducible exact LeO.none _)
      | (with_reducible refine LeO.ite ?_ ?_)
      | (with_reducible refine LeO.bind ?_ (fun _=>?_))
      | exact date_Days.mono _ _ _
      | exact LeO.none _
      | refine LeO.ite ?_ ?_
      | refine LeO.bind ?_ (fun _=>?_)
def cmp_Or_int.l0:Nat→Int→List Int→Int→Int→Option (Int)
  | 0,_,_,_,_=>none
  | k + 1,x3,x6,x7,x8=>if x8 < x7 then (if 0≤x8 then (if x8 < (x6.length:Int) then (if (rd x6 x8)=x3 then (cmp_Or_int.l0 k x3 x6 x7 (wrap64 (x8 + 1))) else (some (rd x6 x8))) else (none)) else (none)) else (some x3)
def cmp_Or_int.f (k:Nat) (l0:List Int):Option (Int):=cmp_Or_int.l0 k 0 l0 (l0.length:Int) 0
theorem cmp_Or_int.mono_l : ∀ k,(∀ y0 y1 y2 y3,LeO (cmp_Or_int.l0 k y0 y1 y2 y3) (cmp_Or_int.l0 (k + 1) y0 y1 y2 y3))
  | 0=>fun _ _ _ _ r h=>by simp [cmp_Or_int.l0] at h
  | k + 1=>by
    have ih0:=cmp_Or_int.mono_l k
    · intro y0 y1 y2 y3
      unfold cmp_Or_int.l0
      repeat' first
      | (with_reducible exact ih0 _ _ _ _)
      | (with_reducible exact LeO.refl _)
      | (with_reducible exact LeO.none _)
      | (with_reducible refine LeO.ite ?_ ?_)
      | (with_reducible refine LeO.bind ?_ (fun _=>?_))
      | exact ih0 _ _ _ _
      | exact LeO.none _
      | refine LeO.ite ?_ ?_
      | refine LeO.bind ?_ (fun _=>?_)
theorem cmp_Or_int.mono : ∀ a0 k,LeO (cmp_Or_int.f k a0) (cmp_Or_int.f (k + 1) a0):=by
  intro a0 k
  have ih0:=cmp_Or_int.mono_l k
  unfold cmp_Or_int.f
  repeat' first
      | (with_reducible exact ih0 _ _ _ _)
      | (with_reducible exact LeO.refl _)
      | (with_reducible exact LeO.none _)
      | (with_reducible refine LeO.ite ?_ ?_)
      | (with_reducible refine LeO.bind ?_ (fun _=>?_))
      | exact ih0 _ _ _ _
      | exact LeO.none _
      | refine LeO.ite ?_ ?_
      | refine LeO.bind ?_ (fun _=>?_)
def cmp_isNaN_int.f (a0:Int):Option (Bool):=some (a0 != a0)
def cmp_Compare_int.f (a0:Int) (a1:Int):Option (Int):=(cmp_isNaN_int.f a0).bind fun t138=>((cmp_isNaN_int.f a1).bind fun t139=>(if t138=true then (if t139=true then (some 0) else (some (-1))) else (if t139=true then (some 1) else (if a0 < a1 then (some (-1)) else (if a0 > a1 then (some 1) else (some 0))))))
def date_Cmp.f (k:Nat) (a0_0:Int) (a0_1:Int) (a0_2:Int) (a1_0:Int) (a1_1:Int) (a1_2:Int):Option (Int):=(cmp_Compare_int.f a0_0 a1_0).bind fun t142=>((cmp_Compare_int.f a0_1 a1_1).bind fun t143=>((cmp_Compare_int.f a0_2 a1_2).bind fun t144=>((cmp_Or_int.f k (([t142,t143,t144]:List Int))).bind fun t148=>(some t148))))
theorem date_Cmp.mono : ∀ a0 a1 a2 a3 a4 a5 k,LeO (date_Cmp.f k a0 a1 a2 a3 a4 a5) (date_Cmp.f (k + 1) a0 a1 a2 a3 a4 a5):=by
  intro a0 a1 a2 a3 a4 a5 k
  unfold date_Cmp.f
  repeat' first
      | (with_reducible exact cmp_Or_int.mono _ _)
      | (with_reducible exact LeO.refl _)
      | (with_reducible exact LeO.none _)
      | (with_reducible refine LeO.ite ?_ ?_)
      | (with_reducible refine LeO.bind ?_ (fun _=>?_))
      | exact cmp_Or_int.mono _ _
      | exact LeO.none _
      | refine LeO.ite ?_ ?_
      | refine LeO.bind ?_ (fun _=>?_)
def nat_Nat_Zero.f (l0_0:List Int):Option (Bool):=some ((l0_0.length:Int) == 0)
def whole_Int_Sign.f (l0_0:List Int) (a0_1:Bool):Option (Int):=(nat_Nat_Zero.f l0_0).bind fun t151=>(if t151=true then (some 0) else (if a0_1=true then (some (-1)) else (some 1)))
def whole_Of.f (l0_0:List Int) (a1:Bool):Option (List Int×Bool):=if a1=true then ((nat_Nat_Zero.f l0_0).bind fun t154=>(some (l0_0,!t154))) else (some (l0_0,false))
def whole_Int_Neg.f (l0_0:List Int) (a0_1:Bool):Option (List Int×Bool):=(whole_Of.f l0_0 (!a0_1)).bind fun bt157=>(some (bt157.1,bt157.2))
def nat_trimmed.l0:Nat→List Int→Int→Option (List Int)
  | 0,_,_=>none
  | k + 1,x0,x3=>if x3 > 0 then (if 0≤(wrap64 (x3 - 1)) then (if (wrap64 (x3 - 1)) < (x0.length:Int) then (if (rd x0 (wrap64 (x3 - 1)))=0 then (nat_trimmed.l0 k x0 (wrap64 (x3 - 1))) else (if 0≤x3 then (if x3≤(x0.length:Int) then (some (x0.take (x3:Int).toNat)) else (none)) else (none))) else (none)) else (none)) else (if 0≤x3 then (if x3≤(x0.length:Int) then (some (x0.take (x3:Int).toNat)) else (none)) else (none))
def nat_trimmed.f (k:Nat) (l0:List Int):Option (List Int):=nat_trimmed.l0 k l0 (l0.length:Int)
theorem nat_trimmed.mono_l : ∀ k,(∀ y0 y1,LeO (nat_trimmed.l0 k y0 y1) (nat_trimmed.l0 (k + 1) y0 y1))
  | 0=>fun _ _ r h=>by simp [nat_trimmed.l0] at h
  | k + 1=>by
    have ih0:=nat_trimmed.mono_l k
    · intro y0 y1
      unfold nat_trimmed.l0
      repeat' first
      | (with_reducible exact ih0 _ _)
      | (with_reducible exact LeO.refl _)
      | (with_reducible exact LeO.none _)
      | (with_reducible refine LeO.ite ?_ ?_)
      | (with_reducible refine LeO.bind ?_ (fun _=>?_))
      | exact ih0 _ _
      | exact LeO.none _
      | refine LeO.ite ?_ ?_
      | refine LeO.bind ?_ (fun _=>?_)
theorem nat_trimmed.mono : ∀ a0 k,LeO (nat_trimmed.f k a0) (nat_trimmed.f (k + 1) a0):=by
  intro a0 k
  have ih0:=nat_trimmed.mono_l k
  unfold nat_trimmed.f
  repeat' first
      | (with_reducible exact ih0 _ _)
      | (with_reducible exact LeO.refl _)
      | (with_reducible exact LeO.none _)
      | (with_reducible refine LeO.ite ?_ ?_)
      | (with_reducible refine LeO.bind ?_ (fun _=>?_))
      | exact ih0 _ _
      | exact LeO.none _
      | refine LeO.ite ?_ ?_
      | refine LeO.bind ?_ (fun _=>?_)
def slices_Clone_uint64_uint64.f (l0:List Int):Option (List Int):=(some (([]:List Int):List Int)).bind fun y173=>(if y173.length + l0.length < 17592186044416 then (some (y173 ++ l0)) else (none))
def nat_Of.f (k:Nat) (l0:List Int):Option (List Int):=(slices_Clone_uint64_uint64.f l0).bind fun t180=>((nat_trimmed.f k t180).bind fun t183=>(some t183))
theorem nat_Of.mono : ∀ a0 k,LeO (nat_Of.f k a0) (nat_Of.f (k + 1) a0):=by
  intro a0 k
  unfold nat_Of.f
  repeat' first
      | (with_reducible exact nat_trimmed.mono _ _)
      | (with_reducible exact LeO.refl _)
      | (with_reducible exact LeO.none _)
      | (with_reducible refine LeO.ite ?_ ?_)
      | (with_reducible refine LeO.bind ?_ (fun _=>?_))
      | exact nat_trimmed.mono _ _
      | exact LeO.none _
      | refine LeO.ite ?_ ?_
      | refine LeO.bind ?_ (fun _=>?_)
def nat_Nat_Limbs.f (l0_0:List Int):Option (List Int):=(slices_Clone_uint64_uint64.f l0_0).bind fun t187=>(some t187)
def cmp_isNaN_uint64.f (a0:Int):Option (Bool):=some (a0 != a0)
def cmp_Compare_uint64.f (a0:Int) (a1:Int):Option (Int):=(cmp_isNaN_uint64.f a0).bind fun t190=>((cmp_isNaN_uint64.f a1).bind fun t191=>(if t190=true then (if t191=true then (some 0) else (some (-1))) else (if t191=true then (some 1) else (if a0 < a1 then (some (-1)) else (if a0 > a1 then (some 1) else (some 0))))))
def nat_Nat_Cmp.l0:Nat→Int→List Int→List Int→Option (Int)
  | 0,_,_,_=>none
  | k + 1,x6,x193000,x194000=>if x6 ≥ 0 then (if 0≤x6 then (if x6 < (x193000.length:Int) then (if x6 < (x194000.length:Int) then ((cmp_Compare_uint64.f (rd x193000 x6) (rd x194000 x6)).bind fun t197=>(if t197=0 then (nat_Nat_Cmp.l0 k (wrap64 (x6 - 1)) x193000 x194000) else (some t197))) else (none)) else (none)) else (none)) else (some 0)
def nat_Nat_Cmp.f (k:Nat) (l0_0:List Int) (l1_0:List Int):Option (Int):=(cmp_Compare_int.f (l0_0.length:Int) (l1_0.length:Int)).bind fun t194=>(if t194=0 then (nat_Nat_Cmp.l0 k (wrap64 ((l0_0.length:Int) - 1)) l0_0 l1_0) else (some t194))
theorem nat_Nat_Cmp.mono_l : ∀ k,(∀ y0 y1 y2,LeO (nat_Nat_Cmp.l0 k y0 y1 y2) (nat_Nat_Cmp.l0 (k + 1) y0 y1 y2))
  | 0=>fun _ _ _ r h=>by simp [nat_Nat_Cmp.l0] at h
  | k + 1=>by
    have ih0:=nat_Nat_Cmp.mono_l k
    · intro y0 y1 y2
      unfold nat_Nat_Cmp.l0
      repeat' first
      | (with_reducible exact ih0 _ _ _)
      | (with_reducible exact LeO.refl _)
      | (with_reducible exact LeO.none _)
      | (with_reducible refine LeO.ite ?_ ?_)
      | (with_reducible refine LeO.bind ?_ (fun _=>?_))
      | exact ih0 _ _ _
      | exact LeO.none _
      | refine LeO.ite ?_ ?_
      | refine LeO.bind ?_ (fun _=>?_)
theorem nat_Nat_Cmp.mono : ∀ a0 a1 k,LeO (nat_Nat_Cmp.f k a0 a1) (nat_Nat_Cmp.f (k + 1) a0 a1):=by
  intro a0 a1 k
  have ih0:=nat_Nat_Cmp.mono_l k
  unfold nat_Nat_Cmp.f
  repeat' first
      | (with_reducible exact ih0 _ _ _)
      | (with_reducible exact LeO.refl _)
      | (with_reducible exact LeO.none _)
      | (with_reducible refine LeO.ite ?_ ?_)
      | (with_reducible refine LeO.bind ?_ (fun _=>?_))
      | exact ih0 _ _ _
      | exact LeO.none _
      | refine LeO.ite ?_ ?_
      | refine LeO.bind ?_ (fun _=>?_)
def bits_Len64.j0:Nat→Int→Int→Option (Int)
  | 0,_,_=>none
  | k + 1,x0,x2=>if x0 ≥ 65536 then (if (x0 / 65536) ≥ 256 then (if 0≤(((x0 / 65536) / 256) % 256) then (if (((x0 / 65536) / 256) % 256) < 256 then (some (wrap64 ((wrap64 ((wrap64 (x2 + 16)) + 8)) + (wrap64 (bt (⟨#[0,1,2,2,3,3,3,3,4,4,4,4,4,4,4,4,5,5,5,5,5,5,5,5,5,5,5,5,5,5,5,5,6,6,6,6,6,6,6,6,6,6,6,6,6,6,6,6,6,6,6,6,6,6,6,6,6,6,6,6,6,6,6,6,7,7,7,7,7,7,7,7,7,7,7,7,7,7,7,7,7,7,7,7,7,7,7,7,7,7,7,7,7,7,7,7,7,7,7,7,7,7,7,7,7,7,7,7,7,7,7,7,7,7,7,7,7,7,7,7,7,7,7,7,7,7,7,7,8,8,8,8,8,8,8,8,8,8,8,8,8,8,8,8,8,8,8,8,8,8,8,8,8,8,8,8,8,8,8,8,8,8,8,8,8,8,8,8,8,8,8,8,8,8,8,8,8,8,8,8,8,8,8,8,8,8,8,8,8,8,8,8,8,8,8,8,8,8,8,8,8,8,8,8,8,8,8,8,8,8,8,8,8,8,8,8,8,8,8,8,8,8,8,8,8,8,8,8,8,8,8,8,8,8,8,8,8,8,8,8,8,8,8,8,8,8,8,8,8,8,8,8,8,8,8,8]⟩:ByteArray) (((x0 / 65536) / 256) % 256)))))) else (none)) else (none)) else (if 0≤((x0 / 65536) % 256) then (if ((x0 / 65536) % 256) < 256 then (some (wrap64 ((wrap64 (x2 + 16)) + (wrap64 (bt (⟨#[0,1,2,2,3,3,3,3,4,4,4,4,4,4,4,4,5,5,5,5,5,5,5,5,5,5,5,5,5,5,5,5,6,6,6,6,6,6,6,6,6,6,6,6,6,6,6,6,6,6,6,6,6,6,6,6,6,6,6,6,6,6,6,6,7,7,7,7,7,7,7,7,7,7,7,7,7,7,7,7,7,7,7,7,7,7,7,7,7,7,7,7,7,7,7,7,7,7,7,7,7,7,7,7,7,7,7,7,7,7,7,7,7,7,7,7,7,7,7,7,7,7,7,7,7,7,7,7,8,8,8,8,8,8,8,8,8,8,8,8,8,8,8,8,8,8,8,8,8,8,8,8,8,8,8,8,8,8,8,8,8,8,8,8,8,8,8,8,8,8,8,8,8,8,8,8,8,8,8,8,8,8,8,8,8,8,8,8,8,8,8,8,8,8,8,8,8,8,8,8,8,8,8,8,8,8,8,8,8,8,8,8,8,8,8,8,8,8,8,8,8,8,8,8,8,8,8,8,8,8,8,8,8,8,8,8,8,8,8,8,8,8,8,8,8,8,8,8,8,8,8,8,8,8,8,8]⟩:ByteArray) ((x0 / 65536) % 256)))))) else (none)) else (none))) else (if x0 ≥ 256 then (if 0≤((x0 / 256) % 256) then (if ((x0 / 256) % 256) < 256 then (some (wrap64 ((wrap64 (x2 + 8)) + (wrap64 (bt (⟨#[0,1,2,2,3,3,3,3,4,4,4,4,4,4,4,4,5,5,5,5,5,5,5,5,5,5,5,5,5,5,5,5,6,6,6,6,6,6,6,6,6,6,6,6,6,6,6,6,6,6,6,6,6,6,6,6,6,6,6,6,6,6,6,6,7,7,7,7,7,7,7,7,7,7,7,7,7,7,7,7,7,7,7,7,7,7,7,7,7,7,7,7,7,7,7,7,7,7,7,7,7,7,7,7,7,7,7,7,7,7,7,7,7,7,7,7,7,7,7,7,7,7,7,7,7,7,7,7,8,8,8,8,8,8,8,8,8,8,8,8,8,8,8,8,8,8,8,8,8,8,8,8,8,8,8,8,8,8,8,8,8,8,8,8,8,8,8,8,8,8,8,8,8,8,8,8,8,8,8,8,8,8,8,8,8,8,8,8,8,8,8,8,8,8,8,8,8,8,8,8,8,8,8,8,8,8,8,8,8,8,8,8,8,8,8,8,8,8,8,8,8,8,8,8,8,8,8,8,8,8,8,8,8,8,8,8,8,8,8,8,8,8,8,8,8,8,8,8,8,8,8,8,8,8,8,8]⟩:ByteArray) ((x0 / 256) % 256)))))) else (none)) else (none)) else (if 0≤((x0) % 256) then (if ((x0) % 256) < 256 then (some (wrap64 (x2 + (wrap64 (bt (⟨#[0,1,2,2,3,3,3,3,4,4,4,4,4,4,4,4,5,5,5,5,5,5,5,5,5,5,5,5,5,5,5,5,6,6,6,6,6,6,6,6,6,6,6,6,6,6,6,6,6,6,6,6,6,6,6,6,6,6,6,6,6,6,6,6,7,7,7,7,7,7,7,7,7,7,7,7,7,7,7,7,7,7,7,7,7,7,7,7,7,7,7,7,7,7,7,7,7,7,7,7,7,7,7,7,7,7,7,7,7,7,7,7,7,7,7,7,7,7,7,7,7,7,7,7,7,7,7,7,8,8,8,8,8,8,8,8,8,8,8,8,8,8,8,8,8,8,8,8,8,8,8,8,8,8,8,8,8,8,8,8,8,8,8,8,8,8,8,8,8,8,8,8,8,8,8,8,8,8,8,8,8,8,8,8,8,8,8,8,8,8,8,8,8,8,8,8,8,8,8,8,8,8,8,8,8,8,8,8,8,8,8,8,8,8,8,8,8,8,8,8,8,8,8,8,8,8,8,8,8,8,8,8,8,8,8,8,8,8,8,8,8,8,8,8,8,8,8,8,8,8,8,8,8,8,8,8]⟩:ByteArray) ((x0) % 256)))))) else (none)) else (none)))
def bits_Len64.f (k:Nat) (a0:Int):Option (Int):=if a0 ≥ 4294967296 then (bits_Len64.j0 k (a0 / 4294967296) 32) else (bits_Len64.j0 k a0 0)
theorem bits_Len64.mono_l : ∀ k,(∀ y0 y1,LeO (bits_Len64.j0 k y0 y1) (bits_Len64.j0 (k + 1) y0 y1))
  | 0=>fun _ _ r h=>by simp [bits_Len64.j0] at h
  | k + 1=>by
    have ih0:=bits_Len64.mono_l k
    · intro y0 y1
      unfold bits_Len64.j0
      repeat' first
      | (with_reducible exact ih0 _ _)
      | (with_reducible exact LeO.refl _)
      | (with_reducible exact LeO.none _)
      | (with_reducible refine LeO.ite ?_ ?_)
      | (with_reducible refine LeO.bind ?_ (fun _=>?_))
      | exact ih0 _ _
      | exact LeO.none _
      | refine LeO.ite ?_ ?_
      | refine LeO.bind ?_ (fun _=>?_)
theorem bits_Len64.mono : ∀ a0 k,LeO (bits_Len64.f k a0) (bits_Len64.f (k + 1) a0):=by
  intro a0 k
  have ih0:=bits_Len64.mono_l k
  unfold bits_Len64.f
  repeat' first
      | (with_reducible exact ih0 _ _)
      | (with_reducible exact LeO.refl _)
      | (with_reducible exact LeO.none _)
      | (with_reducible refine LeO.ite ?_ ?_)
      | (with_reducible refine LeO.bind ?_ (fun _=>?_))
      | exact ih0 _ _
      | exact LeO.none _
      | refine LeO.ite ?_ ?_
      | refine LeO.bind ?_ (fun _=>?_)
def bits_LeadingZeros64.f (k:Nat) (a0:Int):Option (Int):=(bits_Len64.f k a0).bind fun t198=>(some (wrap64 (64 - t198)))
theorem bits_LeadingZeros64.mono : ∀ a0 k,LeO (bits_LeadingZeros64.f k a0) (bits_LeadingZeros64.f (k + 1) a0):=by
  intro a0 k
  unfold bits_LeadingZeros64.f
  repeat' first
      | (with_reducible exact bits_Len64.mono _ _)
      | (with_reducible exact LeO.refl _)
      | (with_reducible exact LeO.none _)
      | (with_reducible refine LeO.ite ?_ ?_)
      | (with_reducible refine LeO.bind ?_ (fun _=>?_))
      | exact bits_Len64.mono _ _
      | exact LeO.none _
      | refine LeO.ite ?_ ?_
      | refine LeO.bind ?_ (fun _=>?_)
mutual
def bits_Div64.j2:Nat→Int→Int→Int→Int→Int→Int→Int→Int→Option (Int×Int)
  | 0,_,_,_,_,_,_,_,_=>none
  | k + 1,x2,x8,x9,x10,x11,x13,x14,x15=>if x9=0 then (none) else (bits_Div64.l1 k x2 x8 x9 x10 x14 x15 (IntKind.u64.wrap ((IntKind.u64.wrap ((IntKind.u64.wrap ((IntKind.u64.wrap (x11 * 4294967296)) + x13)) - (IntKind.u64.wrap (x15 * x2)))) - (IntKind.u64.wrap ((IntKind.u64.wrap (Int.tdiv (IntKind.u64.wrap ((IntKind.u64.wrap ((IntKind.u64.wrap (x11 * 4294967296)) + x13)) - (IntKind.u64.wrap (x15 * x2)))) x9)) * x9)))) (IntKind.u64.wrap ((IntKind.u64.wrap ((IntKind.u64.wrap (x11 * 4294967296)) + x13)) - (IntKind.u64.wrap (x15 * x2)))) (IntKind.u64.wrap (Int.tdiv (IntKind.u64.wrap ((IntKind.u64.wrap ((IntKind.u64.wrap (x11 * 4294967296)) + x13)) - (IntKind.u64.wrap (x15 * x2)))) x9)))
def bits_Div64.l1:Nat→Int→Int→Int→Int→Int→Int→Int→Int→Int→Option (Int×Int)
  | 0,_,_,_,_,_,_,_,_,_=>none
  | k + 1,x2,x8,x9,x10,x14,x15,x16,x17,x18=>if x18 ≥ 4294967296 then (bits_Div64.j4 k x2 x8 x9 x10 x14 x15 x16 x17 x18 true) else (bits_Div64.j4 k x2 x8 x9 x10 x14 x15 x16 x17 x18 (decide ((IntKind.u64.wrap (x18 * x10)) > (IntKind.u64.wrap ((IntKind.u64.wrap (4294967296 * x16)) + x14)))))
def bits_Div64.j4:Nat→Int→Int→Int→Int→Int→Int→Int→Int→Int→Bool→Option (Int×Int)
  | 0,_,_,_,_,_,_,_,_,_,_=>none
  | k + 1,x2,x8,x9,x10,x14,x15,x16,x17,x18,x113=>if x113=true then (if (IntKind.u64.wrap (x16 + x9)) ≥ 4294967296 then (if 0≤x8 then (some (IntKind.u64.wrap ((IntKind.u64.wrap (x15 * 4294967296)) + (IntKind.u64.wrap (x18 - 1))),shr .u64 (IntKind.u64.wrap ((IntKind.u64.wrap ((IntKind.u64.wrap (x17 * 4294967296)) + x14)) - (IntKind.u64.wrap ((IntKind.u64.wrap (x18 - 1)) * x2)))) x8)) else (none)) else (bits_Div64.l1 k x2 x8 x9 x10 x14 x15 (IntKind.u64.wrap (x16 + x9)) x17 (IntKind.u64.wrap (x18 - 1)))) else (if 0≤x8 then (some (IntKind.u64.wrap ((IntKind.u64.wrap (x15 * 4294967296)) + x18),shr .u64 (IntKind.u64.wrap ((IntKind.u64.wrap ((IntKind.u64.wrap (x17 * 4294967296)) + x14)) - (IntKind.u64.wrap (x18 * x2)))) x8)) else (none))
def bits_Div64.l0:Nat→Int→Int→Int→Int→Int→Int→Int→Int→Int→Option (Int×Int)
  | 0,_,_,_,_,_,_,_,_,_=>none
  | k + 1,x2,x8,x9,x10,x11,x13,x14,x15,x16=>if x15 ≥ 4294967296 then (bits_Div64.j1 k x2 x8 x9 x10 x11 x13 x14 x15 x16 true) else (bits_Div64.j1 k x2 x8 x9 x10 x11 x13 x14 x15 x16 (decide ((IntKind.u64.wrap (x15 * x10)) > (IntKind.u64.wrap ((IntKind.u64.wrap (4294967296 * x16)) + x13)))))
def bits_Div64.j1:Nat→Int→Int→Int→Int→Int→Int→Int→Int→Int→Bool→Option (Int×Int)
  | 0,_,_,_,_,_,_,_,_,_,_=>none
  | k + 1,x2,x8,x9,x10,x11,x13,x14,x15,x16,x78=>if x78=true then (if (IntKind.u64.wrap (x16 + x9)) ≥ 4294967296 then (bits_Div64.j2 k x2 x8 x9 x10 x11 x13 x14 (IntKind.u64.wrap (x15 - 1))) else (bits_Div64.l0 k x2 x8 x9 x10 x11 x13 x14 (IntKind.u64.wrap (x15 - 1)) (IntKind.u64.wrap (x16 + x9)))) else (bits_Div64.j2 k x2 x8 x9 x10 x11 x13 x14 x15)
end
def bits_Div64.f (k:Nat) (a0:Int) (a1:Int) (a2:Int):Option (Int×Int):=if a2=0 then (none) else (if a2≤a0 then (none) else (if a0=0 then (some (IntKind.u64.wrap (Int.tdiv a1 a2),Int.tmod a1 a2)) else ((bits_LeadingZeros64.f k a2).bind fun t199=>(if 0≤(IntKind.u64.wrap (t199)) then (if 0≤(IntKind.u64.wrap (64 - (IntKind.u64.wrap (t199)))) then (if ((shl .u64 a2 (IntKind.u64.wrap (t199))) / 4294967296)=0 then (none) else (bits_Div64.l0 k (shl .u64 a2 (IntKind.u64.wrap (t199))) (IntKind.u64.wrap (t199)) ((shl .u64 a2 (IntKind.u64.wrap (t199))) / 4294967296) (Go.bits .and .u64 (shl .u64 a2 (IntKind.u64.wrap (t199))) 4294967295) (Go.bits .or .u64 (shl .u64 a0 (IntKind.u64.wrap (t199))) (shr .u64 a1 (IntKind.u64.wrap (64 - (IntKind.u64.wrap (t199)))))) ((shl .u64 a1 (IntKind.u64.wrap (t199))) / 4294967296) (Go.bits .and .u64 (shl .u64 a1 (IntKind.u64.wrap (t199))) 4294967295) (IntKind.u64.wrap (Int.tdiv (Go.bits .or .u64 (shl .u64 a0 (IntKind.u64.wrap (t199))) (shr .u64 a1 (IntKind.u64.wrap (64 - (IntKind.u64.wrap (t199)))))) ((shl .u64 a2 (IntKind.u64.wrap (t199))) / 4294967296))) (IntKind.u64.wrap ((Go.bits .or .u64 (shl .u64 a0 (IntKind.u64.wrap (t199))) (shr .u64 a1 (IntKind.u64.wrap (64 - (IntKind.u64.wrap (t199)))))) - (IntKind.u64.wrap ((IntKind.u64.wrap (Int.tdiv (Go.bits .or .u64 (shl .u64 a0 (IntKind.u64.wrap (t199))) (shr .u64 a1 (IntKind.u64.wrap (64 - (IntKind.u64.wrap (t199)))))) ((shl .u64 a2 (IntKind.u64.wrap (t199))) / 4294967296))) * ((shl .u64 a2 (IntKind.u64.wrap (t199))) / 4294967296))))))) else (none)) else (none)))))
theorem bits_Div64.mono_l : ∀ k,(∀ y0 y1 y2 y3 y4 y5 y6 y7,LeO (bits_Div64.j2 k y0 y1 y2 y3 y4 y5 y6 y7) (bits_Div64.j2 (k + 1) y0 y1 y2 y3 y4 y5 y6 y7))∧(∀ y0 y1 y2 y3 y4 y5 y6 y7 y8,LeO (bits_Div64.l1 k y0 y1 y2 y3 y4 y5 y6 y7 y8) (bits_Div64.l1 (k + 1) y0 y1 y2 y3 y4 y5 y6 y7 y8))∧(∀ y0 y1 y2 y3 y4 y5 y6 y7 y8 y9,LeO (bits_Div64.j4 k y0 y1 y2 y3 y4 y5 y6 y7 y8 y9) (bits_Div64.j4 (k + 1) y0 y1 y2 y3 y4 y5 y6 y7 y8 y9))∧(∀ y0 y1 y2 y3 y4 y5 y6 y7 y8,LeO (bits_Div64.l0 k y0 y1 y2 y3 y4 y5 y6 y7 y8) (bits_Div64.l0 (k + 1) y0 y1 y2 y3 y4 y5 y6 y7 y8))∧(∀ y0 y1 y2 y3 y4 y5 y6 y7 y8 y9,LeO (bits_Div64.j1 k y0 y1 y2 y3 y4 y5 y6 y7 y8 y9) (bits_Div64.j1 (k + 1) y0 y1 y2 y3 y4 y5 y6 y7 y8 y9))
  | 0=>⟨fun _ _ _ _ _ _ _ _ r h=>by simp [bits_Div64.j2] at h,fun _ _ _ _ _ _ _ _ _ r h=>by simp [bits_Div64.l1] at h,fun _ _ _ _ _ _ _ _ _ _ r h=>by simp [bits_Div64.j4] at h,fun _ _ _ _ _ _ _ _ _ r h=>by simp [bits_Div64.l0] at h,fun _ _ _ _ _ _ _ _ _ _ r h=>by simp [bits_Div64.j1] at h⟩
  | k + 1=>by
    obtain ⟨ih0,ih1,ih2,ih3,ih4⟩:=bits_Div64.mono_l k
    refine ⟨?_,?_,?_,?_,?_⟩
    · intro y0 y1 y2 y3 y4 y5 y6 y7
      unfold bits_Div64.j2
      repeat' first
      | (with_reducible exact ih0 _ _ _ _ _ _ _ _)
      | (with_reducible exact ih1 _ _ _ _ _ _ _ _ _)
      | (with_reducible exact ih2 _ _ _ _ _ _ _ _ _ _)
      | (with_reducible exact ih3 _ _ _ _ _ _ _ _ _)
      | (with_reducible exact ih4 _ _ _ _ _ _ _ _ _ _)
      | (with_reducible exact bits_LeadingZeros64.mono _ _)
      | (with_reducible exact LeO.refl _)
      | (with_reducible exact LeO.none _)
      | (with_reducible refine LeO.ite ?_ ?_)
      | (with_reducible refine LeO.bind ?_ (fun _=>?_))
      | exact ih0 _ _ _ _ _ _ _ _
      | exact ih1 _ _ _ _ _ _ _ _ _
      | exact ih2 _ _ _ _ _ _ _ _ _ _
      | exact ih3 _ _ _ _ _ _ _ _ _
      | exact ih4 _ _ _ _ _ _ _ _ _ _
      | exact bits_LeadingZeros64.mono _ _
      | exact LeO.none _
      | refine LeO.ite ?_ ?_
      | refine LeO.bind ?_ (fun _=>?_)
    · intro y0 y1 y2 y3 y4 y5 y6 y7 y8
      unfold bits_Div64.l1
      repeat' first
      | (with_reducible exact ih0 _ _ _ _ _ _ _ _)
      | (with_reducible exact ih1 _ _ _ _ _ _ _ _ _)
      | (with_reducible exact ih2 _ _ _ _ _ _ _ _ _ _)
      | (with_reducible exact ih3 _ _ _ _ _ _ _ _ _)
      | (with_reducible exact ih4 _ _ _ _ _ _ _ _ _ _)
      | (with_reducible exact bits_LeadingZeros64.mono _ _)
      | (with_reducible exact LeO.refl _)
      | (with_reducible exact LeO.none _)
      | (with_reducible refine LeO.ite ?_ ?_)
      | (with_reducible refine LeO.bind ?_ (fun _=>?_))
      | exact ih0 _ _ _ _ _ _ _ _
      | exact ih1 _ _ _ _ _ _ _ _ _
      | exact ih2 _ _ _ _ _ _ _ _ _ _
      | exact ih3 _ _ _ _ _ _ _ _ _
      | exact ih4 _ _ _ _ _ _ _ _ _ _
      | exact bits_LeadingZeros64.mono _ _
      | exact LeO.none _
      | refine LeO.ite ?_ ?_
      | refine LeO.bind ?_ (fun _=>?_)
    · intro y0 y1 y2 y3 y4 y5 y6 y7 y8 y9
      unfold bits_Div64.j4
      repeat' first
      | (with_reducible exact ih0 _ _ _ _ _ _ _ _)
      | (with_reducible exact ih1 _ _ _ _ _ _ _ _ _)
      | (with_reducible exact ih2 _ _ _ _ _ _ _ _ _ _)
      | (with_reducible exact ih3 _ _ _ _ _ _ _ _ _)
      | (with_reducible exact ih4 _ _ _ _ _ _ _ _ _ _)
      | (with_reducible exact bits_LeadingZeros64.mono _ _)
      | (with_reducible exact LeO.refl _)
      | (with_reducible exact LeO.none _)
      | (with_reducible refine LeO.ite ?_ ?_)
      | (with_reducible refine LeO.bind ?_ (fun _=>?_))
      | exact ih0 _ _ _ _ _ _ _ _
      | exact ih1 _ _ _ _ _ _ _ _ _
      | exact ih2 _ _ _ _ _ _ _ _ _ _
      | exact ih3 _ _ _ _ _ _ _ _ _
      | exact ih4 _ _ _ _ _ _ _ _ _ _
      | exact bits_LeadingZeros64.mono _ _
      | exact LeO.none _
      | refine LeO.ite ?_ ?_
      | refine LeO.bind ?_ (fun _=>?_)
    · intro y0 y1 y2 y3 y4 y5 y6 y7 y8
      unfold bits_Div64.l0
      repeat' first
      | (with_reducible exact ih0 _ _ _ _ _ _ _ _)
      | (with_reducible exact ih1 _ _ _ _ _ _ _ _ _)
      | (with_reducible exact ih2 _ _ _ _ _ _ _ _ _ _)
      | (with_reducible exact ih3 _ _ _ _ _ _ _ _ _)
      | (with_reducible exact ih4 _ _ _ _ _ _ _ _ _ _)
      | (with_reducible exact bits_LeadingZeros64.mono _ _)
      | (with_reducible exact LeO.refl _)
      | (with_reducible exact LeO.none _)
      | (with_reducible refine LeO.ite ?_ ?_)
      | (with_reducible refine LeO.bind ?_ (fun _=>?_))
      | exact ih0 _ _ _ _ _ _ _ _
      | exact ih1 _ _ _ _ _ _ _ _ _
      | exact ih2 _ _ _ _ _ _ _ _ _ _
      | exact ih3 _ _ _ _ _ _ _ _ _
      | exact ih4 _ _ _ _ _ _ _ _ _ _
      | exact bits_LeadingZeros64.mono _ _
      | exact LeO.none _
      | refine LeO.ite ?_ ?_
      | refine LeO.bind ?_ (fun _=>?_)
    · intro y0 y1 y2 y3 y4 y5 y6 y7 y8 y9
      unfold bits_Div64.j1
      repeat' first
      | (with_reducible exact ih0 _ _ _ _ _ _ _ _)
      | (with_reducible exact ih1 _ _ _ _ _ _ _ _ _)
      | (with_reducible exact ih2 _ _ _ _ _ _ _ _ _ _)
      | (with_reducible exact ih3 _ _ _ _ _ _ _ _ _)
      | (with_reducible exact ih4 _ _ _ _ _ _ _ _ _ _)
      | (with_reducible exact bits_LeadingZeros64.mono _ _)
      | (with_reducible exact LeO.refl _)
      | (with_reducible exact LeO.none _)
      | (with_reducible refine LeO.ite ?_ ?_)
      | (with_reducible refine LeO.bind ?_ (fun _=>?_))
      | exact ih0 _ _ _ _ _ _ _ _
      | exact ih1 _ _ _ _ _ _ _ _ _
      | exact ih2 _ _ _ _ _ _ _ _ _ _
      | exact ih3 _ _ _ _ _ _ _ _ _
      | exact ih4 _ _ _ _ _ _ _ _ _ _
      | exact bits_LeadingZeros64.mono _ _
      | exact LeO.none _
      | refine LeO.ite ?_ ?_
      | refine LeO.bind ?_ (fun _=>?_)
theorem bits_Div64.mono : ∀ a0 a1 a2 k,LeO (bits_Div64.f k a0 a1 a2) (bits_Div64.f (k + 1) a0 a1 a2):=by
  intro a0 a1 a2 k
  obtain ⟨ih0,ih1,ih2,ih3,ih4⟩:=bits_Div64.mono_l k
  unfold bits_Div64.f
  repeat' first
      | (with_reducible exact ih0 _ _ _ _ _ _ _ _)
      | (with_reducible exact ih1 _ _ _ _ _ _ _ _ _)
      | (with_reducible exact ih2 _ _ _ _ _ _ _ _ _ _)
      | (with_reducible exact ih3 _ _ _ _ _ _ _ _ _)
      | (with_reducible exact ih4 _ _ _ _ _ _ _ _ _ _)
      | (with_reducible exact bits_LeadingZeros64.mono _ _)
      | (with_reducible exact LeO.refl _)
      | (with_reducible exact LeO.none _)
      | (with_reducible refine LeO.ite ?_ ?_)
      | (with_reducible refine LeO.bind ?_ (fun _=>?_))
      | exact ih0 _ _ _ _ _ _ _ _
      | exact ih1 _ _ _ _ _ _ _ _ _
      | exact ih2 _ _ _ _ _ _ _ _ _ _
      | exact ih3 _ _ _ _ _ _ _ _ _
      | exact ih4 _ _ _ _ _ _ _ _ _ _
      | exact bits_LeadingZeros64.mono _ _
      | exact LeO.none _
      | refine LeO.ite ?_ ?_
      | refine LeO.bind ?_ (fun _=>?_)
def quot_by.l0:Nat→List Int→Int→List Int→Int→Int→Option (List Int×Int)
  | 0,_,_,_,_,_=>none
  | k + 1,x0,x1,x6,x7,x8=>if x8 ≥ 0 then (if 0≤x8 then (if x8 < (x0.length:Int) then ((bits_Div64.f k x7 (rd x0 x8) x1).bind fun bt204=>(if x8 < (x6.length:Int) then (quot_by.l0 k x0 x1 (x6.set (x8:Int).toNat bt204.1) bt204.2 (wrap64 (x8 - 1))) else (none))) else (none)) else (none)) else (some (x6,x7))
def quot_by.f (k:Nat) (l0:List Int) (a1:Int):Option (List Int×Int):=if 0≤(l0.length:Int) then (if ((l0.length:Int):Int).toNat≤35184372088832 then (quot_by.l0 k l0 a1 (List.replicate ((l0.length:Int):Int).toNat 0) 0 (wrap64 ((l0.length:Int) - 1))) else (none)) else (none)
theorem quot_by.mono_l : ∀ k,(∀ y0 y1 y2 y3 y4,LeO (quot_by.l0 k y0 y1 y2 y3 y4) (quot_by.l0 (k + 1) y0 y1 y2 y3 y4))
  | 0=>fun _ _ _ _ _ r h=>by simp [quot_by.l0] at h
  | k + 1=>by
    have ih0:=quot_by.mono_l k
    · intro y0 y1 y2 y3 y4
      unfold quot_by.l0
      repeat' first
      | (with_reducible exact ih0 _ _ _ _ _)
      | (with_reducible exact bits_Div64.mono _ _ _ _)
      | (with_reducible exact LeO.refl _)
      | (with_reducible exact LeO.none _)
      | (with_reducible refine LeO.ite ?_ ?_)
      | (with_reducible refine LeO.bind ?_ (fun _=>?_))
      | exact ih0 _ _ _ _ _
      | exact bits_Div64.mono _ _ _ _
      | exact LeO.none _
      | refine LeO.ite ?_ ?_
      | refine LeO.bind ?_ (fun _=>?_)
theorem quot_by.mono : ∀ a0 a1 k,LeO (quot_by.f k a0 a1) (quot_by.f (k + 1) a0 a1):=by
  intro a0 a1 k
  have ih0:=quot_by.mono_l k
  unfold quot_by.f
  repeat' first
      | (with_reducible exact ih0 _ _ _ _ _)
      | (with_reducible exact bits_Div64.mono _ _ _ _)
      | (with_reducible exact LeO.refl _)
      | (with_reducible exact LeO.none _)
      | (with_reducible refine LeO.ite ?_ ?_)
      | (with_reducible refine LeO.bind ?_ (fun _=>?_))
      | exact ih0 _ _ _ _ _
      | exact bits_Div64.mono _ _ _ _
      | exact LeO.none _
      | refine LeO.ite ?_ ?_
      | refine LeO.bind ?_ (fun _=>?_)
def quot_moved.l0:Nat→Int→List Int→List Int→Int→Int→Option (List Int)
  | 0,_,_,_,_,_=>none
  | k + 1,x1,x5,x12,x13,x14=>if x14 < x13 then (if 0≤x14 then (if x14 < (x12.length:Int) then (if x14 < (x5.length:Int) then (if 0≤x1 then (if 0≤(IntKind.u64.wrap (64 - x1)) then (if 0≤(wrap64 (x14 + 1)) then (if (wrap64 (x14 + 1)) < (x5.length:Int) then (quot_moved.l0 k x1 ((x5.set (x14:Int).toNat (Go.bits .or .u64 (rd x5 x14) (shl .u64 (rd x12 x14) x1))).set ((wrap64 (x14 + 1)):Int).toNat (shr .u64 (rd x12 x14) (IntKind.u64.wrap (64 - x1)))) x12 x13 (wrap64 (x14 + 1))) else (none)) else (none)) else (none)) else (none)) else (none)) else (none)) else (none)) else (some x5)
def quot_moved.f (k:Nat) (l0:List Int) (a1:Int):Option (List Int):=if 0≤(wrap64 ((l0.length:Int) + 1)) then (if (wrap64 ((l0.length:Int) + 1):Int).toNat≤35184372088832 then (quot_moved.l0 k a1 (List.replicate (wrap64 ((l0.length:Int) + 1):Int).toNat 0) l0 (l0.length:Int) 0) else (none)) else (none)
theorem quot_moved.mono_l : ∀ k,(∀ y0 y1 y2 y3 y4,LeO (quot_moved.l0 k y0 y1 y2 y3 y4) (quot_moved.l0 (k + 1) y0 y1 y2 y3 y4))
  | 0=>fun _ _ _ _ _ r h=>by simp [quot_moved.l0] at h
  | k + 1=>by
    have ih0:=quot_moved.mono_l k
    · intro y0 y1 y2 y3 y4
      unfold quot_moved.l0
      repeat' first
      | (with_reducible exact ih0 _ _ _ _ _)
      | (with_reducible exact LeO.refl _)
      | (with_reducible exact LeO.none _)
      | (with_reducible refine LeO.ite ?_ ?_)
      | (with_reducible refine LeO.bind ?_ (fun _=>?_))
      | exact ih0 _ _ _ _ _
      | exact LeO.none _
      | refine LeO.ite ?_ ?_
      | refine LeO.bind ?_ (fun _=>?_)
theorem quot_moved.mono : ∀ a0 a1 k,LeO (quot_moved.f k a0 a1) (quot_moved.f (k + 1) a0 a1):=by
  intro a0 a1 k
  have ih0:=quot_moved.mono_l k
  unfold quot_moved.f
  repeat' first
      | (with_reducible exact ih0 _ _ _ _ _)
      | (with_reducible exact LeO.refl _)
      | (with_reducible exact LeO.none _)
      | (with_reducible refine LeO.ite ?_ ?_)
      | (with_reducible refine LeO.bind ?_ (fun _=>?_))
      | exact ih0 _ _ _ _ _
      | exact LeO.none _
      | refine LeO.ite ?_ ?_
      | refine LeO.bind ?_ (fun _=>?_)
def bits_Mul64.f (a0:Int) (a1:Int):Option (Int×Int):=some (IntKind.u64.wrap ((IntKind.u64.wrap ((IntKind.u64.wrap ((a0 / 4294967296) * (a1 / 4294967296))) + ((IntKind.u64.wrap ((IntKind.u64.wrap ((a0 / 4294967296) * (Go.bits .and .u64 a1 4294967295))) + ((IntKind.u64.wrap ((Go.bits .and .u64 a0 4294967295) * (Go.bits .and .u64 a1 4294967295))) / 4294967296))) / 4294967296))) + ((IntKind.u64.wrap ((Go.bits .and .u64 (IntKind.u64.wrap ((IntKind.u64.wrap ((a0 / 4294967296) * (Go.bits .and .u64 a1 4294967295))) + ((IntKind.u64.wrap ((Go.bits .and .u64 a0 4294967295) * (Go.bits .and .u64 a1 4294967295))) / 4294967296))) 4294967295) + (IntKind.u64.wrap ((Go.bits .and .u64 a0 4294967295) * (a1 / 4294967296))))) / 4294967296)),IntKind.u64.wrap (a0 * a1))
mutual
def quot_guess.l0:Nat→List Int→Int→Int→Int→Int→Option (Int)
  | 0,_,_,_,_,_=>none
  | k + 1,x1,x5,x8,x9,x10=>if 0≤(wrap64 (x5 - 2)) then (if (wrap64 (x5 - 2)) < (x1.length:Int) then ((bits_Mul64.f x9 (rd x1 (wrap64 (x5 - 2)))).bind fun bt222=>(if bt222.1 < x10 then (quot_guess.j1 k x1 x5 x8 x9 x10 true) else (if bt222.1=x10 then (quot_guess.j1 k x1 x5 x8 x9 x10 (decide (bt222.2≤x8))) else (quot_guess.j1 k x1 x5 x8 x9 x10 false)))) else (none)) else (none)
def quot_guess.j1:Nat→List Int→Int→Int→Int→Int→Bool→Option (Int)
  | 0,_,_,_,_,_,_=>none
  | k + 1,x1,x5,x8,x9,x10,x71=>if x71=true then (some x9) else (if 0≤(wrap64 (x5 - 1)) then (if (wrap64 (x5 - 1)) < (x1.length:Int) then (if (add64c x10 (rd x1 (wrap64 (x5 - 1))) 0)=0 then (quot_guess.l0 k x1 x5 x8 (IntKind.u64.wrap (x9 - 1)) (add64s x10 (rd x1 (wrap64 (x5 - 1))) 0)) else (some (IntKind.u64.wrap (x9 - 1)))) else (none)) else (none))
end
def quot_guess.f (k:Nat) (l0:List Int) (l1:List Int):Option (Int):=if 0≤(l1.length:Int) then (if (l1.length:Int) < (l0.length:Int) then (if 0≤(wrap64 ((l1.length:Int) - 1)) then (if (wrap64 ((l1.length:Int) - 1)) < (l0.length:Int) then (if 0≤(wrap64 ((l1.length:Int) - 2)) then (if (wrap64 ((l1.length:Int) - 2)) < (l0.length:Int) then (if (wrap64 ((l1.length:Int) - 1)) < (l1.length:Int) then (if (rd l0 (l1.length:Int)) ≥ (rd l1 (wrap64 ((l1.length:Int) - 1))) then (some 18446744073709551615) else ((bits_Div64.f k (rd l0 (l1.length:Int)) (rd l0 (wrap64 ((l1.length:Int) - 1))) (rd l1 (wrap64 ((l1.length:Int) - 1)))).bind fun bt219=>(quot_guess.l0 k l1 (l1.length:Int) (rd l0 (wrap64 ((l1.length:Int) - 2))) bt219.1 bt219.2))) else (none)) else (none)) else (none)) else (none)) else (none)) else (none)) else (none)
theorem quot_guess.mono_l : ∀ k,(∀ y0 y1 y2 y3 y4,LeO (quot_guess.l0 k y0 y1 y2 y3 y4) (quot_guess.l0 (k + 1) y0 y1 y2 y3 y4))∧(∀ y0 y1 y2 y3 y4 y5,LeO (quot_guess.j1 k y0 y1 y2 y3 y4 y5) (quot_guess.j1 (k + 1) y0 y1 y2 y3 y4 y5))
  | 0=>⟨fun _ _ _ _ _ r h=>by simp [quot_guess.l0] at h,fun _ _ _ _ _ _ r h=>by simp [quot_guess.j1] at h⟩
  | k + 1=>by
    obtain ⟨ih0,ih1⟩:=quot_guess.mono_l k
    refine ⟨?_,?_⟩
    · intro y0 y1 y2 y3 y4
      unfold quot_guess.l0
      repeat' first
      | (with_reducible exact ih0 _ _ _ _ _)
      | (with_reducible exact ih1 _ _ _ _ _ _)
      | (with_reducible exact bits_Div64.mono _ _ _ _)
      | (with_reducible exact LeO.refl _)
      | (with_reducible exact LeO.none _)
      | (with_reducible refine LeO.ite ?_ ?_)
      | (with_reducible refine LeO.bind ?_ (fun _=>?_))
      | exact ih0 _ _ _ _ _
      | exact ih1 _ _ _ _ _ _
      | exact bits_Div64.mono _ _ _ _
      | exact LeO.none _
      | refine LeO.ite ?_ ?_
      | refine LeO.bind ?_ (fun _=>?_)
    · intro y0 y1 y2 y3 y4 y5
      unfold quot_guess.j1
      repeat' first
      | (with_reducible exact ih0 _ _ _ _ _)
      | (with_reducible exact ih1 _ _ _ _ _ _)
      | (with_reducible exact bits_Div64.mono _ _ _ _)
      | (with_reducible exact LeO.refl _)
      | (with_reducible exact LeO.none _)
      | (with_reducible refine LeO.ite ?_ ?_)
      | (with_reducible refine LeO.bind ?_ (fun _=>?_))
      | exact ih0 _ _ _ _ _
      | exact ih1 _ _ _ _ _ _
      | exact bits_Div64.mono _ _ _ _
      | exact LeO.none _
      | refine LeO.ite ?_ ?_
      | refine LeO.bind ?_ (fun _=>?_)
theorem quot_guess.mono : ∀ a0 a1 k,LeO (quot_guess.f k a0 a1) (quot_guess.f (k + 1) a0 a1):=by
  intro a0 a1 k
  obtain ⟨ih0,ih1⟩:=quot_guess.mono_l k
  unfold quot_guess.f
  repeat' first
      | (with_reducible exact ih0 _ _ _ _ _)
      | (with_reducible exact ih1 _ _ _ _ _ _)
      | (with_reducible exact bits_Div64.mono _ _ _ _)
      | (with_reducible exact LeO.refl _)
      | (with_reducible exact LeO.none _)
      | (with_reducible refine LeO.ite ?_ ?_)
      | (with_reducible refine LeO.bind ?_ (fun _=>?_))
      | exact ih0 _ _ _ _ _
      | exact ih1 _ _ _ _ _ _
      | exact bits_Div64.mono _ _ _ _
      | exact LeO.none _
      | refine LeO.ite ?_ ?_
      | refine LeO.bind ?_ (fun _=>?_)
def quot_guessW.f (k:Nat) (l0:List Int) (lo_ hi_:Int) (l1:List Int):Option (Int):=if 0≤lo_∧lo_ < hi_∧hi_≤(l0.length:Int) then quot_guess.f k ((l0.take hi_.toNat).drop lo_.toNat) l1 else none
theorem quot_guessW.mono : ∀ a0 a1 a2 a3 k,LeO (quot_guessW.f k a0 a1 a2 a3) (quot_guessW.f (k + 1) a0 a1 a2 a3):=by
  intro a0 a1 a2 a3 k
  unfold quot_guessW.f
  refine LeO.ite ?_ (LeO.none _)
  exact quot_guess.mono _ _ _
def quot_less.l0:Nat→List Int→List Int→Int→Int→Int→List Int→Int→Int→Option (Int×List Int)
  | 0,_,_,_,_,_,_,_,_=>none
  | k + 1,x0,x1,x2,x7,x8,x14,x15,x16=>if x16 < x15 then (if 0≤x16 then (if x16 < (x14.length:Int) then ((bits_Mul64.f (rd x14 x16) x2).bind fun bt226=>(if x16 < (x0.length:Int) then (if x8≤1 then (quot_less.l0 k (x0.set (x16:Int).toNat (sub64d (rd x0 x16) (add64s bt226.2 x7 0) x8)) x1 x2 (IntKind.u64.wrap (bt226.1 + (add64c bt226.2 x7 0))) (sub64b (rd x0 x16) (add64s bt226.2 x7 0) x8) x14 x15 (wrap64 (x16 + 1))) else (none)) else (none))) else (none)) else (none)) else (if 0≤(x1.length:Int) then (if (x1.length:Int) < (x0.length:Int) then (if x8≤1 then (some (sub64b (rd x0 (x1.length:Int)) x7 x8,(x0.set ((x1.length:Int):Int).toNat (sub64d (rd x0 (x1.length:Int)) x7 x8)))) else (none)) else (none)) else (none))
def quot_less.f (k:Nat) (l0:List Int) (l1:List Int) (a2:Int):Option (Int×List Int):=quot_less.l0 k l0 l1 a2 0 0 l1 (l1.length:Int) 0
theorem quot_less.mono_l : ∀ k,(∀ y0 y1 y2 y3 y4 y5 y6 y7,LeO (quot_less.l0 k y0 y1 y2 y3 y4 y5 y6 y7) (quot_less.l0 (k + 1) y0 y1 y2 y3 y4 y5 y6 y7))
  | 0=>fun _ _ _ _ _ _ _ _ r h=>by simp [quot_less.l0] at h
  | k + 1=>by
    have ih0:=quot_less.mono_l k
    · intro y0 y1 y2 y3 y4 y5 y6 y7
      unfold quot_less.l0
      repeat' first
      | (with_reducible exact ih0 _ _ _ _ _ _ _ _)
      | (with_reducible exact LeO.refl _)
      | (with_reducible exact LeO.none _)
      | (with_reducible refine LeO.ite ?_ ?_)
      | (with_reducible refine LeO.bind ?_ (fun _=>?_))
      | exact ih0 _ _ _ _ _ _ _ _
      | exact LeO.none _
      | refine LeO.ite ?_ ?_
      | refine LeO.bind ?_ (fun _=>?_)
theorem quot_less.mono : ∀ a0 a1 a2 k,LeO (quot_less.f k a0 a1 a2) (quot_less.f (k + 1) a0 a1 a2):=by
  intro a0 a1 a2 k
  have ih0:=quot_less.mono_l k
  unfold quot_less.f
  repeat' first
      | (with_reducible exact ih0 _ _ _ _ _ _ _ _)
      | (with_reducible exact LeO.refl _)
      | (with_reducible exact LeO.none _)
      | (with_reducible refine LeO.ite ?_ ?_)
      | (with_reducible refine LeO.bind ?_ (fun _=>?_))
      | exact ih0 _ _ _ _ _ _ _ _
      | exact LeO.none _
      | refine LeO.ite ?_ ?_
      | refine LeO.bind ?_ (fun _=>?_)
def quot_lessW.f (k:Nat) (l0:List Int) (lo_ hi_:Int) (l1:List Int) (a2:Int):Option (Int×List Int):=if 0≤lo_∧lo_ < hi_∧hi_≤(l0.length:Int) then (quot_less.f k ((l0.take hi_.toNat).drop lo_.toNat) l1 a2).map (fun r_=>(r_.1,l0.take lo_.toNat ++ r_.2 ++ l0.drop hi_.toNat)) else none
theorem quot_lessW.mono : ∀ a0 a1 a2 a3 a4 k,LeO (quot_lessW.f k a0 a1 a2 a3 a4) (quot_lessW.f (k + 1) a0 a1 a2 a3 a4):=by
  intro a0 a1 a2 a3 a4 k
  unfold quot_lessW.f
  refine LeO.ite ?_ (LeO.none _)
  intro r hr
  obtain ⟨r',h1,h2⟩:=Option.map_eq_some_iff.mp hr
  exact Option.map_eq_some_iff.mpr ⟨r',quot_less.mono _ _ _  k r' h1,h2⟩
def quot_back.l0:Nat→List Int→List Int→Int→List Int→Int→Int→Option (List Int)
  | 0,_,_,_,_,_,_=>none
  | k + 1,x0,x1,x4,x7,x8,x9=>if x9 < x8 then (if 0≤x9 then (if x9 < (x7.length:Int) then (if x9 < (x0.length:Int) then (if x4≤1 then (quot_back.l0 k (x0.set (x9:Int).toNat (add64s (rd x0 x9) (rd x7 x9) x4)) x1 (add64c (rd x0 x9) (rd x7 x9) x4) x7 x8 (wrap64 (x9 + 1))) else (none)) else (none)) else (none)) else (none)) else (if 0≤(x1.length:Int) then (if (x1.length:Int) < (x0.length:Int) then (some (x0.set ((x1.length:Int):Int).toNat (IntKind.u64.wrap ((rd x0 (x1.length:Int)) + x4)))) else (none)) else (none))
def quot_back.f (k:Nat) (l0:List Int) (l1:List Int):Option (List Int):=quot_back.l0 k l0 l1 0 l1 (l1.length:Int) 0
theorem quot_back.mono_l : ∀ k,(∀ y0 y1 y2 y3 y4 y5,LeO (quot_back.l0 k y0 y1 y2 y3 y4 y5) (quot_back.l0 (k + 1) y0 y1 y2 y3 y4 y5))
  | 0=>fun _ _ _ _ _ _ r h=>by simp [quot_back.l0] at h
  | k + 1=>by
    have ih0:=quot_back.mono_l k
    · intro y0 y1 y2 y3 y4 y5
      unfold quot_back.l0
      repeat' first
      | (with_reducible exact ih0 _ _ _ _ _ _)
      | (with_reducible exact LeO.refl _)
      | (with_reducible exact LeO.none _)
      | (with_reducible refine LeO.ite ?_ ?_)
      | (with_reducible refine LeO.bind ?_ (fun _=>?_))
      | exact ih0 _ _ _ _ _ _
      | exact LeO.none _
      | refine LeO.ite ?_ ?_
      | refine LeO.bind ?_ (fun _=>?_)
theorem quot_back.mono : ∀ a0 a1 k,LeO (quot_back.f k a0 a1) (quot_back.f (k + 1) a0 a1):=by
  intro a0 a1 k
  have ih0:=quot_back.mono_l k
  unfold quot_back.f
  repeat' first
      | (with_reducible exact ih0 _ _ _ _ _ _)
      | (with_reducible exact LeO.refl _)
      | (with_reducible exact LeO.none _)
      | (with_reducible refine LeO.ite ?_ ?_)
      | (with_reducible refine LeO.bind ?_ (fun _=>?_))
      | exact ih0 _ _ _ _ _ _
      | exact LeO.none _
      | refine LeO.ite ?_ ?_
      | refine LeO.bind ?_ (fun _=>?_)
def quot_backW.f (k:Nat) (l0:List Int) (lo_ hi_:Int) (l1:List Int):Option (List Int):=if 0≤lo_∧lo_ < hi_∧hi_≤(l0.length:Int) then (quot_back.f k ((l0.take hi_.toNat).drop lo_.toNat) l1).map (fun r_=>l0.take lo_.toNat ++ r_ ++ l0.drop hi_.toNat) else none
theorem quot_backW.mono : ∀ a0 a1 a2 a3 k,LeO (quot_backW.f k a0 a1 a2 a3) (quot_backW.f (k + 1) a0 a1 a2 a3):=by
  intro a0 a1 a2 a3 k
  unfold quot_backW.f
  refine LeO.ite ?_ (LeO.none _)
  intro r hr
  obtain ⟨r',h1,h2⟩:=Option.map_eq_some_iff.mp hr
  exact Option.map_eq_some_iff.mpr ⟨r',quot_back.mono _ _  k r' h1,h2⟩
def quot_wrong.f (a0:Int):Option (Bool):=if a0 < 0 then (some true) else (some (decide (a0 > 262144)))
def quot_Shr.l0:Nat→List Int→Int→Int→Int→Option (List Int×Int)
  | 0,_,_,_,_=>none
  | k + 1,x6,x7,x25,x26=>if x26 < x25 then (if 0≤x26 then (if x26 < (x6.length:Int) then (if 0≤x7 then ((some (x6.set (x26:Int).toNat (shr .u64 (rd x6 x26) x7):List Int)).bind fun y247=>(if (wrap64 (x26 + 1)) < (x6.length:Int) then (if 0≤(wrap64 (x26 + 1)) then (if 0≤(IntKind.u64.wrap (64 - x7)) then (quot_Shr.l0 k (y247.set (x26:Int).toNat (Go.bits .or .u64 (rd y247 x26) (shl .u64 (rd y247 (wrap64 (x26 + 1))) (IntKind.u64.wrap (64 - x7))))) x7 x25 (wrap64 (x26 + 1))) else (none)) else (none)) else (quot_Shr.l0 k y247 x7 x25 (wrap64 (x26 + 1))))) else (none)) else (none)) else (none)) else ((nat_Of.f k x6).bind fun t251=>(some (t251,0)))
def quot_Shr.f (k:Nat) (l0_0:List Int) (a1:Int):Option (List Int×Int):=(quot_wrong.f a1).bind fun t239=>(if t239=true then (some (([]:List Int),2)) else ((nat_Nat_Limbs.f l0_0).bind fun t240=>(if 0≤(mn (wrap64 (Int.tdiv a1 64)) (t240.length:Int)) then (if (mn (wrap64 (Int.tdiv a1 64)) (t240.length:Int))≤(t240.length:Int) then ((some (t240.drop ((mn (wrap64 (Int.tdiv a1 64)) (t240.length:Int)):Int).toNat:List Int)).bind fun y243=>(quot_Shr.l0 k y243 (IntKind.u64.wrap (Int.tmod a1 64)) (y243.length:Int) 0)) else (none)) else (none))))
theorem quot_Shr.mono_l : ∀ k,(∀ y0 y1 y2 y3,LeO (quot_Shr.l0 k y0 y1 y2 y3) (quot_Shr.l0 (k + 1) y0 y1 y2 y3))
  | 0=>fun _ _ _ _ r h=>by simp [quot_Shr.l0] at h
  | k + 1=>by
    have ih0:=quot_Shr.mono_l k
    · intro y0 y1 y2 y3
      unfold quot_Shr.l0
      repeat' first
      | (with_reducible exact ih0 _ _ _ _)
      | (with_reducible exact nat_Of.mono _ _)
      | (with_reducible exact LeO.refl _)
      | (with_reducible exact LeO.none _)
      | (with_reducible refine LeO.ite ?_ ?_)
      | (with_reducible refine LeO.bind ?_ (fun _=>?_))
      | exact ih0 _ _ _ _
      | exact nat_Of.mono _ _
      | exact LeO.none _
      | refine LeO.ite ?_ ?_
      | refine LeO.bind ?_ (fun _=>?_)
theorem quot_Shr.mono : ∀ a0 a1 k,LeO (quot_Shr.f k a0 a1) (quot_Shr.f (k + 1) a0 a1):=by
  intro a0 a1 k
  have ih0:=quot_Shr.mono_l k
  unfold quot_Shr.f
  repeat' first
      | (with_reducible exact ih0 _ _ _ _)
      | (with_reducible exact nat_Of.mono _ _)
      | (with_reducible exact LeO.refl _)
      | (with_reducible exact LeO.none _)
      | (with_reducible refine LeO.ite ?_ ?_)
      | (with_reducible refine LeO.bind ?_ (fun _=>?_))
      | exact ih0 _ _ _ _
      | exact nat_Of.mono _ _
      | exact LeO.none _
      | refine LeO.ite ?_ ?_
      | refine LeO.bind ?_ (fun _=>?_)
mutual
def quot_long.l0:Nat→List Int→List Int→Int→List Int→Int→Option (List Int×List Int)
  | 0,_,_,_,_,_=>none
  | k + 1,x0,x1,x6,x7,x8=>if x8 ≥ 0 then (if 0≤x8 then (if x8 < (wrap64 ((wrap64 (x8 + (x1.length:Int))) + 1)) then (if (wrap64 ((wrap64 (x8 + (x1.length:Int))) + 1))≤(x0.length:Int) then ((quot_guessW.f k x0 x8 (wrap64 ((wrap64 (x8 + (x1.length:Int))) + 1)) x1).bind fun t279=>((quot_lessW.f k x0 x8 (wrap64 ((wrap64 (x8 + (x1.length:Int))) + 1)) x1 t279).bind fun bt280=>(quot_long.l1 k bt280.2 x1 x6 x7 x8 t279 bt280.1))) else (none)) else (none)) else (none)) else ((nat_Of.f k x0).bind fun t268=>((quot_Shr.f k t268 (wrap64 (x6))).bind fun bt271=>((nat_Nat_Limbs.f bt271.1).bind fun t276=>(some (x7,t276)))))
def quot_long.l1:Nat→List Int→List Int→Int→List Int→Int→Int→Int→Option (List Int×List Int)
  | 0,_,_,_,_,_,_,_=>none
  | k + 1,x0,x1,x6,x7,x8,x10,x11=>if x11=0 then (if 0≤x8 then (if x8 < (x7.length:Int) then (quot_long.l0 k x0 x1 x6 (x7.set (x8:Int).toNat x10) (wrap64 (x8 - 1))) else (none)) else (none)) else ((quot_backW.f k x0 x8 (wrap64 ((wrap64 (x8 + (x1.length:Int))) + 1)) x1).bind fun t283=>(if 0≤x8 then (if 0≤(x1.length:Int) then (if (x1.length:Int) < (wrap64 ((wrap64 (x8 + (x1.length:Int))) + 1)) - x8 then (if 0≤((x1.length:Int) + x8) then (if ((x1.length:Int) + x8) < (x0.length:Int) then (if (rd t283 ((x1.length:Int) + x8))=0 then (quot_long.l1 k t283 x1 x6 x7 x8 (IntKind.u64.wrap (x10 - 1)) 0) else (quot_long.l1 k t283 x1 x6 x7 x8 (IntKind.u64.wrap (x10 - 1)) x11)) else (none)) else (none)) else (none)) else (none)) else (none)))
end
def quot_long.f (k:Nat) (l0:List Int) (l1:List Int):Option (List Int×List Int):=if 0≤(wrap64 ((l1.length:Int) - 1)) then (if (wrap64 ((l1.length:Int) - 1)) < (l1.length:Int) then ((bits_LeadingZeros64.f k (rd l1 (wrap64 ((l1.length:Int) - 1)))).bind fun t255=>((quot_moved.f k l0 (IntKind.u64.wrap (t255))).bind fun t256=>((quot_moved.f k l1 (IntKind.u64.wrap (t255))).bind fun t259=>(if 0≤(l1.length:Int) then (if (l1.length:Int)≤(t259.length:Int) then ((some (t259.take ((l1.length:Int):Int).toNat:List Int)).bind fun y262=>(if 0≤(wrap64 ((t256.length:Int) - (y262.length:Int))) then (if (wrap64 ((t256.length:Int) - (y262.length:Int)):Int).toNat≤35184372088832 then ((some (List.replicate (wrap64 ((t256.length:Int) - (y262.length:Int)):Int).toNat 0:List Int)).bind fun y265=>(quot_long.l0 k t256 y262 (IntKind.u64.wrap (t255)) y265 (wrap64 ((y265.length:Int) - 1)))) else (none)) else (none))) else (none)) else (none))))) else (none)) else (none)
theorem quot_long.mono_l : ∀ k,(∀ y0 y1 y2 y3 y4,LeO (quot_long.l0 k y0 y1 y2 y3 y4) (quot_long.l0 (k + 1) y0 y1 y2 y3 y4))∧(∀ y0 y1 y2 y3 y4 y5 y6,LeO (quot_long.l1 k y0 y1 y2 y3 y4 y5 y6) (quot_long.l1 (k + 1) y0 y1 y2 y3 y4 y5 y6))
  | 0=>⟨fun _ _ _ _ _ r h=>by simp [quot_long.l0] at h,fun _ _ _ _ _ _ _ r h=>by simp [quot_long.l1] at h⟩
  | k + 1=>by
    obtain ⟨ih0,ih1⟩:=quot_long.mono_l k
    refine ⟨?_,?_⟩
    · intro y0 y1 y2 y3 y4
      unfold quot_long.l0
      repeat' first
      | (with_reducible exact ih0 _ _ _ _ _)
      | (with_reducible exact ih1 _ _ _ _ _ _ _)
      | (with_reducible exact bits_LeadingZeros64.mono _ _)
      | (with_reducible exact nat_Of.mono _ _)
      | (with_reducible exact quot_Shr.mono _ _ _)
      | (with_reducible exact quot_backW.mono _ _ _ _ _)
      | (with_reducible exact quot_guessW.mono _ _ _ _ _)
      | (with_reducible exact quot_lessW.mono _ _ _ _ _ _)
      | (with_reducible exact quot_moved.mono _ _ _)
      | (with_reducible exact LeO.refl _)
      | (with_reducible exact LeO.none _)
      | (with_reducible refine LeO.ite ?_ ?_)
      | (with_reducible refine LeO.bind ?_ (fun _=>?_))
      | exact ih0 _ _ _ _ _
      | exact ih1 _ _ _ _ _ _ _
      | exact bits_LeadingZeros64.mono _ _
      | exact nat_Of.mono _ _
      | exact quot_Shr.mono _ _ _
      | exact quot_backW.mono _ _ _ _ _
      | exact quot_guessW.mono _ _ _ _ _
      | exact quot_lessW.mono _ _ _ _ _ _
      | exact quot_moved.mono _ _ _
      | exact LeO.none _
      | refine LeO.ite ?_ ?_
      | refine LeO.bind ?_ (fun _=>?_)
    · intro y0 y1 y2 y3 y4 y5 y6
      unfold quot_long.l1
      repeat' first
      | (with_reducible exact ih0 _ _ _ _ _)
      | (with_reducible exact ih1 _ _ _ _ _ _ _)
      | (with_reducible exact bits_LeadingZeros64.mono _ _)
      | (with_reducible exact nat_Of.mono _ _)
      | (with_reducible exact quot_Shr.mono _ _ _)
      | (with_reducible exact quot_backW.mono _ _ _ _ _)
      | (with_reducible exact quot_guessW.mono _ _ _ _ _)
      | (with_reducible exact quot_lessW.mono _ _ _ _ _ _)
      | (with_reducible exact quot_moved.mono _ _ _)
      | (with_reducible exact LeO.refl _)
      | (with_reducible exact LeO.none _)
      | (with_reducible refine LeO.ite ?_ ?_)
      | (with_reducible refine LeO.bind ?_ (fun _=>?_))
      | exact ih0 _ _ _ _ _
      | exact ih1 _ _ _ _ _ _ _
      | exact bits_LeadingZeros64.mono _ _
      | exact nat_Of.mono _ _
      | exact quot_Shr.mono _ _ _
      | exact quot_backW.mono _ _ _ _ _
      | exact quot_guessW.mono _ _ _ _ _
      | exact quot_lessW.mono _ _ _ _ _ _
      | exact quot_moved.mono _ _ _
      | exact LeO.none _
      | refine LeO.ite ?_ ?_
      | refine LeO.bind ?_ (fun _=>?_)
theorem quot_long.mono : ∀ a0 a1 k,LeO (quot_long.f k a0 a1) (quot_long.f (k + 1) a0 a1):=by
  intro a0 a1 k
  obtain ⟨ih0,ih1⟩:=quot_long.mono_l k
  unfold quot_long.f
  repeat' first
      | (with_reducible exact ih0 _ _ _ _ _)
      | (with_reducible exact ih1 _ _ _ _ _ _ _)
      | (with_reducible exact bits_LeadingZeros64.mono _ _)
      | (with_reducible exact nat_Of.mono _ _)
      | (with_reducible exact quot_Shr.mono _ _ _)
      | (with_reducible exact quot_backW.mono _ _ _ _ _)
      | (with_reducible exact quot_guessW.mono _ _ _ _ _)
      | (with_reducible exact quot_lessW.mono _ _ _ _ _ _)
      | (with_reducible exact quot_moved.mono _ _ _)
      | (with_reducible exact LeO.refl _)
      | (with_reducible exact LeO.none _)
      | (with_reducible refine LeO.ite ?_ ?_)
      | (with_reducible refine LeO.bind ?_ (fun _=>?_))
      | exact ih0 _ _ _ _ _
      | exact ih1 _ _ _ _ _ _ _
      | exact bits_LeadingZeros64.mono _ _
      | exact nat_Of.mono _ _
      | exact quot_Shr.mono _ _ _
      | exact quot_backW.mono _ _ _ _ _
      | exact quot_guessW.mono _ _ _ _ _
      | exact quot_lessW.mono _ _ _ _ _ _
      | exact quot_moved.mono _ _ _
      | exact LeO.none _
      | refine LeO.ite ?_ ?_
      | refine LeO.bind ?_ (fun _=>?_)
def quot_Div.f (k:Nat) (l0_0:List Int) (l1_0:List Int):Option (List Int×List Int×Int):=(nat_Nat_Zero.f l1_0).bind fun t289=>(if t289=true then (some (([]:List Int),([]:List Int),8)) else ((nat_Nat_Cmp.f k l0_0 l1_0).bind fun t290=>(if t290 < 0 then (some (([]:List Int),l0_0,0)) else ((nat_Nat_Limbs.f l0_0).bind fun t291=>((nat_Nat_Limbs.f l1_0).bind fun t294=>(if (t294.length:Int)=1 then (if 0 < (t294.length:Int) then ((quot_by.f k t291 (rd t294 0)).bind fun bt298=>((nat_Of.f k bt298.1).bind fun t302=>((nat_Of.f k (([bt298.2]:List Int))).bind fun t308=>(some (t302,t308,0))))) else (none)) else ((quot_long.f k t291 t294).bind fun bt311=>((nat_Of.f k bt311.1).bind fun t317=>((nat_Of.f k bt311.2).bind fun t320=>(some (t317,t320,0)))))))))))
theorem quot_Div.mono : ∀ a0 a1 k,LeO (quot_Div.f k a0 a1) (quot_Div.f (k + 1) a0 a1):=by
  intro a0 a1 k
  unfold quot_Div.f
  repeat' first
      | (with_reducible exact nat_Nat_Cmp.mono _ _ _)
      | (with_reducible exact nat_Of.mono _ _)
      | (with_reducible exact quot_by.mono _ _ _)
      | (with_reducible exact quot_long.mono _ _ _)
      | (with_reducible exact LeO.refl _)
      | (with_reducible exact LeO.none _)
      | (with_reducible refine LeO.ite ?_ ?_)
      | (with_reducible refine LeO.bind ?_ (fun _=>?_))
      | exact nat_Nat_Cmp.mono _ _ _
      | exact nat_Of.mono _ _
      | exact quot_by.mono _ _ _
      | exact quot_long.mono _ _ _
      | exact LeO.none _
      | refine LeO.ite ?_ ?_
      | refine LeO.bind ?_ (fun _=>?_)
def whole_Int_Abs.f (l0_0:List Int) (a0_1:Bool):Option (List Int):=some l0_0
def quot_Gcd.l0:Nat→List Int→List Int→Option (List Int)
  | 0,_,_=>none
  | k + 1,x326000,x327000=>(nat_Nat_Zero.f x327000).bind fun t328=>(if t328=true then (some x326000) else ((quot_Div.f k x326000 x327000).bind fun bt329=>(quot_Gcd.l0 k x327000 bt329.2.1)))
def quot_Gcd.f (k:Nat) (l0_0:List Int) (l1_0:List Int):Option (List Int):=quot_Gcd.l0 k l0_0 l1_0
theorem quot_Gcd.mono_l : ∀ k,(∀ y0 y1,LeO (quot_Gcd.l0 k y0 y1) (quot_Gcd.l0 (k + 1) y0 y1))
  | 0=>fun _ _ r h=>by simp [quot_Gcd.l0] at h
  | k + 1=>by
    have ih0:=quot_Gcd.mono_l k
    · intro y0 y1
      unfold quot_Gcd.l0
      repeat' first
      | (with_reducible exact ih0 _ _)
      | (with_reducible exact quot_Div.mono _ _ _)
      | (with_reducible exact LeO.refl _)
      | (with_reducible exact LeO.none _)
      | (with_reducible refine LeO.ite ?_ ?_)
      | (with_reducible refine LeO.bind ?_ (fun _=>?_))
      | exact ih0 _ _
      | exact quot_Div.mono _ _ _
      | exact LeO.none _
      | refine LeO.ite ?_ ?_
      | refine LeO.bind ?_ (fun _=>?_)
theorem quot_Gcd.mono : ∀ a0 a1 k,LeO (quot_Gcd.f k a0 a1) (quot_Gcd.f (k + 1) a0 a1):=by
  intro a0 a1 k
  have ih0:=quot_Gcd.mono_l k
  unfold quot_Gcd.f
  repeat' first
      | (with_reducible exact ih0 _ _)
      | (with_reducible exact quot_Div.mono _ _ _)
      | (with_reducible exact LeO.refl _)
      | (with_reducible exact LeO.none _)
      | (with_reducible refine LeO.ite ?_ ?_)
      | (with_reducible refine LeO.bind ?_ (fun _=>?_))
      | exact ih0 _ _
      | exact quot_Div.mono _ _ _
      | exact LeO.none _
      | refine LeO.ite ?_ ?_
      | refine LeO.bind ?_ (fun _=>?_)
def nat_Nat_limb.f (l0_0:List Int) (a1:Int):Option (Int):=if a1 ≥ (l0_0.length:Int) then (some 0) else (if 0≤a1 then (if a1 < (l0_0.length:Int) then (some (rd l0_0 a1)) else (none)) else (none))
def nat_Nat_Sub.l0:Nat→List Int→Int→Int→Int→List Int→List Int→Option (List Int×Bool)
  | 0,_,_,_,_,_,_=>none
  | k + 1,x6,x7,x19,x20,x341000,x342000=>if x20 < x19 then (if 0≤x20 then (if x20 < (x341000.length:Int) then ((nat_Nat_limb.f x342000 x20).bind fun t348=>(if x7≤1 then (if x20 < (x6.length:Int) then (nat_Nat_Sub.l0 k (x6.set (x20:Int).toNat (sub64d (rd x341000 x20) t348 x7)) (sub64b (rd x341000 x20) t348 x7) x19 (wrap64 (x20 + 1)) x341000 x342000) else (none)) else (none))) else (none)) else (none)) else ((nat_trimmed.f k x6).bind fun t350=>(some (t350,true)))
def nat_Nat_Sub.f (k:Nat) (l0_0:List Int) (l1_0:List Int):Option (List Int×Bool):=(nat_Nat_Cmp.f k l0_0 l1_0).bind fun t343=>(if t343 < 0 then (some (([]:List Int),false)) else (if 0≤(l0_0.length:Int) then (if ((l0_0.length:Int):Int).toNat≤35184372088832 then ((some (List.replicate ((l0_0.length:Int):Int).toNat 0:List Int)).bind fun y344=>(nat_Nat_Sub.l0 k y344 0 (y344.length:Int) 0 l0_0 l1_0)) else (none)) else (none)))
theorem nat_Nat_Sub.mono_l : ∀ k,(∀ y0 y1 y2 y3 y4 y5,LeO (nat_Nat_Sub.l0 k y0 y1 y2 y3 y4 y5) (nat_Nat_Sub.l0 (k + 1) y0 y1 y2 y3 y4 y5))
  | 0=>fun _ _ _ _ _ _ r h=>by simp [nat_Nat_Sub.l0] at h
  | k + 1=>by
    have ih0:=nat_Nat_Sub.mono_l k
    · intro y0 y1 y2 y3 y4 y5
      unfold nat_Nat_Sub.l0
      repeat' first
      | (with_reducible exact ih0 _ _ _ _ _ _)
      | (with_reducible exact nat_Nat_Cmp.mono _ _ _)
      | (with_reducible exact nat_trimmed.mono _ _)
      | (with_reducible exact LeO.refl _)
      | (with_reducible exact LeO.none _)
      | (with_reducible refine LeO.ite ?_ ?_)
      | (with_reducible refine LeO.bind ?_ (fun _=>?_))
      | exact ih0 _ _ _ _ _ _
      | exact nat_Nat_Cmp.mono _ _ _
      | exact nat_trimmed.mono _ _
      | exact LeO.none _
      | refine LeO.ite ?_ ?_
      | refine LeO.bind ?_ (fun _=>?_)
theorem nat_Nat_Sub.mono : ∀ a0 a1 k,LeO (nat_Nat_Sub.f k a0 a1) (nat_Nat_Sub.f (k + 1) a0 a1):=by
  intro a0 a1 k
  have ih0:=nat_Nat_Sub.mono_l k
  unfold nat_Nat_Sub.f
  repeat' first
      | (with_reducible exact ih0 _ _ _ _ _ _)
      | (with_reducible exact nat_Nat_Cmp.mono _ _ _)
      | (with_reducible exact nat_trimmed.mono _ _)
      | (with_reducible exact LeO.refl _)
      | (with_reducible exact LeO.none _)
      | (with_reducible refine LeO.ite ?_ ?_)
      | (with_reducible refine LeO.bind ?_ (fun _=>?_))
      | exact ih0 _ _ _ _ _ _
      | exact nat_Nat_Cmp.mono _ _ _
      | exact nat_trimmed.mono _ _
      | exact LeO.none _
      | refine LeO.ite ?_ ?_
      | refine LeO.bind ?_ (fun _=>?_)
def frac_made.f (k:Nat) (l0_0:List Int) (a0_1:Bool) (l1_0:List Int):Option (List Int×Bool×List Int):=(whole_Int_Abs.f l0_0 a0_1).bind fun t356=>((quot_Gcd.f k t356 l1_0).bind fun t359=>((whole_Int_Abs.f l0_0 a0_1).bind fun t363=>((quot_Div.f k t363 t359).bind fun bt366=>((quot_Div.f k l1_0 t359).bind fun bt375=>((nat_Of.f k (([1]:List Int))).bind fun t387=>((nat_Nat_Sub.f k bt375.1 t387).bind fun bt390=>((whole_Int_Sign.f l0_0 a0_1).bind fun t395=>((whole_Of.f bt366.1 (decide (t395 < 0))).bind fun bt396=>(some (bt396.1,bt396.2,bt390.1))))))))))
theorem frac_made.mono : ∀ a0 a1 a2 k,LeO (frac_made.f k a0 a1 a2) (frac_made.f (k + 1) a0 a1 a2):=by
  intro a0 a1 a2 k
  unfold frac_made.f
  repeat' first
      | (with_reducible exact nat_Nat_Sub.mono _ _ _)
      | (with_reducible exact nat_Of.mono _ _)
      | (with_reducible exact quot_Div.mono _ _ _)
      | (with_reducible exact quot_Gcd.mono _ _ _)
      | (with_reducible exact LeO.refl _)
      | (with_reducible exact LeO.none _)
      | (with_reducible refine LeO.ite ?_ ?_)
      | (with_reducible refine LeO.bind ?_ (fun _=>?_))
      | exact nat_Nat_Sub.mono _ _ _
      | exact nat_Of.mono _ _
      | exact quot_Div.mono _ _ _
      | exact quot_Gcd.mono _ _ _
      | exact LeO.none _
      | refine LeO.ite ?_ ?_
      | refine LeO.bind ?_ (fun _=>?_)
def frac_Of.f (k:Nat) (l0_0:List Int) (a0_1:Bool) (l1_0:List Int) (a1_1:Bool):Option (List Int×Bool×List Int×Int):=(whole_Int_Sign.f l1_0 a1_1).bind fun t403=>(if t403=0 then (some (([]:List Int),false,([]:List Int),8)) else (if t403=(-1) then ((whole_Int_Neg.f l0_0 a0_1).bind fun bt404=>((whole_Int_Abs.f l1_0 a1_1).bind fun t408=>((frac_made.f k bt404.1 bt404.2 t408).bind fun bt411=>(some (bt411.1,bt411.2.1,bt411.2.2,0))))) else ((whole_Int_Abs.f l1_0 a1_1).bind fun t418=>((frac_made.f k l0_0 a0_1 t418).bind fun bt421=>(some (bt421.1,bt421.2.1,bt421.2.2,0))))))
theorem frac_Of.mono : ∀ a0 a1 a2 a3 k,LeO (frac_Of.f k a0 a1 a2 a3) (frac_Of.f (k + 1) a0 a1 a2 a3):=by
  intro a0 a1 a2 a3 k
  unfold frac_Of.f
  repeat' first
      | (with_reducible exact frac_made.mono _ _ _ _)
      | (with_reducible exact LeO.refl _)
      | (with_reducible exact LeO.none _)
      | (with_reducible refine LeO.ite ?_ ?_)
      | (with_reducible refine LeO.bind ?_ (fun _=>?_))
      | exact frac_made.mono _ _ _ _
      | exact LeO.none _
      | refine LeO.ite ?_ ?_
      | refine LeO.bind ?_ (fun _=>?_)
def whole_From.f (k:Nat) (a0:Int):Option (List Int×Bool):=if a0 < 0 then ((nat_Of.f k (([IntKind.u64.wrap (-(IntKind.u64.wrap (a0)))]:List Int))).bind fun t432=>((whole_Of.f t432 true).bind fun bt435=>(some (bt435.1,bt435.2)))) else ((nat_Of.f k (([IntKind.u64.wrap (a0)]:List Int))).bind fun t442=>((whole_Of.f t442 false).bind fun bt445=>(some (bt445.1,bt445.2))))
theorem whole_From.mono : ∀ a0 k,LeO (whole_From.f k a0) (whole_From.f (k + 1) a0):=by
  intro a0 k
  unfold whole_From.f
  repeat' first
      | (with_reducible exact nat_Of.mono _ _)
      | (with_reducible exact LeO.refl _)
      | (with_reducible exact LeO.none _)
      | (with_reducible refine LeO.ite ?_ ?_)
      | (with_reducible refine LeO.bind ?_ (fun _=>?_))
      | exact nat_Of.mono _ _
      | exact LeO.none _
      | refine LeO.ite ?_ ?_
      | refine LeO.bind ?_ (fun _=>?_)
def count_part.f (k:Nat) (a0:Int) (a1:Int):Option (List Int×Bool×List Int):=(whole_From.f k a0).bind fun bt450=>((whole_From.f k a1).bind fun bt454=>((frac_Of.f k bt450.1 bt450.2 bt454.1 bt454.2).bind fun bt458=>(some (bt458.1,bt458.2.1,bt458.2.2.1))))
theorem count_part.mono : ∀ a0 a1 k,LeO (count_part.f k a0 a1) (count_part.f (k + 1) a0 a1):=by
  intro a0 a1 k
  unfold count_part.f
  repeat' first
      | (with_reducible exact frac_Of.mono _ _ _ _ _)
      | (with_reducible exact whole_From.mono _ _)
      | (with_reducible exact LeO.refl _)
      | (with_reducible exact LeO.none _)
      | (with_reducible refine LeO.ite ?_ ?_)
      | (with_reducible refine LeO.bind ?_ (fun _=>?_))
      | exact frac_Of.mono _ _ _ _ _
      | exact whole_From.mono _ _
      | exact LeO.none _
      | refine LeO.ite ?_ ?_
      | refine LeO.bind ?_ (fun _=>?_)
def count_thirty.f (k:Nat) (a0_0:Int) (a0_1:Int) (a0_2:Int) (a1_0:Int) (a1_1:Int) (a1_2:Int):Option (List Int×Bool×List Int):=if a0_2 > 30 then (if a1_2 > 30 then (if 30=30 then ((count_part.f k (wrap64 ((wrap64 ((wrap64 ((wrap64 (360 * (wrap64 (a1_0 - a0_0)))) + (wrap64 (30 * (wrap64 (a1_1 - a0_1)))))) + 30)) - 30)) 360).bind fun bt470=>(some (bt470.1,bt470.2.1,bt470.2.2))) else ((count_part.f k (wrap64 ((wrap64 ((wrap64 ((wrap64 (360 * (wrap64 (a1_0 - a0_0)))) + (wrap64 (30 * (wrap64 (a1_1 - a0_1)))))) + a1_2)) - 30)) 360).bind fun bt477=>(some (bt477.1,bt477.2.1,bt477.2.2)))) else ((count_part.f k (wrap64 ((wrap64 ((wrap64 ((wrap64 (360 * (wrap64 (a1_0 - a0_0)))) + (wrap64 (30 * (wrap64 (a1_1 - a0_1)))))) + a1_2)) - 30)) 360).bind fun bt484=>(some (bt484.1,bt484.2.1,bt484.2.2)))) else (if a1_2 > 30 then (if a0_2=30 then ((count_part.f k (wrap64 ((wrap64 ((wrap64 ((wrap64 (360 * (wrap64 (a1_0 - a0_0)))) + (wrap64 (30 * (wrap64 (a1_1 - a0_1)))))) + 30)) - a0_2)) 360).bind fun bt491=>(some (bt491.1,bt491.2.1,bt491.2.2))) else ((count_part.f k (wrap64 ((wrap64 ((wrap64 ((wrap64 (360 * (wrap64 (a1_0 - a0_0)))) + (wrap64 (30 * (wrap64 (a1_1 - a0_1)))))) + a1_2)) - a0_2)) 360).bind fun bt498=>(some (bt498.1,bt498.2.1,bt498.2.2)))) else ((count_part.f k (wrap64 ((wrap64 ((wrap64 ((wrap64 (360 * (wrap64 (a1_0 - a0_0)))) + (wrap64 (30 * (wrap64 (a1_1 - a0_1)))))) + a1_2)) - a0_2)) 360).bind fun bt505=>(some (bt505.1,bt505.2.1,bt505.2.2))))
theorem count_thirty.mono : ∀ a0 a1 a2 a3 a4 a5 k,LeO (count_thirty.f k a0 a1 a2 a3 a4 a5) (count_thirty.f (k + 1) a0 a1 a2 a3 a4 a5):=by
  intro a0 a1 a2 a3 a4 a5 k
  unfold count_thirty.f
  repeat' first
      | (with_reducible exact count_part.mono _ _ _)
      | (with_reducible exact LeO.refl _)
      | (with_reducible exact LeO.none _)
      | (with_reducible refine LeO.ite ?_ ?_)
      | (with_reducible refine LeO.bind ?_ (fun _=>?_))
      | exact count_part.mono _ _ _
      | exact LeO.none _
      | refine LeO.ite ?_ ?_
      | refine LeO.bind ?_ (fun _=>?_)
def date_ahead.f (a0:Int):Option (Int):=some (wrap64 ((wrap64 ((wrap64 ((wrap64 (365 * (wrap64 (a0 - 1)))) + (wrap64 (Int.tdiv (wrap64 (a0 - 1)) 4)))) - (wrap64 (Int.tdiv (wrap64 (a0 - 1)) 100)))) + (wrap64 (Int.tdiv (wrap64 (a0 - 1)) 400))))
def date_Number.l0:Nat→Int→Int→Int→Int→Int→Option (Int×Int)
  | 0,_,_,_,_,_=>none
  | k + 1,x5,x6,x513000,x513001,x513002=>if x6 < x513001 then ((date_Days.f k x513000 x6).bind fun t515=>(date_Number.l0 k (wrap64 (x5 + t515)) (wrap64 (x6 + 1)) x513000 x513001 x513002)) else (some (wrap64 (x5 + x513002),0))
def date_Number.f (k:Nat) (a0_0:Int) (a0_1:Int) (a0_2:Int):Option (Int×Int):=(date_Check.f k a0_0 a0_1 a0_2).bind fun t513=>(if t513=0 then ((date_ahead.f a0_0).bind fun t514=>(date_Number.l0 k t514 1 a0_0 a0_1 a0_2)) else (some (0,t513)))
theorem date_Number.mono_l : ∀ k,(∀ y0 y1 y2 y3 y4,LeO (date_Number.l0 k y0 y1 y2 y3 y4) (date_Number.l0 (k + 1) y0 y1 y2 y3 y4))
  | 0=>fun _ _ _ _ _ r h=>by simp [date_Number.l0] at h
  | k + 1=>by
    have ih0:=date_Number.mono_l k
    · intro y0 y1 y2 y3 y4
      unfold date_Number.l0
      repeat' first
      | (with_reducible exact ih0 _ _ _ _ _)
      | (with_reducible exact date_Check.mono _ _ _ _)
      | (with_reducible exact date_Days.mono _ _ _)
      | (with_reducible exact LeO.refl _)
      | (with_reducible exact LeO.none _)
      | (with_reducible refine LeO.ite ?_ ?_)
      | (with_reducible refine LeO.bind ?_ (fun _=>?_))
      | exact ih0 _ _ _ _ _
      | exact date_Check.mono _ _ _ _
      | exact date_Days.mono _ _ _
      | exact LeO.none _
      | refine LeO.ite ?_ ?_
      | refine LeO.bind ?_ (fun _=>?_)
theorem date_Number.mono : ∀ a0 a1 a2 k,LeO (date_Number.f k a0 a1 a2) (date_Number.f (k + 1) a0 a1 a2):=by
  intro a0 a1 a2 k
  have ih0:=date_Number.mono_l k
  unfold date_Number.f
  repeat' first
      | (with_reducible exact ih0 _ _ _ _ _)
      | (with_reducible exact date_Check.mono _ _ _ _)
      | (with_reducible exact date_Days.mono _ _ _)
      | (with_reducible exact LeO.refl _)
      | (with_reducible exact LeO.none _)
      | (with_reducible refine LeO.ite ?_ ?_)
      | (with_reducible refine LeO.bind ?_ (fun _=>?_))
      | exact ih0 _ _ _ _ _
      | exact date_Check.mono _ _ _ _
      | exact date_Days.mono _ _ _
      | exact LeO.none _
      | refine LeO.ite ?_ ?_
      | refine LeO.bind ?_ (fun _=>?_)
def month_Between.f (k:Nat) (a0_0:Int) (a0_1:Int) (a0_2:Int) (a1_0:Int) (a1_1:Int) (a1_2:Int):Option (Int×Int):=(date_Number.f k a0_0 a0_1 a0_2).bind fun bt518=>(if bt518.2=0 then ((date_Number.f k a1_0 a1_1 a1_2).bind fun bt520=>(if bt520.2=0 then (some (wrap64 (bt520.1 - bt518.1),0)) else (some (0,bt520.2)))) else (some (0,bt518.2)))
theorem month_Between.mono : ∀ a0 a1 a2 a3 a4 a5 k,LeO (month_Between.f k a0 a1 a2 a3 a4 a5) (month_Between.f (k + 1) a0 a1 a2 a3 a4 a5):=by
  intro a0 a1 a2 a3 a4 a5 k
  unfold month_Between.f
  repeat' first
      | (with_reducible exact date_Number.mono _ _ _ _)
      | (with_reducible exact LeO.refl _)
      | (with_reducible exact LeO.none _)
      | (with_reducible refine LeO.ite ?_ ?_)
      | (with_reducible refine LeO.bind ?_ (fun _=>?_))
      | exact date_Number.mono _ _ _ _
      | exact LeO.none _
      | refine LeO.ite ?_ ?_
      | refine LeO.bind ?_ (fun _=>?_)
def count_days.f (k:Nat) (a0_0:Int) (a0_1:Int) (a0_2:Int) (a1_0:Int) (a1_1:Int) (a1_2:Int):Option (Int):=(month_Between.f k a0_0 a0_1 a0_2 a1_0 a1_1 a1_2).bind fun bt524=>(some bt524.1)
theorem count_days.mono : ∀ a0 a1 a2 a3 a4 a5 k,LeO (count_days.f k a0 a1 a2 a3 a4 a5) (count_days.f (k + 1) a0 a1 a2 a3 a4 a5):=by
  intro a0 a1 a2 a3 a4 a5 k
  unfold count_days.f
  repeat' first
      | (with_reducible exact month_Between.mono _ _ _ _ _ _ _)
      | (with_reducible exact LeO.refl _)
      | (with_reducible exact LeO.none _)
      | (with_reducible refine LeO.ite ?_ ?_)
      | (with_reducible refine LeO.bind ?_ (fun _=>?_))
      | exact month_Between.mono _ _ _ _ _ _ _
      | exact LeO.none _
      | refine LeO.ite ?_ ?_
      | refine LeO.bind ?_ (fun _=>?_)
def count_year.f (a0:Int):Option (Int):=(date_Leap.f a0).bind fun t526=>(if t526=true then (some 366) else (some 365))
def nat_Nat_Add.l0:Nat→List Int→Int→Int→Int→List Int→List Int→Option (List Int)
  | 0,_,_,_,_,_,_=>none
  | k + 1,x5,x6,x18,x19,x528000,x529000=>if x19 < x18 then ((nat_Nat_limb.f x528000 x19).bind fun t533=>((nat_Nat_limb.f x529000 x19).bind fun t534=>(if x6≤1 then (if 0≤x19 then (if x19 < (x5.length:Int) then (nat_Nat_Add.l0 k (x5.set (x19:Int).toNat (add64s t533 t534 x6)) (add64c t533 t534 x6) x18 (wrap64 (x19 + 1)) x528000 x529000) else (none)) else (none)) else (none)))) else ((nat_trimmed.f k x5).bind fun t536=>(some t536))
def nat_Nat_Add.f (k:Nat) (l0_0:List Int) (l1_0:List Int):Option (List Int):=if 0≤(wrap64 ((mx (l0_0.length:Int) (l1_0.length:Int)) + 1)) then (if (wrap64 ((mx (l0_0.length:Int) (l1_0.length:Int)) + 1):Int).toNat≤35184372088832 then ((some (List.replicate (wrap64 ((mx (l0_0.length:Int) (l1_0.length:Int)) + 1):Int).toNat 0:List Int)).bind fun y530=>(nat_Nat_Add.l0 k y530 0 (y530.length:Int) 0 l0_0 l1_0)) else (none)) else (none)
theorem nat_Nat_Add.mono_l : ∀ k,(∀ y0 y1 y2 y3 y4 y5,LeO (nat_Nat_Add.l0 k y0 y1 y2 y3 y4 y5) (nat_Nat_Add.l0 (k + 1) y0 y1 y2 y3 y4 y5))
  | 0=>fun _ _ _ _ _ _ r h=>by simp [nat_Nat_Add.l0] at h
  | k + 1=>by
    have ih0:=nat_Nat_Add.mono_l k
    · intro y0 y1 y2 y3 y4 y5
      unfold nat_Nat_Add.l0
      repeat' first
      | (with_reducible exact ih0 _ _ _ _ _ _)
      | (with_reducible exact nat_trimmed.mono _ _)
      | (with_reducible exact LeO.refl _)
      | (with_reducible exact LeO.none _)
      | (with_reducible refine LeO.ite ?_ ?_)
      | (with_reducible refine LeO.bind ?_ (fun _=>?_))
      | exact ih0 _ _ _ _ _ _
      | exact nat_trimmed.mono _ _
      | exact LeO.none _
      | refine LeO.ite ?_ ?_
      | refine LeO.bind ?_ (fun _=>?_)
theorem nat_Nat_Add.mono : ∀ a0 a1 k,LeO (nat_Nat_Add.f k a0 a1) (nat_Nat_Add.f (k + 1) a0 a1):=by
  intro a0 a1 k
  have ih0:=nat_Nat_Add.mono_l k
  unfold nat_Nat_Add.f
  repeat' first
      | (with_reducible exact ih0 _ _ _ _ _ _)
      | (with_reducible exact nat_trimmed.mono _ _)
      | (with_reducible exact LeO.refl _)
      | (with_reducible exact LeO.none _)
      | (with_reducible refine LeO.ite ?_ ?_)
      | (with_reducible refine LeO.bind ?_ (fun _=>?_))
      | exact ih0 _ _ _ _ _ _
      | exact nat_trimmed.mono _ _
      | exact LeO.none _
      | refine LeO.ite ?_ ?_
      | refine LeO.bind ?_ (fun _=>?_)
def frac_Frac_Den.f (k:Nat) (l0_0:List Int) (a0_1:Bool) (l0_2:List Int):Option (List Int):=(nat_Of.f k (([1]:List Int))).bind fun t544=>((nat_Nat_Add.f k l0_2 t544).bind fun t547=>(some t547))
theorem frac_Frac_Den.mono : ∀ a0 a1 a2 k,LeO (frac_Frac_Den.f k a0 a1 a2) (frac_Frac_Den.f (k + 1) a0 a1 a2):=by
  intro a0 a1 a2 k
  unfold frac_Frac_Den.f
  repeat' first
      | (with_reducible exact nat_Nat_Add.mono _ _ _)
      | (with_reducible exact nat_Of.mono _ _)
      | (with_reducible exact LeO.refl _)
      | (with_reducible exact LeO.none _)
      | (with_reducible refine LeO.ite ?_ ?_)
      | (with_reducible refine LeO.bind ?_ (fun _=>?_))
      | exact nat_Nat_Add.mono _ _ _
      | exact nat_Of.mono _ _
      | exact LeO.none _
      | refine LeO.ite ?_ ?_
      | refine LeO.bind ?_ (fun _=>?_)
def nat_Nat_row.l0:Nat→Int→List Int→Int→List Int→Int→Int→List Int→Option (List Int)
  | 0,_,_,_,_,_,_,_=>none
  | k + 1,x1,x2,x6,x13,x14,x15,x551000=>if x15 < x14 then (if 0≤x15 then (if x15 < (x13.length:Int) then ((bits_Mul64.f x1 (rd x13 x15)).bind fun bt552=>(if x15 < (x2.length:Int) then (nat_Nat_row.l0 k x1 (x2.set (x15:Int).toNat (add64s (rd x2 x15) (add64s bt552.2 x6 0) 0)) (IntKind.u64.wrap ((IntKind.u64.wrap (bt552.1 + (add64c bt552.2 x6 0))) + (add64c (rd x2 x15) (add64s bt552.2 x6 0) 0))) x13 x14 (wrap64 (x15 + 1)) x551000) else (none))) else (none)) else (none)) else (if 0≤(x551000.length:Int) then (if (x551000.length:Int) < (x2.length:Int) then (some (x2.set ((x551000.length:Int):Int).toNat (IntKind.u64.wrap ((rd x2 (x551000.length:Int)) + x6)))) else (none)) else (none))
def nat_Nat_row.f (k:Nat) (l0_0:List Int) (a1:Int) (l2:List Int):Option (List Int):=nat_Nat_row.l0 k a1 l2 0 l0_0 (l0_0.length:Int) 0 l0_0
theorem nat_Nat_row.mono_l : ∀ k,(∀ y0 y1 y2 y3 y4 y5 y6,LeO (nat_Nat_row.l0 k y0 y1 y2 y3 y4 y5 y6) (nat_Nat_row.l0 (k + 1) y0 y1 y2 y3 y4 y5 y6))
  | 0=>fun _ _ _ _ _ _ _ r h=>by simp [nat_Nat_row.l0] at h
  | k + 1=>by
    have ih0:=nat_Nat_row.mono_l k
    · intro y0 y1 y2 y3 y4 y5 y6
      unfold nat_Nat_row.l0
      repeat' first
      | (with_reducible exact ih0 _ _ _ _ _ _ _)
      | (with_reducible exact LeO.refl _)
      | (with_reducible exact LeO.none _)
      | (with_reducible refine LeO.ite ?_ ?_)
      | (with_reducible refine LeO.bind ?_ (fun _=>?_))
      | exact ih0 _ _ _ _ _ _ _
      | exact LeO.none _
      | refine LeO.ite ?_ ?_
      | refine LeO.bind ?_ (fun _=>?_)
theorem nat_Nat_row.mono : ∀ a0 a1 a2 k,LeO (nat_Nat_row.f k a0 a1 a2) (nat_Nat_row.f (k + 1) a0 a1 a2):=by
  intro a0 a1 a2 k
  have ih0:=nat_Nat_row.mono_l k
  unfold nat_Nat_row.f
  repeat' first
      | (with_reducible exact ih0 _ _ _ _ _ _ _)
      | (with_reducible exact LeO.refl _)
      | (with_reducible exact LeO.none _)
      | (with_reducible refine LeO.ite ?_ ?_)
      | (with_reducible refine LeO.bind ?_ (fun _=>?_))
      | exact ih0 _ _ _ _ _ _ _
      | exact LeO.none _
      | refine LeO.ite ?_ ?_
      | refine LeO.bind ?_ (fun _=>?_)
def nat_Nat_rowW.f (k:Nat) (l0_0:List Int) (a1:Int) (l2:List Int) (lo_ hi_:Int):Option (List Int):=if 0≤lo_∧lo_ < hi_∧hi_≤(l2.length:Int) then (nat_Nat_row.f k l0_0 a1 ((l2.take hi_.toNat).drop lo_.toNat)).map (fun r_=>l2.take lo_.toNat ++ r_ ++ l2.drop hi_.toNat) else none
theorem nat_Nat_rowW.mono : ∀ a0 a1 a2 a3 a4 k,LeO (nat_Nat_rowW.f k a0 a1 a2 a3 a4) (nat_Nat_rowW.f (k + 1) a0 a1 a2 a3 a4):=by
  intro a0 a1 a2 a3 a4 k
  unfold nat_Nat_rowW.f
  refine LeO.ite ?_ (LeO.none _)
  intro r hr
  obtain ⟨r',h1,h2⟩:=Option.map_eq_some_iff.mp hr
  exact Option.map_eq_some_iff.mpr ⟨r',nat_Nat_row.mono _ _ _  k r' h1,h2⟩
def nat_Nat_Mul.l0:Nat→List Int→List Int→Int→Int→List Int→Option (List Int)
  | 0,_,_,_,_,_=>none
  | k + 1,x5,x18,x19,x20,x559000=>if x20 < x19 then (if 0≤x20 then (if x20 < (x18.length:Int) then (if x20 < (x5.length:Int) then ((nat_Nat_rowW.f k x559000 (rd x18 x20) x5 x20 (x5.length:Int)).bind fun t565=>(nat_Nat_Mul.l0 k t565 x18 x19 (wrap64 (x20 + 1)) x559000)) else (none)) else (none)) else (none)) else ((nat_trimmed.f k x5).bind fun t566=>(some t566))
def nat_Nat_Mul.f (k:Nat) (l0_0:List Int) (l1_0:List Int):Option (List Int):=if 0≤(wrap64 ((wrap64 ((l0_0.length:Int) + (l1_0.length:Int))) + 1)) then (if (wrap64 ((wrap64 ((l0_0.length:Int) + (l1_0.length:Int))) + 1):Int).toNat≤35184372088832 then (nat_Nat_Mul.l0 k (List.replicate (wrap64 ((wrap64 ((l0_0.length:Int) + (l1_0.length:Int))) + 1):Int).toNat 0) l1_0 (l1_0.length:Int) 0 l0_0) else (none)) else (none)
theorem nat_Nat_Mul.mono_l : ∀ k,(∀ y0 y1 y2 y3 y4,LeO (nat_Nat_Mul.l0 k y0 y1 y2 y3 y4) (nat_Nat_Mul.l0 (k + 1) y0 y1 y2 y3 y4))
  | 0=>fun _ _ _ _ _ r h=>by simp [nat_Nat_Mul.l0] at h
  | k + 1=>by
    have ih0:=nat_Nat_Mul.mono_l k
    · intro y0 y1 y2 y3 y4
      unfold nat_Nat_Mul.l0
      repeat' first
      | (with_reducible exact ih0 _ _ _ _ _)
      | (with_reducible exact nat_Nat_rowW.mono _ _ _ _ _ _)
      | (with_reducible exact nat_trimmed.mono _ _)
      | (with_reducible exact LeO.refl _)
      | (with_reducible exact LeO.none _)
      | (with_reducible refine LeO.ite ?_ ?_)
      | (with_reducible refine LeO.bind ?_ (fun _=>?_))
      | exact ih0 _ _ _ _ _
      | exact nat_Nat_rowW.mono _ _ _ _ _ _
      | exact nat_trimmed.mono _ _
      | exact LeO.none _
      | refine LeO.ite ?_ ?_
      | refine LeO.bind ?_ (fun _=>?_)
theorem nat_Nat_Mul.mono : ∀ a0 a1 k,LeO (nat_Nat_Mul.f k a0 a1) (nat_Nat_Mul.f (k + 1) a0 a1):=by
  intro a0 a1 k
  have ih0:=nat_Nat_Mul.mono_l k
  unfold nat_Nat_Mul.f
  repeat' first
      | (with_reducible exact ih0 _ _ _ _ _)
      | (with_reducible exact nat_Nat_rowW.mono _ _ _ _ _ _)
      | (with_reducible exact nat_trimmed.mono _ _)
      | (with_reducible exact LeO.refl _)
      | (with_reducible exact LeO.none _)
      | (with_reducible refine LeO.ite ?_ ?_)
      | (with_reducible refine LeO.bind ?_ (fun _=>?_))
      | exact ih0 _ _ _ _ _
      | exact nat_Nat_rowW.mono _ _ _ _ _ _
      | exact nat_trimmed.mono _ _
      | exact LeO.none _
      | refine LeO.ite ?_ ?_
      | refine LeO.bind ?_ (fun _=>?_)
def whole_Int_Mul.f (k:Nat) (l0_0:List Int) (a0_1:Bool) (l1_0:List Int) (a1_1:Bool):Option (List Int×Bool):=(nat_Nat_Mul.f k l0_0 l1_0).bind fun t572=>((whole_Of.f t572 (a0_1 != a1_1)).bind fun bt575=>(some (bt575.1,bt575.2)))
theorem whole_Int_Mul.mono : ∀ a0 a1 a2 a3 k,LeO (whole_Int_Mul.f k a0 a1 a2 a3) (whole_Int_Mul.f (k + 1) a0 a1 a2 a3):=by
  intro a0 a1 a2 a3 k
  unfold whole_Int_Mul.f
  repeat' first
      | (with_reducible exact nat_Nat_Mul.mono _ _ _)
      | (with_reducible exact LeO.refl _)
      | (with_reducible exact LeO.none _)
      | (with_reducible refine LeO.ite ?_ ?_)
      | (with_reducible refine LeO.bind ?_ (fun _=>?_))
      | exact nat_Nat_Mul.mono _ _ _
      | exact LeO.none _
      | refine LeO.ite ?_ ?_
      | refine LeO.bind ?_ (fun _=>?_)
def frac_Frac_den.f (k:Nat) (l0_0:List Int) (a0_1:Bool) (l0_2:List Int):Option (List Int×Bool):=(frac_Frac_Den.f k l0_0 a0_1 l0_2).bind fun t581=>((whole_Of.f t581 false).bind fun bt584=>(some (bt584.1,bt584.2)))
theorem frac_Frac_den.mono : ∀ a0 a1 a2 k,LeO (frac_Frac_den.f k a0 a1 a2) (frac_Frac_den.f (k + 1) a0 a1 a2):=by
  intro a0 a1 a2 k
  unfold frac_Frac_den.f
  repeat' first
      | (with_reducible exact frac_Frac_Den.mono _ _ _ _)
      | (with_reducible exact LeO.refl _)
      | (with_reducible exact LeO.none _)
      | (with_reducible refine LeO.ite ?_ ?_)
      | (with_reducible refine LeO.bind ?_ (fun _=>?_))
      | exact frac_Frac_Den.mono _ _ _ _
      | exact LeO.none _
      | refine LeO.ite ?_ ?_
      | refine LeO.bind ?_ (fun _=>?_)
def whole_Int_Add.f (k:Nat) (l0_0:List Int) (a0_1:Bool) (l1_0:List Int) (a1_1:Bool):Option (List Int×Bool):=if (a0_1 == a1_1)=true then ((nat_Nat_Add.f k l0_0 l1_0).bind fun t591=>((whole_Of.f t591 a0_1).bind fun bt594=>(some (bt594.1,bt594.2)))) else ((nat_Nat_Sub.f k l0_0 l1_0).bind fun bt598=>(if bt598.2=true then ((whole_Of.f bt598.1 a0_1).bind fun bt603=>(some (bt603.1,bt603.2))) else ((nat_Nat_Sub.f k l1_0 l0_0).bind fun bt607=>((whole_Of.f bt607.1 a1_1).bind fun bt612=>(some (bt612.1,bt612.2))))))
theorem whole_Int_Add.mono : ∀ a0 a1 a2 a3 k,LeO (whole_Int_Add.f k a0 a1 a2 a3) (whole_Int_Add.f (k + 1) a0 a1 a2 a3):=by
  intro a0 a1 a2 a3 k
  unfold whole_Int_Add.f
  repeat' first
      | (with_reducible exact nat_Nat_Add.mono _ _ _)
      | (with_reducible exact nat_Nat_Sub.mono _ _ _)
      | (with_reducible exact LeO.refl _)
      | (with_reducible exact LeO.none _)
      | (with_reducible refine LeO.ite ?_ ?_)
      | (with_reducible refine LeO.bind ?_ (fun _=>?_))
      | exact nat_Nat_Add.mono _ _ _
      | exact nat_Nat_Sub.mono _ _ _
      | exact LeO.none _
      | refine LeO.ite ?_ ?_
      | refine LeO.bind ?_ (fun _=>?_)
def frac_Frac_Add.f (k:Nat) (l0_0:List Int) (a0_1:Bool) (l0_2:List Int) (l1_0:List Int) (a1_1:Bool) (l1_2:List Int):Option (List Int×Bool×List Int):=(frac_Frac_den.f k l1_0 a1_1 l1_2).bind fun bt619=>((whole_Int_Mul.f k l0_0 a0_1 bt619.1 bt619.2).bind fun bt623=>((frac_Frac_den.f k l0_0 a0_1 l0_2).bind fun bt627=>((whole_Int_Mul.f k l1_0 a1_1 bt627.1 bt627.2).bind fun bt631=>((whole_Int_Add.f k bt623.1 bt623.2 bt631.1 bt631.2).bind fun bt635=>((frac_Frac_Den.f k l0_0 a0_1 l0_2).bind fun t639=>((frac_Frac_Den.f k l1_0 a1_1 l1_2).bind fun t642=>((nat_Nat_Mul.f k t639 t642).bind fun t645=>((frac_made.f k bt635.1 bt635.2 t645).bind fun bt648=>(some (bt648.1,bt648.2.1,bt648.2.2))))))))))
theorem frac_Frac_Add.mono : ∀ a0 a1 a2 a3 a4 a5 k,LeO (frac_Frac_Add.f k a0 a1 a2 a3 a4 a5) (frac_Frac_Add.f (k + 1) a0 a1 a2 a3 a4 a5):=by
  intro a0 a1 a2 a3 a4 a5 k
  unfold frac_Frac_Add.f
  repeat' first
      | (with_reducible exact frac_Frac_Den.mono _ _ _ _)
      | (with_reducible exact frac_Frac_den.mono _ _ _ _)
      | (with_reducible exact frac_made.mono _ _ _ _)
      | (with_reducible exact nat_Nat_Mul.mono _ _ _)
      | (with_reducible exact whole_Int_Add.mono _ _ _ _ _)
      | (with_reducible exact whole_Int_Mul.mono _ _ _ _ _)
      | (with_reducible exact LeO.refl _)
      | (with_reducible exact LeO.none _)
      | (with_reducible refine LeO.ite ?_ ?_)
      | (with_reducible refine LeO.bind ?_ (fun _=>?_))
      | exact frac_Frac_Den.mono _ _ _ _
      | exact frac_Frac_den.mono _ _ _ _
      | exact frac_made.mono _ _ _ _
      | exact nat_Nat_Mul.mono _ _ _
      | exact whole_Int_Add.mono _ _ _ _ _
      | exact whole_Int_Mul.mono _ _ _ _ _
      | exact LeO.none _
      | refine LeO.ite ?_ ?_
      | refine LeO.bind ?_ (fun _=>?_)
def count_actual.f (k:Nat) (a0_0:Int) (a0_1:Int) (a0_2:Int) (a1_0:Int) (a1_1:Int) (a1_2:Int):Option (List Int×Bool×List Int):=if a0_0=a1_0 then ((count_days.f k a0_0 a0_1 a0_2 a1_0 a1_1 a1_2).bind fun t658=>((count_year.f a0_0).bind fun t659=>((count_part.f k t658 t659).bind fun bt660=>(some (bt660.1,bt660.2.1,bt660.2.2))))) else ((count_days.f k a0_0 a0_1 a0_2 a0_0 12 31).bind fun t667=>((count_days.f k a1_0 1 1 a1_0 a1_1 a1_2).bind fun t668=>((count_year.f a0_0).bind fun t669=>((count_part.f k (wrap64 (t667 + 1)) t669).bind fun bt670=>((count_part.f k (wrap64 ((wrap64 (a1_0 - a0_0)) - 1)) 1).bind fun bt677=>((frac_Frac_Add.f k bt670.1 bt670.2.1 bt670.2.2 bt677.1 bt677.2.1 bt677.2.2).bind fun bt684=>((count_year.f a1_0).bind fun t691=>((count_part.f k t668 t691).bind fun bt692=>((frac_Frac_Add.f k bt684.1 bt684.2.1 bt684.2.2 bt692.1 bt692.2.1 bt692.2.2).bind fun bt699=>(some (bt699.1,bt699.2.1,bt699.2.2)))))))))))
theorem count_actual.mono : ∀ a0 a1 a2 a3 a4 a5 k,LeO (count_actual.f k a0 a1 a2 a3 a4 a5) (count_actual.f (k + 1) a0 a1 a2 a3 a4 a5):=by
  intro a0 a1 a2 a3 a4 a5 k
  unfold count_actual.f
  repeat' first
      | (with_reducible exact count_days.mono _ _ _ _ _ _ _)
      | (with_reducible exact count_part.mono _ _ _)
      | (with_reducible exact frac_Frac_Add.mono _ _ _ _ _ _ _)
      | (with_reducible exact LeO.refl _)
      | (with_reducible exact LeO.none _)
      | (with_reducible refine LeO.ite ?_ ?_)
      | (with_reducible refine LeO.bind ?_ (fun _=>?_))
      | exact count_days.mono _ _ _ _ _ _ _
      | exact count_part.mono _ _ _
      | exact frac_Frac_Add.mono _ _ _ _ _ _ _
      | exact LeO.none _
      | refine LeO.ite ?_ ?_
      | refine LeO.bind ?_ (fun _=>?_)
def count_Year.j0:Nat→Int→Bool→Int→Int→Int→Int→Int→Int→Option (List Int×Bool×List Int×Int)
  | 0,_,_,_,_,_,_,_,_=>none
  | k + 1,x0,x13,x707000,x707001,x707002,x708000,x708001,x708002=>if x13=true then (some (([]:List Int),false,([]:List Int),11)) else ((date_Cmp.f k x707000 x707001 x707002 x708000 x708001 x708002).bind fun t712=>(if t712 > 0 then (some (([]:List Int),false,([]:List Int),12)) else (if x0=0 then ((count_thirty.f k x707000 x707001 x707002 x708000 x708001 x708002).bind fun bt713=>(some (bt713.1,bt713.2.1,bt713.2.2,0))) else (if x0=1 then ((count_days.f k x707000 x707001 x707002 x708000 x708001 x708002).bind fun t720=>((count_part.f k t720 365).bind fun bt721=>(some (bt721.1,bt721.2.1,bt721.2.2,0)))) else ((count_actual.f k x707000 x707001 x707002 x708000 x708001 x708002).bind fun bt728=>(some (bt728.1,bt728.2.1,bt728.2.2,0)))))))
def count_Year.f (k:Nat) (a0:Int) (a1_0:Int) (a1_1:Int) (a1_2:Int) (a2_0:Int) (a2_1:Int) (a2_2:Int):Option (List Int×Bool×List Int×Int):=(count_Basis_good.f a0).bind fun t709=>(if t709=true then ((date_Check.f k a1_0 a1_1 a1_2).bind fun t710=>(if t710=0 then ((date_Check.f k a2_0 a2_1 a2_2).bind fun t711=>(count_Year.j0 k a0 (t711 != 0) a1_0 a1_1 a1_2 a2_0 a2_1 a2_2)) else (count_Year.j0 k a0 true a1_0 a1_1 a1_2 a2_0 a2_1 a2_2))) else (some (([]:List Int),false,([]:List Int),2)))
theorem count_Year.mono_l : ∀ k,(∀ y0 y1 y2 y3 y4 y5 y6 y7,LeO (count_Year.j0 k y0 y1 y2 y3 y4 y5 y6 y7) (count_Year.j0 (k + 1) y0 y1 y2 y3 y4 y5 y6 y7))
  | 0=>fun _ _ _ _ _ _ _ _ r h=>by simp [count_Year.j0] at h
  | k + 1=>by
    have ih0:=count_Year.mono_l k
    · intro y0 y1 y2 y3 y4 y5 y6 y7
      unfold count_Year.j0
      repeat' first
      | (with_reducible exact ih0 _ _ _ _ _ _ _ _)
      | (with_reducible exact count_actual.mono _ _ _ _ _ _ _)
      | (with_reducible exact count_days.mono _ _ _ _ _ _ _)
      | (with_reducible exact count_part.mono _ _ _)
      | (with_reducible exact count_thirty.mono _ _ _ _ _ _ _)
      | (with_reducible exact date_Check.mono _ _ _ _)
      | (with_reducible exact date_Cmp.mono _ _ _ _ _ _ _)
      | (with_reducible exact LeO.refl _)
      | (with_reducible exact LeO.none _)
      | (with_reducible refine LeO.ite ?_ ?_)
      | (with_reducible refine LeO.bind ?_ (fun _=>?_))
      | exact ih0 _ _ _ _ _ _ _ _
      | exact count_actual.mono _ _ _ _ _ _ _
      | exact count_days.mono _ _ _ _ _ _ _
      | exact count_part.mono _ _ _
      | exact count_thirty.mono _ _ _ _ _ _ _
      | exact date_Check.mono _ _ _ _
      | exact date_Cmp.mono _ _ _ _ _ _ _
      | exact LeO.none _
      | refine LeO.ite ?_ ?_
      | refine LeO.bind ?_ (fun _=>?_)
theorem count_Year.mono : ∀ a0 a1 a2 a3 a4 a5 a6 k,LeO (count_Year.f k a0 a1 a2 a3 a4 a5 a6) (count_Year.f (k + 1) a0 a1 a2 a3 a4 a5 a6):=by
  intro a0 a1 a2 a3 a4 a5 a6 k
  have ih0:=count_Year.mono_l k
  unfold count_Year.f
  repeat' first
      | (with_reducible exact ih0 _ _ _ _ _ _ _ _)
      | (with_reducible exact count_actual.mono _ _ _ _ _ _ _)
      | (with_reducible exact count_days.mono _ _ _ _ _ _ _)
      | (with_reducible exact count_part.mono _ _ _)
      | (with_reducible exact count_thirty.mono _ _ _ _ _ _ _)
      | (with_reducible exact date_Check.mono _ _ _ _)
      | (with_reducible exact date_Cmp.mono _ _ _ _ _ _ _)
      | (with_reducible exact LeO.refl _)
      | (with_reducible exact LeO.none _)
      | (with_reducible refine LeO.ite ?_ ?_)
      | (with_reducible refine LeO.bind ?_ (fun _=>?_))
      | exact ih0 _ _ _ _ _ _ _ _
      | exact count_actual.mono _ _ _ _ _ _ _
      | exact count_days.mono _ _ _ _ _ _ _
      | exact count_part.mono _ _ _
      | exact count_thirty.mono _ _ _ _ _ _ _
      | exact date_Check.mono _ _ _ _
      | exact date_Cmp.mono _ _ _ _ _ _ _
      | exact LeO.none _
      | refine LeO.ite ?_ ?_
      | refine LeO.bind ?_ (fun _=>?_)
def chattelref09_Right.f (k:Nat) (a0_0:Int) (a0_1:Int) (a0_2:Int):Option (Bool):=(chattelref09_Days.f k a0_0 a0_1).bind fun t736=>(if a0_2 ≥ 1 then (some (decide (a0_2≤t736))) else (some false))
def frac_Frac_Sign.f (l0_0:List Int) (a0_1:Bool) (l0_2:List Int):Option (Int):=(whole_Int_Sign.f l0_0 a0_1).bind fun t738=>(some t738)
def digits_small.l0:Nat→Int→Int→List Int→Option (List Int)
  | 0,_,_,_=>none
  | k + 1,n,m,acc=>if 0 < n∨(acc.length:Int) < m then (if acc.length < 20 then digits_small.l0 k (n / 10) m ((48 + n % 10) :: acc) else none) else some acc
def digits_small.f (a0 a1:Int):Option ByteArray:=if 0≤a0∧a0 < 18446744073709551616 then (digits_small.l0 21 a0 a1 []).map strOfNums else none
def digits_small.cells (acc:List Int):Array Value:=((List.replicate (20 - acc.length) (Value.int .u8 0)) ++ acc.map (Value.int .u8)).toArray
def digits_joined.go (l:List ByteArray) (n:Nat):List UInt8:=((l.drop n).reverse.map fun b=>b.data.toList).flatten
def digits_joined.f (l:List ByteArray):Option ByteArray:=if l.length < 4611686018427387904∧(digits_joined.go l 0).length≤140737488355328 then some ⟨(digits_joined.go l 0).toArray⟩ else none
theorem digits_joined.told {l:List ByteArray} {r:ByteArray} (h:digits_joined.f l=some r):l.length < 4611686018427387904∧(digits_joined.go l 0).length≤140737488355328∧r=⟨(digits_joined.go l 0).toArray⟩:=by
  unfold digits_joined.f at h
  split at h
  · next c=>exact ⟨c.1,c.2,(Option.some.inj h).symm⟩
  · cases h
theorem digits_joined.end_ (l:List ByteArray):digits_joined.go l l.length = []:=by simp [digits_joined.go]
theorem digits_joined.step (l:List ByteArray) (n:Nat) (h:n < l.length):digits_joined.go l n=digits_joined.go l (n + 1) ++ (rdOf ByteArray.empty l (n:Int)).data.toList:=by
  unfold digits_joined.go rdOf
  rw [List.drop_eq_getElem_cons h,List.reverse_cons,List.map_append,List.flatten_append,Int.toNat_natCast,List.getD_eq_getElem?_getD,List.getElem?_eq_getElem h]
  simp
theorem digits_joined.mono_len (l:List ByteArray) (n:Nat):(digits_joined.go l n).length≤(digits_joined.go l 0).length:=by
  induction n with
  | zero=>exact Nat.le_refl _
  | succ n ih =>
    rcases Nat.lt_or_ge n l.length with h|h
    · have:=digits_joined.step l n h
      rw [this,List.length_append] at ih
      omega
    · unfold digits_joined.go
      rw [List.drop_eq_nil_of_le (by omega)]
      simp
theorem digits_joined.fits {l:List ByteArray} {n:Nat} (h:n < l.length) (hb:(digits_joined.go l 0).length≤140737488355328):(digits_joined.go l (n + 1)).length + (rdOf ByteArray.empty l (n:Int)).size≤140737488355328:=by
  have h1:=digits_joined.mono_len l n
  rw [digits_joined.step l n h,List.length_append] at h1
  have h2:(rdOf ByteArray.empty l (n:Int)).data.toList.length=(rdOf ByteArray.empty l (n:Int)).size:=rfl
  omega
mutual
def digits_Print.l0:Nat→List ByteArray→List Int→Option (ByteArray)
  | 0,_,_=>none
  | k + 1,x3,x740000=>(nat_Nat_Zero.f x740000).bind fun t741=>(if t741=true then ((digits_joined.f x3).bind fun t742=>(some t742)) else ((nat_Of.f k (([1000000000000000000]:List Int))).bind fun t746=>((quot_Div.f k x740000 t746).bind fun bt749=>((nat_Nat_Limbs.f bt749.2.1).bind fun t758=>(digits_Print.l1 k x3 0 t758 (t758.length:Int) 0 bt749.1)))))
def digits_Print.l1:Nat→List ByteArray→Int→List Int→Int→Int→List Int→Option (ByteArray)
  | 0,_,_,_,_,_,_=>none
  | k + 1,x3,x7,x27,x28,x29,x757000=>if x29 < x28 then (if 0≤x29 then (if x29 < (x27.length:Int) then (digits_Print.l1 k x3 (rd x27 x29) x27 x28 (wrap64 (x29 + 1)) x757000) else (none)) else (none)) else ((nat_Nat_Zero.f x757000).bind fun t762=>(if t762=true then ((digits_small.f x7 1).bind fun t763=>(if x3.length < 8796093022208 then (digits_Print.l0 k (x3 ++ [t763]) x757000) else (none))) else ((digits_small.f x7 18).bind fun t767=>(if x3.length < 8796093022208 then (digits_Print.l0 k (x3 ++ [t767]) x757000) else (none)))))
end
def digits_Print.f (k:Nat) (l0_0:List Int):Option (ByteArray):=(nat_Nat_Zero.f l0_0).bind fun t740=>(if t740=true then (some (⟨#[48]⟩:ByteArray)) else (digits_Print.l0 k ([]:List ByteArray) l0_0))
theorem digits_Print.mono_l : ∀ k,(∀ y0 y1,LeO (digits_Print.l0 k y0 y1) (digits_Print.l0 (k + 1) y0 y1))∧(∀ y0 y1 y2 y3 y4 y5,LeO (digits_Print.l1 k y0 y1 y2 y3 y4 y5) (digits_Print.l1 (k + 1) y0 y1 y2 y3 y4 y5))
  | 0=>⟨fun _ _ r h=>by simp [digits_Print.l0] at h,fun _ _ _ _ _ _ r h=>by simp [digits_Print.l1] at h⟩
  | k + 1=>by
    obtain ⟨ih0,ih1⟩:=digits_Print.mono_l k
    refine ⟨?_,?_⟩
    · intro y0 y1
      unfold digits_Print.l0
      repeat' first
      | (with_reducible exact ih0 _ _)
      | (with_reducible exact ih1 _ _ _ _ _ _)
      | (with_reducible exact nat_Of.mono _ _)
      | (with_reducible exact quot_Div.mono _ _ _)
      | (with_reducible exact LeO.refl _)
      | (with_reducible exact LeO.none _)
      | (with_reducible refine LeO.ite ?_ ?_)
      | (with_reducible refine LeO.bind ?_ (fun _=>?_))
      | exact ih0 _ _
      | exact ih1 _ _ _ _ _ _
      | exact nat_Of.mono _ _
      | exact quot_Div.mono _ _ _
      | exact LeO.none _
      | refine LeO.ite ?_ ?_
      | refine LeO.bind ?_ (fun _=>?_)
    · intro y0 y1 y2 y3 y4 y5
      unfold digits_Print.l1
      repeat' first
      | (with_reducible exact ih0 _ _)
      | (with_reducible exact ih1 _ _ _ _ _ _)
      | (with_reducible exact nat_Of.mono _ _)
      | (with_reducible exact quot_Div.mono _ _ _)
      | (with_reducible exact LeO.refl _)
      | (with_reducible exact LeO.none _)
      | (with_reducible refine LeO.ite ?_ ?_)
      | (with_reducible refine LeO.bind ?_ (fun _=>?_))
      | exact ih0 _ _
      | exact ih1 _ _ _ _ _ _
      | exact nat_Of.mono _ _
      | exact quot_Div.mono _ _ _
      | exact LeO.none _
      | refine LeO.ite ?_ ?_
      | refine LeO.bind ?_ (fun _=>?_)
theorem digits_Print.mono : ∀ a0 k,LeO (digits_Print.f k a0) (digits_Print.f (k + 1) a0):=by
  intro a0 k
  obtain ⟨ih0,ih1⟩:=digits_Print.mono_l k
  unfold digits_Print.f
  repeat' first
      | (with_reducible exact ih0 _ _)
      | (with_reducible exact ih1 _ _ _ _ _ _)
      | (with_reducible exact nat_Of.mono _ _)
      | (with_reducible exact quot_Div.mono _ _ _)
      | (with_reducible exact LeO.refl _)
      | (with_reducible exact LeO.none _)
      | (with_reducible refine LeO.ite ?_ ?_)
      | (with_reducible refine LeO.bind ?_ (fun _=>?_))
      | exact ih0 _ _
      | exact ih1 _ _ _ _ _ _
      | exact nat_Of.mono _ _
      | exact quot_Div.mono _ _ _
      | exact LeO.none _
      | refine LeO.ite ?_ ?_
      | refine LeO.bind ?_ (fun _=>?_)
def whole_Int_Print.f (k:Nat) (l0_0:List Int) (a0_1:Bool):Option (ByteArray):=if a0_1=true then ((digits_Print.f k l0_0).bind fun t772=>(if 1 + t772.size≤9223372036854775807 then (some ((⟨#[45]⟩:ByteArray) ++ t772)) else (none))) else ((digits_Print.f k l0_0).bind fun t773=>(some t773))
theorem whole_Int_Print.mono : ∀ a0 a1 k,LeO (whole_Int_Print.f k a0 a1) (whole_Int_Print.f (k + 1) a0 a1):=by
  intro a0 a1 k
  unfold whole_Int_Print.f
  repeat' first
      | (with_reducible exact digits_Print.mono _ _)
      | (with_reducible exact LeO.refl _)
      | (with_reducible exact LeO.none _)
      | (with_reducible refine LeO.ite ?_ ?_)
      | (with_reducible refine LeO.bind ?_ (fun _=>?_))
      | exact digits_Print.mono _ _
      | exact LeO.none _
      | refine LeO.ite ?_ ?_
      | refine LeO.bind ?_ (fun _=>?_)
def frac_Frac_Print.f (k:Nat) (l0_0:List Int) (a0_1:Bool) (l0_2:List Int):Option (ByteArray):=(nat_Nat_Zero.f l0_2).bind fun t775=>(if t775=true then ((whole_Int_Print.f k l0_0 a0_1).bind fun t776=>(some t776)) else ((whole_Int_Print.f k l0_0 a0_1).bind fun t777=>(if t777.size + 1≤9223372036854775807 then ((frac_Frac_Den.f k l0_0 a0_1 l0_2).bind fun t778=>((digits_Print.f k t778).bind fun t781=>(if (t777 ++ (⟨#[47]⟩:ByteArray)).size + t781.size≤9223372036854775807 then (some ((t777 ++ (⟨#[47]⟩:ByteArray)) ++ t781)) else (none)))) else (none))))
theorem frac_Frac_Print.mono : ∀ a0 a1 a2 k,LeO (frac_Frac_Print.f k a0 a1 a2) (frac_Frac_Print.f (k + 1) a0 a1 a2):=by
  intro a0 a1 a2 k
  unfold frac_Frac_Print.f
  repeat' first
      | (with_reducible exact digits_Print.mono _ _)
      | (with_reducible exact frac_Frac_Den.mono _ _ _ _)
      | (with_reducible exact whole_Int_Print.mono _ _ _)
      | (with_reducible exact LeO.refl _)
      | (with_reducible exact LeO.none _)
      | (with_reducible refine LeO.ite ?_ ?_)
      | (with_reducible refine LeO.bind ?_ (fun _=>?_))
      | exact digits_Print.mono _ _
      | exact frac_Frac_Den.mono _ _ _ _
      | exact whole_Int_Print.mono _ _ _
      | exact LeO.none _
      | refine LeO.ite ?_ ?_
      | refine LeO.bind ?_ (fun _=>?_)
mutual
def chattelref01_Print.l0:Nat→List Int→ByteArray→Int→Option (ByteArray)
  | 0,_,_,_=>none
  | k + 1,x0,x3,x4=>if x4 < (x0.length:Int) then (if 0≤x4 then (chattelref01_Print.l1 k x0 x3 x4 (rd x0 x4) 0) else (none)) else (chattelref01_Print.l2 k x3 0)
def chattelref01_Print.l1:Nat→List Int→ByteArray→Int→Int→Int→Option (ByteArray)
  | 0,_,_,_,_,_=>none
  | k + 1,x0,x3,x4,x5,x6=>if x6 < 4 then ((some (([(wrap64 (48 + (Int.tmod x5 10))) % 256]:List Int):List Int)).bind fun y783=>(if (strOfNums y783).size + x3.size≤9223372036854775807 then (chattelref01_Print.l1 k x0 ((strOfNums y783) ++ x3) x4 (wrap64 (Int.tdiv x5 10)) (wrap64 (x6 + 1))) else (none))) else (chattelref01_Print.l0 k x0 x3 (wrap64 (x4 + 1)))
def chattelref01_Print.l2:Nat→ByteArray→Int→Option (ByteArray)
  | 0,_,_=>none
  | k + 1,x3,x7=>if 0≤x7 then (if x7 < (x3.size:Int) then (if (bt x3 x7)=48 then (chattelref01_Print.l2 k x3 (wrap64 (x7 + 1))) else (if x7≤(x3.size:Int) then (some (x3.extract (x7:Int).toNat x3.size)) else (none))) else (none)) else (none)
end
def chattelref01_Print.f (k:Nat) (l0:List Int):Option (ByteArray):=if (l0.length:Int)=0 then (some (⟨#[48]⟩:ByteArray)) else (chattelref01_Print.l0 k l0 (⟨#[]⟩:ByteArray) 0)
def chattelref04_Print.f (k:Nat) (l0_0:List Int) (a0_1:Bool):Option (ByteArray):=(chattelref01_Print.f k l0_0).bind fun t787=>(if a0_1=true then (if 1 + t787.size≤9223372036854775807 then (some ((⟨#[45]⟩:ByteArray) ++ t787)) else (none)) else (some t787))
def chattelref05_Print.f (k:Nat) (l0_0:List Int) (a0_1:Bool) (l0_2:List Int):Option (ByteArray):=(chattelref04_Print.f k l0_0 a0_1).bind fun t789=>(if (l0_2.length:Int)=1 then (if 0 < (l0_2.length:Int) then (if (rd l0_2 0)=1 then (some t789) else ((chattelref01_Print.f k l0_2).bind fun t791=>(if t789.size + 1≤9223372036854775807 then (if (t789 ++ (⟨#[47]⟩:ByteArray)).size + t791.size≤9223372036854775807 then (some ((t789 ++ (⟨#[47]⟩:ByteArray)) ++ t791)) else (none)) else (none)))) else (none)) else ((chattelref01_Print.f k l0_2).bind fun t792=>(if t789.size + 1≤9223372036854775807 then (if (t789 ++ (⟨#[47]⟩:ByteArray)).size + t792.size≤9223372036854775807 then (some ((t789 ++ (⟨#[47]⟩:ByteArray)) ++ t792)) else (none)) else (none))))
def chattelref01_Small.l0:Nat→Int→List Int→Option (List Int)
  | 0,_,_=>none
  | k + 1,x0,x3=>if x0 > 0 then (if x3.length < 17592186044416 then (chattelref01_Small.l0 k (wrap64 (Int.tdiv x0 10000)) (x3 ++ [Int.tmod x0 10000])) else (none)) else (some x3)
def chattelref01_Small.f (k:Nat) (a0:Int):Option (List Int):=chattelref01_Small.l0 k a0 ([]:List Int)
def chattelref04_Of.f (l0:List Int) (a1:Bool):Option (List Int×Bool):=if a1=true then (some (l0,decide ((l0.length:Int) > 0))) else (some (l0,false))
def chattelref04_From.f (k:Nat) (a0:Int):Option (List Int×Bool):=if a0 < 0 then ((chattelref01_Small.f k (wrap64 (-a0))).bind fun t798=>((chattelref04_Of.f t798 true).bind fun bt801=>(some (bt801.1,bt801.2)))) else ((chattelref01_Small.f k a0).bind fun t805=>((chattelref04_Of.f t805 false).bind fun bt808=>(some (bt808.1,bt808.2))))
def chattelref01_at.f (l0:List Int) (a1:Int):Option (Int):=if a1 ≥ (l0.length:Int) then (some 0) else (if 0≤a1 then (if a1 < (l0.length:Int) then (some (rd l0 a1)) else (none)) else (none))
def chattelref01_Trim.l0:Nat→List Int→Int→Option (List Int)
  | 0,_,_=>none
  | k + 1,x0,x3=>if x3 > 0 then (if 0≤(wrap64 (x3 - 1)) then (if (wrap64 (x3 - 1)) < (x0.length:Int) then (if (rd x0 (wrap64 (x3 - 1)))=0 then (chattelref01_Trim.l0 k x0 (wrap64 (x3 - 1))) else (if 0≤x3 then (if x3≤(x0.length:Int) then (some (x0.take (x3:Int).toNat)) else (none)) else (none))) else (none)) else (none)) else (if 0≤x3 then (if x3≤(x0.length:Int) then (some (x0.take (x3:Int).toNat)) else (none)) else (none))
def chattelref01_Trim.f (k:Nat) (l0:List Int):Option (List Int):=chattelref01_Trim.l0 k l0 (l0.length:Int)
mutual
def chattelref01_Mul.l0:Nat→List Int→List Int→List Int→Int→Option (List Int)
  | 0,_,_,_,_=>none
  | k + 1,x0,x1,x5,x6=>if x6 < (x0.length:Int) then (chattelref01_Mul.l1 k x0 x1 x5 x6 0 0) else ((chattelref01_Trim.f k x5).bind fun t827=>(some t827))
def chattelref01_Mul.l1:Nat→List Int→List Int→List Int→Int→Int→Int→Option (List Int)
  | 0,_,_,_,_,_,_=>none
  | k + 1,x0,x1,x5,x6,x7,x8=>if x8 < (x1.length:Int) then ((chattelref01_at.f x1 x8).bind fun t830=>(if 0≤(wrap64 (x6 + x8)) then (if (wrap64 (x6 + x8)) < (x5.length:Int) then (if 0≤x6 then (if x6 < (x0.length:Int) then (chattelref01_Mul.l1 k x0 x1 (x5.set ((wrap64 (x6 + x8)):Int).toNat (Int.tmod (wrap64 ((wrap64 ((rd x5 (wrap64 (x6 + x8))) + (wrap64 ((rd x0 x6) * t830)))) + x7)) 10000)) x6 (wrap64 (Int.tdiv (wrap64 ((wrap64 ((rd x5 (wrap64 (x6 + x8))) + (wrap64 ((rd x0 x6) * t830)))) + x7)) 10000)) (wrap64 (x8 + 1))) else (none)) else (none)) else (none)) else (none))) else (if x7 > 0 then ((chattelref01_at.f x1 x8).bind fun t834=>(if 0≤(wrap64 (x6 + x8)) then (if (wrap64 (x6 + x8)) < (x5.length:Int) then (if 0≤x6 then (if x6 < (x0.length:Int) then (chattelref01_Mul.l1 k x0 x1 (x5.set ((wrap64 (x6 + x8)):Int).toNat (Int.tmod (wrap64 ((wrap64 ((rd x5 (wrap64 (x6 + x8))) + (wrap64 ((rd x0 x6) * t834)))) + x7)) 10000)) x6 (wrap64 (Int.tdiv (wrap64 ((wrap64 ((rd x5 (wrap64 (x6 + x8))) + (wrap64 ((rd x0 x6) * t834)))) + x7)) 10000)) (wrap64 (x8 + 1))) else (none)) else (none)) else (none)) else (none))) else (chattelref01_Mul.l0 k x0 x1 x5 (wrap64 (x6 + 1))))
end
def chattelref01_Mul.f (k:Nat) (l0:List Int) (l1:List Int):Option (List Int):=if 0≤(wrap64 ((wrap64 ((l0.length:Int) + (l1.length:Int))) + 1)) then (if (wrap64 ((wrap64 ((l0.length:Int) + (l1.length:Int))) + 1):Int).toNat≤35184372088832 then (chattelref01_Mul.l0 k l0 l1 (List.replicate (wrap64 ((wrap64 ((l0.length:Int) + (l1.length:Int))) + 1):Int).toNat 0) 0) else (none)) else (none)
def chattelref01_Cmp.l0:Nat→List Int→List Int→Int→Option (Int)
  | 0,_,_,_=>none
  | k + 1,x0,x1,x5=>if x5 ≥ 0 then (if 0≤x5 then (if x5 < (x0.length:Int) then (if x5 < (x1.length:Int) then (if (rd x0 x5) < (rd x1 x5) then (some (-1)) else (if (rd x0 x5) > (rd x1 x5) then (some 1) else (chattelref01_Cmp.l0 k x0 x1 (wrap64 (x5 - 1))))) else (none)) else (none)) else (none)) else (some 0)
def chattelref01_Cmp.f (k:Nat) (l0:List Int) (l1:List Int):Option (Int):=if (l0.length:Int)=(l1.length:Int) then (chattelref01_Cmp.l0 k l0 l1 (wrap64 ((l0.length:Int) - 1))) else (if (l0.length:Int) < (l1.length:Int) then (some (-1)) else (some 1))
def chattelref01_Sub.l0:Nat→List Int→List Int→List Int→Int→Int→Option (List Int)
  | 0,_,_,_,_,_=>none
  | k + 1,x0,x1,x5,x6,x7=>if x7 < (x0.length:Int) then ((chattelref01_at.f x1 x7).bind fun t842=>(if 0≤x7 then (if (wrap64 ((wrap64 ((rd x0 x7) - t842)) - x6)) < 0 then (if x5.length < 17592186044416 then (chattelref01_Sub.l0 k x0 x1 (x5 ++ [wrap64 ((wrap64 ((wrap64 ((rd x0 x7) - t842)) - x6)) + 10000)]) 1 (wrap64 (x7 + 1))) else (none)) else (if x5.length < 17592186044416 then (chattelref01_Sub.l0 k x0 x1 (x5 ++ [wrap64 ((wrap64 ((rd x0 x7) - t842)) - x6)]) 0 (wrap64 (x7 + 1))) else (none))) else (none))) else ((chattelref01_Trim.f k x5).bind fun t850=>(some t850))
def chattelref01_Sub.f (k:Nat) (l0:List Int) (l1:List Int):Option (List Int):=chattelref01_Sub.l0 k l0 l1 ([]:List Int) 0 0
mutual
def chattelref01_DivMod.l0:Nat→List Int→List Int→List Int→List Int→Int→Option (List Int×List Int)
  | 0,_,_,_,_,_=>none
  | k + 1,x0,x1,x6,x7,x8=>if x8 ≥ 0 then (if 0≤x8 then (if x8 < (x0.length:Int) then ((some (([rd x0 x8]:List Int):List Int)).bind fun y860=>(if y860.length + x7.length < 17592186044416 then ((chattelref01_Trim.f k (y860 ++ x7)).bind fun t866=>(chattelref01_DivMod.l1 k x0 x1 x6 t866 x8 0 9999)) else (none))) else (none)) else (none)) else ((chattelref01_Trim.f k x6).bind fun t856=>(some (t856,x7)))
def chattelref01_DivMod.l1:Nat→List Int→List Int→List Int→List Int→Int→Int→Int→Option (List Int×List Int)
  | 0,_,_,_,_,_,_,_=>none
  | k + 1,x0,x1,x6,x7,x8,x10,x11=>if x10 < x11 then ((chattelref01_Small.f k (wrap64 (Int.tdiv (wrap64 ((wrap64 (x10 + x11)) + 1)) 2))).bind fun t879=>((chattelref01_Mul.f k x1 t879).bind fun t882=>((chattelref01_Cmp.f k t882 x7).bind fun t885=>(if t885≤0 then (chattelref01_DivMod.l1 k x0 x1 x6 x7 x8 (wrap64 (Int.tdiv (wrap64 ((wrap64 (x10 + x11)) + 1)) 2)) x11) else (chattelref01_DivMod.l1 k x0 x1 x6 x7 x8 x10 (wrap64 ((wrap64 (Int.tdiv (wrap64 ((wrap64 (x10 + x11)) + 1)) 2)) - 1))))))) else (if 0≤x8 then (if x8 < (x6.length:Int) then ((chattelref01_Small.f k x10).bind fun t870=>((chattelref01_Mul.f k x1 t870).bind fun t873=>((chattelref01_Sub.f k x7 t873).bind fun t876=>(chattelref01_DivMod.l0 k x0 x1 (x6.set (x8:Int).toNat x10) t876 (wrap64 (x8 - 1)))))) else (none)) else (none))
end
def chattelref01_DivMod.f (k:Nat) (l0:List Int) (l1:List Int):Option (List Int×List Int):=if 0≤(l0.length:Int) then (if ((l0.length:Int):Int).toNat≤35184372088832 then (chattelref01_DivMod.l0 k l0 l1 (List.replicate ((l0.length:Int):Int).toNat 0) ([]:List Int) (wrap64 ((l0.length:Int) - 1))) else (none)) else (none)
def chattelref02_Gcd.l0:Nat→List Int→List Int→Option (List Int)
  | 0,_,_=>none
  | k + 1,x0,x1=>if (x1.length:Int) > 0 then ((chattelref01_DivMod.f k x0 x1).bind fun bt886=>(chattelref02_Gcd.l0 k x1 bt886.2)) else (some x0)
def chattelref02_Gcd.f (k:Nat) (l0:List Int) (l1:List Int):Option (List Int):=chattelref02_Gcd.l0 k l0 l1
def chattelref05_Make.f (k:Nat) (l0_0:List Int) (a0_1:Bool) (l1:List Int):Option (List Int×Bool×List Int):=(chattelref02_Gcd.f k l0_0 l1).bind fun t894=>((chattelref01_DivMod.f k l0_0 t894).bind fun bt897=>((chattelref01_DivMod.f k l1 t894).bind fun bt903=>((chattelref04_Of.f bt897.1 a0_1).bind fun bt909=>(some (bt909.1,bt909.2,bt903.1)))))
def chattelref04_Neg.f (l0_0:List Int) (a0_1:Bool):Option (List Int×Bool):=(chattelref04_Of.f l0_0 (!a0_1)).bind fun bt916=>(some (bt916.1,bt916.2))
def chattelref05_Of.f (k:Nat) (l0_0:List Int) (a0_1:Bool) (l1_0:List Int) (a1_1:Bool):Option (List Int×Bool×List Int):=if a1_1=true then ((chattelref04_Neg.f l0_0 a0_1).bind fun bt923=>((chattelref05_Make.f k bt923.1 bt923.2 l1_0).bind fun bt927=>(some (bt927.1,bt927.2.1,bt927.2.2)))) else ((chattelref05_Make.f k l0_0 a0_1 l1_0).bind fun bt934=>(some (bt934.1,bt934.2.1,bt934.2.2)))
def chattelref05_Small.f (k:Nat) (a0:Int) (a1:Int):Option (List Int×Bool×List Int):=(chattelref04_From.f k a0).bind fun bt942=>((chattelref04_From.f k a1).bind fun bt947=>((chattelref05_Of.f k bt942.1 bt942.2 bt947.1 bt947.2).bind fun bt952=>(some (bt952.1,bt952.2.1,bt952.2.2))))
mutual
def chattelref09_Number.l0:Nat→Int→Int→Int→Int→Int→Option (Int)
  | 0,_,_,_,_,_=>none
  | k + 1,x3,x4,x960000,x960001,x960002=>if x4 < x960000 then ((chattelref09_Leap.f k x4).bind fun t960=>(if t960=true then (chattelref09_Number.l0 k (wrap64 ((wrap64 (x3 + 365)) + 1)) (wrap64 (x4 + 1)) x960000 x960001 x960002) else (chattelref09_Number.l0 k (wrap64 (x3 + 365)) (wrap64 (x4 + 1)) x960000 x960001 x960002))) else (chattelref09_Number.l1 k x3 1 x960000 x960001 x960002)
def chattelref09_Number.l1:Nat→Int→Int→Int→Int→Int→Option (Int)
  | 0,_,_,_,_,_=>none
  | k + 1,x3,x6,x960000,x960001,x960002=>if x6 < x960001 then ((chattelref09_Days.f k x960000 x6).bind fun t961=>(chattelref09_Number.l1 k (wrap64 (x3 + t961)) (wrap64 (x6 + 1)) x960000 x960001 x960002)) else (some (wrap64 (x3 + x960002)))
end
def chattelref09_Number.f (k:Nat) (a0_0:Int) (a0_1:Int) (a0_2:Int):Option (Int):=chattelref09_Number.l0 k 0 1 a0_0 a0_1 a0_2
def chattelref04_Mul.f (k:Nat) (l0_0:List Int) (a0_1:Bool) (l1_0:List Int) (a1_1:Bool):Option (List Int×Bool):=(chattelref01_Mul.f k l0_0 l1_0).bind fun t965=>((chattelref04_Of.f t965 (a0_1 != a1_1)).bind fun bt968=>(some (bt968.1,bt968.2)))
def chattelref05_cross.f (k:Nat) (l0_0:List Int) (a0_1:Bool) (l0_2:List Int) (l1_0:List Int) (a1_1:Bool) (l1_2:List Int):Option (List Int×Bool):=(chattelref04_Of.f l1_2 false).bind fun bt975=>((chattelref04_Mul.f k l0_0 a0_1 bt975.1 bt975.2).bind fun bt980=>(some (bt980.1,bt980.2)))
mutual
def chattelref01_Add.l0:Nat→List Int→List Int→List Int→Int→Int→Option (List Int)
  | 0,_,_,_,_,_=>none
  | k + 1,x0,x1,x5,x6,x7=>if x7 < (x0.length:Int) then (chattelref01_Add.j1 k x0 x1 x5 x6 x7 true) else (if x7 < (x1.length:Int) then (chattelref01_Add.j1 k x0 x1 x5 x6 x7 true) else (chattelref01_Add.j1 k x0 x1 x5 x6 x7 (decide (x6 > 0))))
def chattelref01_Add.j1:Nat→List Int→List Int→List Int→Int→Int→Bool→Option (List Int)
  | 0,_,_,_,_,_,_=>none
  | k + 1,x0,x1,x5,x6,x7,x24=>if x24=true then ((chattelref01_at.f x0 x7).bind fun t984=>((chattelref01_at.f x1 x7).bind fun t985=>(if x5.length < 17592186044416 then (chattelref01_Add.l0 k x0 x1 (x5 ++ [Int.tmod (wrap64 ((wrap64 (t984 + t985)) + x6)) 10000]) (wrap64 (Int.tdiv (wrap64 ((wrap64 (t984 + t985)) + x6)) 10000)) (wrap64 (x7 + 1))) else (none)))) else ((chattelref01_Trim.f k x5).bind fun t989=>(some t989))
end
def chattelref01_Add.f (k:Nat) (l0:List Int) (l1:List Int):Option (List Int):=chattelref01_Add.l0 k l0 l1 ([]:List Int) 0 0
def chattelref04_Add.f (k:Nat) (l0_0:List Int) (a0_1:Bool) (l1_0:List Int) (a1_1:Bool):Option (List Int×Bool):=if (a0_1 == a1_1)=true then ((chattelref01_Add.f k l0_0 l1_0).bind fun t995=>((chattelref04_Of.f t995 a0_1).bind fun bt998=>(some (bt998.1,bt998.2)))) else ((chattelref01_Cmp.f k l0_0 l1_0).bind fun t1002=>(if t1002 ≥ 0 then ((chattelref01_Sub.f k l0_0 l1_0).bind fun t1003=>((chattelref04_Of.f t1003 a0_1).bind fun bt1006=>(some (bt1006.1,bt1006.2)))) else ((chattelref01_Sub.f k l1_0 l0_0).bind fun t1010=>((chattelref04_Of.f t1010 a1_1).bind fun bt1013=>(some (bt1013.1,bt1013.2))))))
def chattelref05_Add.f (k:Nat) (l0_0:List Int) (a0_1:Bool) (l0_2:List Int) (l1_0:List Int) (a1_1:Bool) (l1_2:List Int):Option (List Int×Bool×List Int):=(chattelref05_cross.f k l0_0 a0_1 l0_2 l1_0 a1_1 l1_2).bind fun bt1020=>((chattelref05_cross.f k l1_0 a1_1 l1_2 l0_0 a0_1 l0_2).bind fun bt1025=>((chattelref04_Add.f k bt1020.1 bt1020.2 bt1025.1 bt1025.2).bind fun bt1030=>((chattelref01_Mul.f k l0_2 l1_2).bind fun t1035=>((chattelref05_Make.f k bt1030.1 bt1030.2 t1035).bind fun bt1038=>(some (bt1038.1,bt1038.2.1,bt1038.2.2))))))
def chattelref11_Year.l0:Nat→Int→Int→Int→Int→Int→Int→List Int→Bool→List Int→Option (List Int×Bool×List Int)
  | 0,_,_,_,_,_,_,_,_,_=>none
  | k + 1,x9,x10,x12,x1047000,x1047001,x1047002,x1107000,x1107001,x1107002=>if x12≤x1047000 then ((chattelref09_Number.f k x12 1 1).bind fun t1107=>((chattelref09_Leap.f k x12).bind fun t1108=>(if t1108=true then ((chattelref05_Small.f k (wrap64 ((mn (wrap64 (t1107 + 366)) x10) - (mx t1107 x9))) 366).bind fun bt1109=>((chattelref05_Add.f k x1107000 x1107001 x1107002 bt1109.1 bt1109.2.1 bt1109.2.2).bind fun bt1117=>(chattelref11_Year.l0 k x9 x10 (wrap64 (x12 + 1)) x1047000 x1047001 x1047002 bt1117.1 bt1117.2.1 bt1117.2.2))) else ((chattelref05_Small.f k (wrap64 ((mn (wrap64 (t1107 + 365)) x10) - (mx t1107 x9))) 365).bind fun bt1124=>((chattelref05_Add.f k x1107000 x1107001 x1107002 bt1124.1 bt1124.2.1 bt1124.2.2).bind fun bt1132=>(chattelref11_Year.l0 k x9 x10 (wrap64 (x12 + 1)) x1047000 x1047001 x1047002 bt1132.1 bt1132.2.1 bt1132.2.2)))))) else (some (x1107000,x1107001,x1107002))
def chattelref11_Year.f (k:Nat) (a0:Int) (a1_0:Int) (a1_1:Int) (a1_2:Int) (a2_0:Int) (a2_1:Int) (a2_2:Int):Option (List Int×Bool×List Int):=if a0=0 then (if a1_2=31 then (if a2_2=31 then (if 30=30 then ((chattelref05_Small.f k (wrap64 ((wrap64 ((wrap64 ((wrap64 (360 * (wrap64 (a2_0 - a1_0)))) + (wrap64 (30 * (wrap64 (a2_1 - a1_1)))))) + 30)) - 30)) 360).bind fun bt1048=>(some (bt1048.1,bt1048.2.1,bt1048.2.2))) else ((chattelref05_Small.f k (wrap64 ((wrap64 ((wrap64 ((wrap64 (360 * (wrap64 (a2_0 - a1_0)))) + (wrap64 (30 * (wrap64 (a2_1 - a1_1)))))) + a2_2)) - 30)) 360).bind fun bt1055=>(some (bt1055.1,bt1055.2.1,bt1055.2.2)))) else ((chattelref05_Small.f k (wrap64 ((wrap64 ((wrap64 ((wrap64 (360 * (wrap64 (a2_0 - a1_0)))) + (wrap64 (30 * (wrap64 (a2_1 - a1_1)))))) + a2_2)) - 30)) 360).bind fun bt1062=>(some (bt1062.1,bt1062.2.1,bt1062.2.2)))) else (if a2_2=31 then (if a1_2=30 then ((chattelref05_Small.f k (wrap64 ((wrap64 ((wrap64 ((wrap64 (360 * (wrap64 (a2_0 - a1_0)))) + (wrap64 (30 * (wrap64 (a2_1 - a1_1)))))) + 30)) - a1_2)) 360).bind fun bt1069=>(some (bt1069.1,bt1069.2.1,bt1069.2.2))) else ((chattelref05_Small.f k (wrap64 ((wrap64 ((wrap64 ((wrap64 (360 * (wrap64 (a2_0 - a1_0)))) + (wrap64 (30 * (wrap64 (a2_1 - a1_1)))))) + a2_2)) - a1_2)) 360).bind fun bt1076=>(some (bt1076.1,bt1076.2.1,bt1076.2.2)))) else ((chattelref05_Small.f k (wrap64 ((wrap64 ((wrap64 ((wrap64 (360 * (wrap64 (a2_0 - a1_0)))) + (wrap64 (30 * (wrap64 (a2_1 - a1_1)))))) + a2_2)) - a1_2)) 360).bind fun bt1083=>(some (bt1083.1,bt1083.2.1,bt1083.2.2))))) else ((chattelref09_Number.f k a1_0 a1_1 a1_2).bind fun t1090=>((chattelref09_Number.f k a2_0 a2_1 a2_2).bind fun t1091=>(if a0=1 then ((chattelref05_Small.f k (wrap64 (t1091 - t1090)) 365).bind fun bt1092=>(some (bt1092.1,bt1092.2.1,bt1092.2.2))) else ((chattelref05_Small.f k 0 1).bind fun bt1099=>(chattelref11_Year.l0 k t1090 t1091 a1_0 a2_0 a2_1 a2_2 bt1099.1 bt1099.2.1 bt1099.2.2)))))
def count_words.f:Option (List ByteArray):=some (([(⟨#[116,104,105,114,116,121]⟩:ByteArray),(⟨#[102,105,120,101,100]⟩:ByteArray),(⟨#[97,99,116,117,97,108]⟩:ByteArray)]:List ByteArray))
def count_Basis_Word.f (a0:Int):Option (ByteArray):=(count_Basis_good.f a0).bind fun t1142=>(if t1142=true then ((count_words.f).bind fun t1143=>(if 0≤a0 then (if a0 < (t1143.length:Int) then (some (rdOf ByteArray.empty t1143 a0)) else (none)) else (none))) else (some (⟨#[]⟩:ByteArray)))
def chattellaw11_wakes.f (k:Nat):Option (Bool):=(count_Year.f k 0 2024 1 31 2024 3 1).bind fun bt1149=>((count_Year.f k 1 2024 1 31 2024 3 1).bind fun bt1158=>((count_Year.f k 2 2024 1 31 2024 3 1).bind fun bt1167=>((count_Year.f k 1 2024 3 1 2024 1 31).bind fun bt1176=>((count_Year.f k 3 2024 1 31 2024 3 1).bind fun bt1185=>(if bt1149.2.2.2=0 then ((frac_Frac_Print.f k bt1149.1 bt1149.2.1 bt1149.2.2.1).bind fun t1194=>(if t1194.toList=([51,49,47,51,54,48]:List UInt8) then (if bt1158.2.2.2=0 then ((frac_Frac_Print.f k bt1158.1 bt1158.2.1 bt1158.2.2.1).bind fun t1195=>(if t1195.toList=([54,47,55,51]:List UInt8) then (if bt1167.2.2.2=0 then ((frac_Frac_Print.f k bt1167.1 bt1167.2.1 bt1167.2.2.1).bind fun t1196=>(if t1196.toList=([53,47,54,49]:List UInt8) then (if bt1176.2.2.2=12 then (if bt1185.2.2.2=2 then ((count_Basis_Word.f 2).bind fun t1197=>(some (t1197.toList == ([97,99,116,117,97,108]:List UInt8)))) else (some false)) else (some false)) else (some false))) else (some false)) else (some false))) else (some false)) else (some false))) else (some false))))))
theorem chattellaw11_wakes.mono : ∀ k,LeO (chattellaw11_wakes.f k) (chattellaw11_wakes.f (k + 1)):=by
  intro  k
  unfold chattellaw11_wakes.f
  repeat' first
      | (with_reducible exact count_Year.mono _ _ _ _ _ _ _ _)
      | (with_reducible exact frac_Frac_Print.mono _ _ _ _)
      | (with_reducible exact LeO.refl _)
      | (with_reducible exact LeO.none _)
      | (with_reducible refine LeO.ite ?_ ?_)
      | (with_reducible refine LeO.bind ?_ (fun _=>?_))
      | exact count_Year.mono _ _ _ _ _ _ _ _
      | exact frac_Frac_Print.mono _ _ _ _
      | exact LeO.none _
      | refine LeO.ite ?_ ?_
      | refine LeO.bind ?_ (fun _=>?_)
mutual
def chattellaw11_CountTells.l0:Nat→List Int→Int→Int→Int→Int→Int→Int→Int→Int→Int→Int→Int→Int→Int→Int→Option (Bool)
  | 0,_,_,_,_,_,_,_,_,_,_,_,_,_,_,_=>none
  | k + 1,x26,x27,x28,x1199000,x1199001,x1199002,x1200000,x1200001,x1200002,x1207000,x1207001,x1207002,x1208000,x1208001,x1208002=>if x28 < x27 then (if 0≤x28 then (if x28 < (x26.length:Int) then ((count_Year.f k (rd x26 x28) x1199000 x1199001 x1199002 x1200000 x1200001 x1200002).bind fun bt1213=>(if (rd x26 x28) < 0 then (chattellaw11_CountTells.j1 k (rd x26 x28) bt1213.2.2.2 0 x26 x27 x28 true x1199000 x1199001 x1199002 x1200000 x1200001 x1200002 x1207000 x1207001 x1207002 x1208000 x1208001 x1208002 bt1213.1 bt1213.2.1 bt1213.2.2.1) else (chattellaw11_CountTells.j1 k (rd x26 x28) bt1213.2.2.2 0 x26 x27 x28 (decide ((rd x26 x28) > 2)) x1199000 x1199001 x1199002 x1200000 x1200001 x1200002 x1207000 x1207001 x1207002 x1208000 x1208001 x1208002 bt1213.1 bt1213.2.1 bt1213.2.2.1))) else (none)) else (none)) else ((chattellaw11_wakes.f k).bind fun t1211=>(some t1211))
def chattellaw11_CountTells.j3:Nat→Int→Int→Int→List Int→Int→Int→Int→Int→Int→Int→Int→Int→Int→Int→Int→Int→Int→Int→List Int→Bool→List Int→Option (Bool)
  | 0,_,_,_,_,_,_,_,_,_,_,_,_,_,_,_,_,_,_,_,_,_=>none
  | k + 1,x10,x12,x13,x26,x27,x28,x1199000,x1199001,x1199002,x1200000,x1200001,x1200002,x1207000,x1207001,x1207002,x1208000,x1208001,x1208002,x1222000,x1222001,x1222002=>if x12=x13 then (if x12=0 then (chattellaw11_CountTells.j4 k x10 x12 x26 x27 x28 false x1199000 x1199001 x1199002 x1200000 x1200001 x1200002 x1207000 x1207001 x1207002 x1208000 x1208001 x1208002 x1222000 x1222001 x1222002) else ((frac_Frac_Sign.f x1222000 x1222001 x1222002).bind fun t1225=>(chattellaw11_CountTells.j4 k x10 x12 x26 x27 x28 (t1225 != 0) x1199000 x1199001 x1199002 x1200000 x1200001 x1200002 x1207000 x1207001 x1207002 x1208000 x1208001 x1208002 x1222000 x1222001 x1222002))) else (chattellaw11_CountTells.j4 k x10 x12 x26 x27 x28 true x1199000 x1199001 x1199002 x1200000 x1200001 x1200002 x1207000 x1207001 x1207002 x1208000 x1208001 x1208002 x1222000 x1222001 x1222002)
def chattellaw11_CountTells.j4:Nat→Int→Int→List Int→Int→Int→Bool→Int→Int→Int→Int→Int→Int→Int→Int→Int→Int→Int→Int→List Int→Bool→List Int→Option (Bool)
  | 0,_,_,_,_,_,_,_,_,_,_,_,_,_,_,_,_,_,_,_,_,_=>none
  | k + 1,x10,x12,x26,x27,x28,x71,x1199000,x1199001,x1199002,x1200000,x1200001,x1200002,x1207000,x1207001,x1207002,x1208000,x1208001,x1208002,x1222000,x1222001,x1222002=>if x71=true then (some false) else (if x12=0 then (if (wrap64 (x1200000 - x1199000)) < 40 then ((frac_Frac_Print.f k x1222000 x1222001 x1222002).bind fun t1226=>((chattelref11_Year.f k x10 x1199000 x1199001 x1199002 x1200000 x1200001 x1200002).bind fun bt1227=>((chattelref05_Print.f k bt1227.1 bt1227.2.1 bt1227.2.2).bind fun t1234=>(chattellaw11_CountTells.j5 k x10 x26 x27 x28 (t1226.toList != t1234.toList) x1199000 x1199001 x1199002 x1200000 x1200001 x1200002 x1207000 x1207001 x1207002 x1208000 x1208001 x1208002)))) else (chattellaw11_CountTells.j5 k x10 x26 x27 x28 false x1199000 x1199001 x1199002 x1200000 x1200001 x1200002 x1207000 x1207001 x1207002 x1208000 x1208001 x1208002)) else (chattellaw11_CountTells.j5 k x10 x26 x27 x28 false x1199000 x1199001 x1199002 x1200000 x1200001 x1200002 x1207000 x1207001 x1207002 x1208000 x1208001 x1208002))
def chattellaw11_CountTells.j5:Nat→Int→List Int→Int→Int→Bool→Int→Int→Int→Int→Int→Int→Int→Int→Int→Int→Int→Int→Option (Bool)
  | 0,_,_,_,_,_,_,_,_,_,_,_,_,_,_,_,_,_=>none
  | k + 1,x10,x26,x27,x28,x91,x1199000,x1199001,x1199002,x1200000,x1200001,x1200002,x1207000,x1207001,x1207002,x1208000,x1208001,x1208002=>if x91=true then (some false) else (if x10 < 0 then (chattellaw11_CountTells.j6 k x10 x26 x27 x28 true x1199000 x1199001 x1199002 x1200000 x1200001 x1200002 x1207000 x1207001 x1207002 x1208000 x1208001 x1208002) else (chattellaw11_CountTells.j6 k x10 x26 x27 x28 (decide (x10 > 2)) x1199000 x1199001 x1199002 x1200000 x1200001 x1200002 x1207000 x1207001 x1207002 x1208000 x1208001 x1208002))
def chattellaw11_CountTells.j6:Nat→Int→List Int→Int→Int→Bool→Int→Int→Int→Int→Int→Int→Int→Int→Int→Int→Int→Int→Option (Bool)
  | 0,_,_,_,_,_,_,_,_,_,_,_,_,_,_,_,_,_=>none
  | k + 1,x10,x26,x27,x28,x97,x1199000,x1199001,x1199002,x1200000,x1200001,x1200002,x1207000,x1207001,x1207002,x1208000,x1208001,x1208002=>if x97=true then (chattellaw11_CountTells.l0 k x26 x27 (wrap64 (x28 + 1)) x1199000 x1199001 x1199002 x1200000 x1200001 x1200002 x1207000 x1207001 x1207002 x1208000 x1208001 x1208002) else ((count_Year.f k x10 x1207000 x1207001 x1207002 x1208000 x1208001 x1208002).bind fun bt1235=>(if bt1235.2.2.2=0 then ((frac_Frac_Print.f k bt1235.1 bt1235.2.1 bt1235.2.2.1).bind fun t1244=>((chattelref11_Year.f k x10 x1207000 x1207001 x1207002 x1208000 x1208001 x1208002).bind fun bt1245=>((chattelref05_Print.f k bt1245.1 bt1245.2.1 bt1245.2.2).bind fun t1252=>(if t1244.toList=t1252.toList then (chattellaw11_CountTells.l0 k x26 x27 (wrap64 (x28 + 1)) x1199000 x1199001 x1199002 x1200000 x1200001 x1200002 x1207000 x1207001 x1207002 x1208000 x1208001 x1208002) else (some false))))) else (some false)))
def chattellaw11_CountTells.j1:Nat→Int→Int→Int→List Int→Int→Int→Bool→Int→Int→Int→Int→Int→Int→Int→Int→Int→Int→Int→Int→List Int→Bool→List Int→Option (Bool)
  | 0,_,_,_,_,_,_,_,_,_,_,_,_,_,_,_,_,_,_,_,_,_,_=>none
  | k + 1,x10,x12,x13,x26,x27,x28,x39,x1199000,x1199001,x1199002,x1200000,x1200001,x1200002,x1207000,x1207001,x1207002,x1208000,x1208001,x1208002,x1222000,x1222001,x1222002=>if x39=true then (chattellaw11_CountTells.j3 k x10 x12 2 x26 x27 x28 x1199000 x1199001 x1199002 x1200000 x1200001 x1200002 x1207000 x1207001 x1207002 x1208000 x1208001 x1208002 x1222000 x1222001 x1222002) else ((chattelref09_Right.f k x1199000 x1199001 x1199002).bind fun t1222=>(if t1222=true then ((chattelref09_Right.f k x1200000 x1200001 x1200002).bind fun t1223=>(chattellaw11_CountTells.j2 k x10 x12 x13 x26 x27 x28 (!t1223) x1199000 x1199001 x1199002 x1200000 x1200001 x1200002 x1207000 x1207001 x1207002 x1208000 x1208001 x1208002 x1222000 x1222001 x1222002)) else (chattellaw11_CountTells.j2 k x10 x12 x13 x26 x27 x28 true x1199000 x1199001 x1199002 x1200000 x1200001 x1200002 x1207000 x1207001 x1207002 x1208000 x1208001 x1208002 x1222000 x1222001 x1222002)))
def chattellaw11_CountTells.j2:Nat→Int→Int→Int→List Int→Int→Int→Bool→Int→Int→Int→Int→Int→Int→Int→Int→Int→Int→Int→Int→List Int→Bool→List Int→Option (Bool)
  | 0,_,_,_,_,_,_,_,_,_,_,_,_,_,_,_,_,_,_,_,_,_,_=>none
  | k + 1,x10,x12,x13,x26,x27,x28,x46,x1199000,x1199001,x1199002,x1200000,x1200001,x1200002,x1207000,x1207001,x1207002,x1208000,x1208001,x1208002,x1222000,x1222001,x1222002=>if x46=true then (chattellaw11_CountTells.j3 k x10 x12 11 x26 x27 x28 x1199000 x1199001 x1199002 x1200000 x1200001 x1200002 x1207000 x1207001 x1207002 x1208000 x1208001 x1208002 x1222000 x1222001 x1222002) else ((chattelref09_Cmp.f k x1199000 x1199001 x1199002 x1200000 x1200001 x1200002).bind fun t1224=>(if t1224 > 0 then (chattellaw11_CountTells.j3 k x10 x12 12 x26 x27 x28 x1199000 x1199001 x1199002 x1200000 x1200001 x1200002 x1207000 x1207001 x1207002 x1208000 x1208001 x1208002 x1222000 x1222001 x1222002) else (chattellaw11_CountTells.j3 k x10 x12 x13 x26 x27 x28 x1199000 x1199001 x1199002 x1200000 x1200001 x1200002 x1207000 x1207001 x1207002 x1208000 x1208001 x1208002 x1222000 x1222001 x1222002)))
end
def chattellaw11_CountTells.f (k:Nat) (a0_0:Int) (a0_1:Int) (a0_2:Int) (a1_0:Int) (a1_1:Int) (a1_2:Int) (a2:Int):Option (Bool):=(chattellaw11_near.f k a0_0 a0_1 a0_2 a1_0 a1_1 a1_2).bind fun bt1200=>((some (([a2,(mx 0 a2) % 3]:List Int):List Int)).bind fun y1208=>(chattellaw11_CountTells.l0 k y1208 (y1208.length:Int) 0 a0_0 a0_1 a0_2 a1_0 a1_1 a1_2 bt1200.1 bt1200.2.1 bt1200.2.2.1 bt1200.2.2.2.1 bt1200.2.2.2.2.1 bt1200.2.2.2.2.2))
def chattellaw11_CountTells.Pure:Prop:=∀ (a0_0:Int) (a0_1:Int) (a0_2:Int) (a1_0:Int) (a1_1:Int) (a1_2:Int) (a2:Int),(Lit.int .i64 a0_0).wf=true→(Lit.int .i64 a0_1).wf=true→(Lit.int .i64 a0_2).wf=true→(Lit.int .i64 a1_0).wf=true→(Lit.int .i64 a1_1).wf=true→(Lit.int .i64 a1_2).wf=true→(Lit.int .i64 a2).wf=true→∃ k,chattellaw11_CountTells.f k a0_0 a0_1 a0_2 a1_0 a1_1 a1_2 a2=some true
end Go.Proofs.YtlfdghofoobkmaaGreat.F
