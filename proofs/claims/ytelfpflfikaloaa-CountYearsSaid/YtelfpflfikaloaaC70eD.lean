import Derived.ArgAppend
import Derived.Below
import Derived.BigQuiet
import Derived.Deep.AppendLies
import Derived.Deep.CutBlock
import Derived.Deep.DeepCutAuto
import Derived.Deep.Draws
import Derived.Deep.LoopGhost
import Derived.Deep.OwnRows
import Derived.Deep.QuietTactic
import Derived.Deep.RegionHeld3
import Derived.KernelRfl
import Derived.Laws.BitsLemmas
import Derived.Laws.BytesArg
import Derived.Laws.IdiomCopy
import Derived.Laws.MakeOwn
import Derived.Laws.OwnMore
import Derived.Laws.Rows
import Derived.Laws.Slices
import Derived.Lib.AppendStr
import Derived.Lib.ConvBytes
import Derived.Maps.AppendAt
import Derived.OrdersHeld
import Derived.OwnWalk
import Derived.RowKit
import Derived.RowKit3
import Derived.Tactics
import Derived.Test.YtelfpflfikaloaaProg
import Derived.Test.YtelfpflfikaloaaC70eWApart
import Derived.Test.YtelfpflfikaloaaC70eWArr
import Derived.Test.YtelfpflfikaloaaC70eWN
import Derived.Test.YtelfpflfikaloaaC70eWWords
import Derived.Laws.StructEq
import Derived.Test.YtelfpflfikaloaaC70eWFoot
import Derived.Test.YtelfpflfikaloaaC70eWLast
import Derived.Test.YtelfpflfikaloaaC70eWKept
import Derived.Test.YtelfpflfikaloaaC70eWMore
import Derived.Test.YtelfpflfikaloaaC70eWRepsOne
import Derived.Test.YtelfpflfikaloaaC70eWShare
import Derived.Test.YtelfpflfikaloaaC70eX
import Derived.WalkKit
import Derived.WideLaws
namespace Go.Proofs.Ytelfpflfikaloaa.F
open Go.RowKit Go.Proofs.YtelfpflfikaloaaW.PrintWords Go.Proofs.YtelfpflfikaloaaW.PrintLast Go.Proofs.YtelfpflfikaloaaW.PrintMore Go.Proofs.YtelfpflfikaloaaX
set_option linter.unusedVariables false
set_option linter.unusedSimpArgs false
def count_words.f:Option (List ByteArray):=some (([(⟨#[116,104,105,114,116,121]⟩:ByteArray),(⟨#[102,105,120,101,100]⟩:ByteArray),(⟨#[97,99,116,117,97,108]⟩:ByteArray)]:List ByteArray))
def count_Basis_good.f (a0:Int):Option (Bool):=if a0 ≥ 0 then (some (decide (a0 < 3))) else (some false)
def count_Basis_Word.f (a0:Int):Option (ByteArray):=(count_Basis_good.f a0).bind fun t109=>(if t109=true then ((count_words.f).bind fun t110=>(if 0≤a0 then (if a0 < (t110.length:Int) then (some (rdOf ByteArray.empty t110 a0)) else (none)) else (none))) else (some (⟨#[]⟩:ByteArray)))
def date_good.f (a0:Int):Option (Bool):=if a0 ≥ 1 then (some (decide (a0≤9999))) else (some false)
def date_Leap.f (a0:Int):Option (Bool):=(date_good.f a0).bind fun t114=>(if t114=true then (if (Int.tmod a0 4)=0 then (if (Int.tmod a0 100)=0 then (some ((Int.tmod a0 400) == 0)) else (some true)) else (some ((Int.tmod a0 400) == 0))) else (some false))
def date_Days.j0:Nat→Int→Int→Bool→Option (Int)
  | 0,_,_,_=>none
  | k + 1,x0,x1,x15=>if x15=true then (some 0) else (if x1=2 then ((date_Leap.f x0).bind fun t116=>(if t116=true then (some 29) else (if 0≤(wrap64 (x1 - 1)) then (if (wrap64 (x1 - 1)) < 12 then (some (rd ([31,28,31,30,31,30,31,31,30,31,30,31]:List Int) (wrap64 (x1 - 1)))) else (none)) else (none)))) else (if 0≤(wrap64 (x1 - 1)) then (if (wrap64 (x1 - 1)) < 12 then (some (rd ([31,28,31,30,31,30,31,31,30,31,30,31]:List Int) (wrap64 (x1 - 1)))) else (none)) else (none)))
def date_Days.f (k:Nat) (a0:Int) (a1:Int):Option (Int):=(date_good.f a0).bind fun t115=>(if t115=true then (if a1 < 1 then (date_Days.j0 k a0 a1 true) else (date_Days.j0 k a0 a1 (decide (a1 > 12)))) else (date_Days.j0 k a0 a1 true))
theorem date_Days.mono_l : ∀ k,(∀ y0 y1 y2,LeO (date_Days.j0 k y0 y1 y2) (date_Days.j0 (k + 1) y0 y1 y2))
  | 0=>fun _ _ _ r h=>by simp [date_Days.j0] at h
  | k + 1=>by
    have ih0:=date_Days.mono_l k
    · intro y0 y1 y2
      unfold date_Days.j0
      repeat' first
      | (with_reducible exact ih0 _ _ _)
      | (with_reducible exact LeO.refl _)
      | (with_reducible exact LeO.none _)
      | (with_reducible refine LeO.ite ?_ ?_)
      | (with_reducible refine LeO.bind ?_ (fun _=>?_))
      | exact ih0 _ _ _
      | exact LeO.none _
      | refine LeO.ite ?_ ?_
      | refine LeO.bind ?_ (fun _=>?_)
theorem date_Days.mono : ∀ a0 a1 k,LeO (date_Days.f k a0 a1) (date_Days.f (k + 1) a0 a1):=by
  intro a0 a1 k
  have ih0:=date_Days.mono_l k
  unfold date_Days.f
  repeat' first
      | (with_reducible exact ih0 _ _ _)
      | (with_reducible exact LeO.refl _)
      | (with_reducible exact LeO.none _)
      | (with_reducible refine LeO.ite ?_ ?_)
      | (with_reducible refine LeO.bind ?_ (fun _=>?_))
      | exact ih0 _ _ _
      | exact LeO.none _
      | refine LeO.ite ?_ ?_
      | refine LeO.bind ?_ (fun _=>?_)
def date_Check.f (k:Nat) (a0_0:Int) (a0_1:Int) (a0_2:Int):Option (Int):=if a0_2 < 1 then (some 11) else ((date_Days.f k a0_0 a0_1).bind fun t118=>(if a0_2 > t118 then (some 11) else (some 0)))
theorem date_Check.mono : ∀ a0 a1 a2 k,LeO (date_Check.f k a0 a1 a2) (date_Check.f (k + 1) a0 a1 a2):=by
  intro a0 a1 a2 k
  unfold date_Check.f
  repeat' first
      | (with_reducible exact date_Days.mono _ _ _)
      | (with_reducible exact LeO.refl _)
      | (with_reducible exact LeO.none _)
      | (with_reducible refine LeO.ite ?_ ?_)
      | (with_reducible refine LeO.bind ?_ (fun _=>?_))
      | exact date_Days.mono _ _ _
      | exact LeO.none _
      | refine LeO.ite ?_ ?_
      | refine LeO.bind ?_ (fun _=>?_)
def cmp_Or_int.l0:Nat→Int→List Int→Int→Int→Option (Int)
  | 0,_,_,_,_=>none
  | k + 1,x3,x6,x7,x8=>if x8 < x7 then (if 0≤x8 then (if x8 < (x6.length:Int) then (if (rd x6 x8)=x3 then (cmp_Or_int.l0 k x3 x6 x7 (wrap64 (x8 + 1))) else (some (rd x6 x8))) else (none)) else (none)) else (some x3)
def cmp_Or_int.f (k:Nat) (l0:List Int):Option (Int):=cmp_Or_int.l0 k 0 l0 (l0.length:Int) 0
theorem cmp_Or_int.mono_l : ∀ k,(∀ y0 y1 y2 y3,LeO (cmp_Or_int.l0 k y0 y1 y2 y3) (cmp_Or_int.l0 (k + 1) y0 y1 y2 y3))
  | 0=>fun _ _ _ _ r h=>by simp [cmp_Or_int.l0] at h
  | k + 1=>by
    have ih0:=cmp_Or_int.mono_l k
    · intro y0 y1 y2 y3
      unfold cmp_Or_int.l0
      repeat' first
      | (with_reducible exact ih0 _ _ _ _)
      | (with_reducible exact LeO.refl _)
      | (with_reducible exact LeO.none _)
      | (with_reducible refine LeO.ite ?_ ?_)
      | (with_reducible refine LeO.bind ?_ (fun _=>?_))
      | exact ih0 _ _ _ _
      | exact LeO.none _
      | refine LeO.ite ?_ ?_
      | refine LeO.bind ?_ (fun _=>?_)
theorem cmp_Or_int.mono : ∀ a0 k,LeO (cmp_Or_int.f k a0) (cmp_Or_int.f (k + 1) a0):=by
  intro a0 k
  have ih0:=cmp_Or_int.mono_l k
  unfold cmp_Or_int.f
  repeat' first
      | (with_reducible exact ih0 _ _ _ _)
      | (with_reducible exact LeO.refl _)
      | (with_reducible exact LeO.none _)
      | (with_reducible refine LeO.ite ?_ ?_)
      | (with_reducible refine LeO.bind ?_ (fun _=>?_))
      | exact ih0 _ _ _ _
      | exact LeO.none _
      | refine LeO.ite ?_ ?_
      | refine LeO.bind ?_ (fun _=>?_)
def cmp_isNaN_int.f (a0:Int):Option (Bool):=some (a0 != a0)
def cmp_Compare_int.f (a0:Int) (a1:Int):Option (Int):=(cmp_isNaN_int.f a0).bind fun t120=>((cmp_isNaN_int.f a1).bind fun t121=>(if t120=true then (if t121=true then (some 0) else (some (-1))) else (if t121=true then (some 1) else (if a0 < a1 then (some (-1)) else (if a0 > a1 then (some 1) else (some 0))))))
def date_Cmp.f (k:Nat) (a0_0:Int) (a0_1:Int) (a0_2:Int) (a1_0:Int) (a1_1:Int) (a1_2:Int):Option (Int):=(cmp_Compare_int.f a0_0 a1_0).bind fun t124=>((cmp_Compare_int.f a0_1 a1_1).bind fun t125=>((cmp_Compare_int.f a0_2 a1_2).bind fun t126=>((cmp_Or_int.f k (([t124,t125,t126]:List Int))).bind fun t130=>(some t130))))
theorem date_Cmp.mono : ∀ a0 a1 a2 a3 a4 a5 k,LeO (date_Cmp.f k a0 a1 a2 a3 a4 a5) (date_Cmp.f (k + 1) a0 a1 a2 a3 a4 a5):=by
  intro a0 a1 a2 a3 a4 a5 k
  unfold date_Cmp.f
  repeat' first
      | (with_reducible exact cmp_Or_int.mono _ _)
      | (with_reducible exact LeO.refl _)
      | (with_reducible exact LeO.none _)
      | (with_reducible refine LeO.ite ?_ ?_)
      | (with_reducible refine LeO.bind ?_ (fun _=>?_))
      | exact cmp_Or_int.mono _ _
      | exact LeO.none _
      | refine LeO.ite ?_ ?_
      | refine LeO.bind ?_ (fun _=>?_)
def nat_Nat_Zero.f (l0_0:List Int):Option (Bool):=some ((l0_0.length:Int) == 0)
def whole_Int_Sign.f (l0_0:List Int) (a0_1:Bool):Option (Int):=(nat_Nat_Zero.f l0_0).bind fun t133=>(if t133=true then (some 0) else (if a0_1=true then (some (-1)) else (some 1)))
def nat_trimmed.l0:Nat→List Int→Int→Option (List Int)
  | 0,_,_=>none
  | k + 1,x0,x3=>if x3 > 0 then (if 0≤(wrap64 (x3 - 1)) then (if (wrap64 (x3 - 1)) < (x0.length:Int) then (if (rd x0 (wrap64 (x3 - 1)))=0 then (nat_trimmed.l0 k x0 (wrap64 (x3 - 1))) else (if 0≤x3 then (if x3≤(x0.length:Int) then (some (x0.take (x3:Int).toNat)) else (none)) else (none))) else (none)) else (none)) else (if 0≤x3 then (if x3≤(x0.length:Int) then (some (x0.take (x3:Int).toNat)) else (none)) else (none))
def nat_trimmed.f (k:Nat) (l0:List Int):Option (List Int):=nat_trimmed.l0 k l0 (l0.length:Int)
theorem nat_trimmed.mono_l : ∀ k,(∀ y0 y1,LeO (nat_trimmed.l0 k y0 y1) (nat_trimmed.l0 (k + 1) y0 y1))
  | 0=>fun _ _ r h=>by simp [nat_trimmed.l0] at h
  | k + 1=>by
    have ih0:=nat_trimmed.mono_l k
    · intro y0 y1
      unfold nat_trimmed.l0
      repeat' first
      | (with_reducible exact ih0 _ _)
      | (with_reducible exact LeO.refl _)
      | (with_reducible exact LeO.none _)
      | (with_reducible refine LeO.ite ?_ ?_)
      | (with_reducible refine LeO.bind ?_ (fun _=>?_))
      | exact ih0 _ _
      | exact LeO.none _
      | refine LeO.ite ?_ ?_
      | refine LeO.bind ?_ (fun _=>?_)
theorem nat_trimmed.mono : ∀ a0 k,LeO (nat_trimmed.f k a0) (nat_trimmed.f (k + 1) a0):=by
  intro a0 k
  have ih0:=nat_trimmed.mono_l k
  unfold nat_trimmed.f
  repeat' first
      | (with_reducible exact ih0 _ _)
      | (with_reducible exact LeO.refl _)
      | (with_reducible exact LeO.none _)
      | (with_reducible refine LeO.ite ?_ ?_)
      | (with_reducible refine LeO.bind ?_ (fun _=>?_))
      | exact ih0 _ _
      | exact LeO.none _
      | refine LeO.ite ?_ ?_
      | refine LeO.bind ?_ (fun _=>?_)
def slices_Clone_uint64_uint64.f (l0:List Int):Option (List Int):=(some (([]:List Int):List Int)).bind fun y146=>(if y146.length + l0.length < 17592186044416 then (some (y146 ++ l0)) else (none))
def nat_Of.f (k:Nat) (l0:List Int):Option (List Int):=(slices_Clone_uint64_uint64.f l0).bind fun t153=>((nat_trimmed.f k t153).bind fun t156=>(some t156))
theorem nat_Of.mono : ∀ a0 k,LeO (nat_Of.f k a0) (nat_Of.f (k + 1) a0):=by
  intro a0 k
  unfold nat_Of.f
  repeat' first
      | (with_reducible exact nat_trimmed.mono _ _)
      | (with_reducible exact LeO.refl _)
      | (with_reducible exact LeO.none _)
      | (with_reducible refine LeO.ite ?_ ?_)
      | (with_reducible refine LeO.bind ?_ (fun _=>?_))
      | exact nat_trimmed.mono _ _
      | exact LeO.none _
      | refine LeO.ite ?_ ?_
      | refine LeO.bind ?_ (fun _=>?_)
def nat_Nat_Limbs.f (l0_0:List Int):Option (List Int):=(slices_Clone_uint64_uint64.f l0_0).bind fun t160=>(some t160)
def cmp_isNaN_uint64.f (a0:Int):Option (Bool):=some (a0 != a0)
def cmp_Compare_uint64.f (a0:Int) (a1:Int):Option (Int):=(cmp_isNaN_uint64.f a0).bind fun t163=>((cmp_isNaN_uint64.f a1).bind fun t164=>(if t163=true then (if t164=true then (some 0) else (some (-1))) else (if t164=true then (some 1) else (if a0 < a1 then (some (-1)) else (if a0 > a1 then (some 1) else (some 0))))))
def nat_Nat_Cmp.l0:Nat→Int→List Int→List Int→Option (Int)
  | 0,_,_,_=>none
  | k + 1,x6,x166000,x167000=>if x6 ≥ 0 then (if 0≤x6 then (if x6 < (x166000.length:Int) then (if x6 < (x167000.length:Int) then ((cmp_Compare_uint64.f (rd x166000 x6) (rd x167000 x6)).bind fun t170=>(if t170=0 then (nat_Nat_Cmp.l0 k (wrap64 (x6 - 1)) x166000 x167000) else (some t170))) else (none)) else (none)) else (none)) else (some 0)
def nat_Nat_Cmp.f (k:Nat) (l0_0:List Int) (l1_0:List Int):Option (Int):=(cmp_Compare_int.f (l0_0.length:Int) (l1_0.length:Int)).bind fun t167=>(if t167=0 then (nat_Nat_Cmp.l0 k (wrap64 ((l0_0.length:Int) - 1)) l0_0 l1_0) else (some t167))
theorem nat_Nat_Cmp.mono_l : ∀ k,(∀ y0 y1 y2,LeO (nat_Nat_Cmp.l0 k y0 y1 y2) (nat_Nat_Cmp.l0 (k + 1) y0 y1 y2))
  | 0=>fun _ _ _ r h=>by simp [nat_Nat_Cmp.l0] at h
  | k + 1=>by
    have ih0:=nat_Nat_Cmp.mono_l k
    · intro y0 y1 y2
      unfold nat_Nat_Cmp.l0
      repeat' first
      | (with_reducible exact ih0 _ _ _)
      | (with_reducible exact LeO.refl _)
      | (with_reducible exact LeO.none _)
      | (with_reducible refine LeO.ite ?_ ?_)
      | (with_reducible refine LeO.bind ?_ (fun _=>?_))
      | exact ih0 _ _ _
      | exact LeO.none _
      | refine LeO.ite ?_ ?_
      | refine LeO.bind ?_ (fun _=>?_)
theorem nat_Nat_Cmp.mono : ∀ a0 a1 k,LeO (nat_Nat_Cmp.f k a0 a1) (nat_Nat_Cmp.f (k + 1) a0 a1):=by
  intro a0 a1 k
  have ih0:=nat_Nat_Cmp.mono_l k
  unfold nat_Nat_Cmp.f
  repeat' first
      | (with_reducible exact ih0 _ _ _)
      | (with_reducible exact LeO.refl _)
      | (with_reducible exact LeO.none _)
      | (with_reducible refine LeO.ite ?_ ?_)
      | (with_reducible refine LeO.bind ?_ (fun _=>?_))
      | exact ih0 _ _ _
      | exact LeO.none _
      | refine LeO.ite ?_ ?_
      | refine LeO.bind ?_ (fun _=>?_)
def bits_Len64.j0:Nat→Int→Int→Option (Int)
  | 0,_,_=>none
  | k + 1,x0,x2=>if x0 ≥ 65536 then (if (x0 / 65536) ≥ 256 then (if 0≤(((x0 / 65536) / 256) % 256) then (if (((x0 / 65536) / 256) % 256) < 256 then (some (wrap64 ((wrap64 ((wrap64 (x2 + 16)) + 8)) + (wrap64 (bt (⟨#[0,1,2,2,3,3,3,3,4,4,4,4,4,4,4,4,5,5,5,5,5,5,5,5,5,5,5,5,5,5,5,5,6,6,6,6,6,6,6,6,6,6,6,6,6,6,6,6,6,6,6,6,6,6,6,6,6,6,6,6,6,6,6,6,7,7,7,7,7,7,7,7,7,7,7,7,7,7,7,7,7,7,7,7,7,7,7,7,7,7,7,7,7,7,7,7,7,7,7,7,7,7,7,7,7,7,7,7,7,7,7,7,7,7,7,7,7,7,7,7,7,7,7,7,7,7,7,7,8,8,8,8,8,8,8,8,8,8,8,8,8,8,8,8,8,8,8,8,8,8,8,8,8,8,8,8,8,8,8,8,8,8,8,8,8,8,8,8,8,8,8,8,8,8,8,8,8,8,8,8,8,8,8,8,8,8,8,8,8,8,8,8,8,8,8,8,8,8,8,8,8,8,8,8,8,8,8,8,8,8,8,8,8,8,8,8,8,8,8,8,8,8,8,8,8,8,8,8,8,8,8,8,8,8,8,8,8,8,8,8,8,8,8,8,8,8,8,8,8,8,8,8,8,8,8,8]⟩:ByteArray) (((x0 / 65536) / 256) % 256)))))) else (none)) else (none)) else (if 0≤((x0 / 65536) % 256) then (if ((x0 / 65536) % 256) < 256 then (some (wrap64 ((wrap64 (x2 + 16)) + (wrap64 (bt (⟨#[0,1,2,2,3,3,3,3,4,4,4,4,4,4,4,4,5,5,5,5,5,5,5,5,5,5,5,5,5,5,5,5,6,6,6,6,6,6,6,6,6,6,6,6,6,6,6,6,6,6,6,6,6,6,6,6,6,6,6,6,6,6,6,6,7,7,7,7,7,7,7,7,7,7,7,7,7,7,7,7,7,7,7,7,7,7,7,7,7,7,7,7,7,7,7,7,7,7,7,7,7,7,7,7,7,7,7,7,7,7,7,7,7,7,7,7,7,7,7,7,7,7,7,7,7,7,7,7,8,8,8,8,8,8,8,8,8,8,8,8,8,8,8,8,8,8,8,8,8,8,8,8,8,8,8,8,8,8,8,8,8,8,8,8,8,8,8,8,8,8,8,8,8,8,8,8,8,8,8,8,8,8,8,8,8,8,8,8,8,8,8,8,8,8,8,8,8,8,8,8,8,8,8,8,8,8,8,8,8,8,8,8,8,8,8,8,8,8,8,8,8,8,8,8,8,8,8,8,8,8,8,8,8,8,8,8,8,8,8,8,8,8,8,8,8,8,8,8,8,8,8,8,8,8,8,8]⟩:ByteArray) ((x0 / 65536) % 256)))))) else (none)) else (none))) else (if x0 ≥ 256 then (if 0≤((x0 / 256) % 256) then (if ((x0 / 256) % 256) < 256 then (some (wrap64 ((wrap64 (x2 + 8)) + (wrap64 (bt (⟨#[0,1,2,2,3,3,3,3,4,4,4,4,4,4,4,4,5,5,5,5,5,5,5,5,5,5,5,5,5,5,5,5,6,6,6,6,6,6,6,6,6,6,6,6,6,6,6,6,6,6,6,6,6,6,6,6,6,6,6,6,6,6,6,6,7,7,7,7,7,7,7,7,7,7,7,7,7,7,7,7,7,7,7,7,7,7,7,7,7,7,7,7,7,7,7,7,7,7,7,7,7,7,7,7,7,7,7,7,7,7,7,7,7,7,7,7,7,7,7,7,7,7,7,7,7,7,7,7,8,8,8,8,8,8,8,8,8,8,8,8,8,8,8,8,8,8,8,8,8,8,8,8,8,8,8,8,8,8,8,8,8,8,8,8,8,8,8,8,8,8,8,8,8,8,8,8,8,8,8,8,8,8,8,8,8,8,8,8,8,8,8,8,8,8,8,8,8,8,8,8,8,8,8,8,8,8,8,8,8,8,8,8,8,8,8,8,8,8,8,8,8,8,8,8,8,8,8,8,8,8,8,8,8,8,8,8,8,8,8,8,8,8,8,8,8,8,8,8,8,8,8,8,8,8,8,8]⟩:ByteArray) ((x0 / 256) % 256)))))) else (none)) else (none)) else (if 0≤((x0) % 256) then (if ((x0) % 256) < 256 then (some (wrap64 (x2 + (wrap64 (bt (⟨#[0,1,2,2,3,3,3,3,4,4,4,4,4,4,4,4,5,5,5,5,5,5,5,5,5,5,5,5,5,5,5,5,6,6,6,6,6,6,6,6,6,6,6,6,6,6,6,6,6,6,6,6,6,6,6,6,6,6,6,6,6,6,6,6,7,7,7,7,7,7,7,7,7,7,7,7,7,7,7,7,7,7,7,7,7,7,7,7,7,7,7,7,7,7,7,7,7,7,7,7,7,7,7,7,7,7,7,7,7,7,7,7,7,7,7,7,7,7,7,7,7,7,7,7,7,7,7,7,8,8,8,8,8,8,8,8,8,8,8,8,8,8,8,8,8,8,8,8,8,8,8,8,8,8,8,8,8,8,8,8,8,8,8,8,8,8,8,8,8,8,8,8,8,8,8,8,8,8,8,8,8,8,8,8,8,8,8,8,8,8,8,8,8,8,8,8,8,8,8,8,8,8,8,8,8,8,8,8,8,8,8,8,8,8,8,8,8,8,8,8,8,8,8,8,8,8,8,8,8,8,8,8,8,8,8,8,8,8,8,8,8,8,8,8,8,8,8,8,8,8,8,8,8,8,8,8]⟩:ByteArray) ((x0) % 256)))))) else (none)) else (none)))
def bits_Len64.f (k:Nat) (a0:Int):Option (Int):=if a0 ≥ 4294967296 then (bits_Len64.j0 k (a0 / 4294967296) 32) else (bits_Len64.j0 k a0 0)
theorem bits_Len64.mono_l : ∀ k,(∀ y0 y1,LeO (bits_Len64.j0 k y0 y1) (bits_Len64.j0 (k + 1) y0 y1))
  | 0=>fun _ _ r h=>by simp [bits_Len64.j0] at h
  | k + 1=>by
    have ih0:=bits_Len64.mono_l k
    · intro y0 y1
      unfold bits_Len64.j0
      repeat' first
      | (with_reducible exact ih0 _ _)
      | (with_reducible exact LeO.refl _)
      | (with_reducible exact LeO.none _)
      | (with_reducible refine LeO.ite ?_ ?_)
      | (with_reducible refine LeO.bind ?_ (fun _=>?_))
      | exact ih0 _ _
      | exact LeO.none _
      | refine LeO.ite ?_ ?_
      | refine LeO.bind ?_ (fun _=>?_)
theorem bits_Len64.mono : ∀ a0 k,LeO (bits_Len64.f k a0) (bits_Len64.f (k + 1) a0):=by
  intro a0 k
  have ih0:=bits_Len64.mono_l k
  unfold bits_Len64.f
  repeat' first
      | (with_reducible exact ih0 _ _)
      | (with_reducible exact LeO.refl _)
      | (with_reducible exact LeO.none _)
      | (with_reducible refine LeO.ite ?_ ?_)
      | (with_reducible refine LeO.bind ?_ (fun _=>?_))
      | exact ih0 _ _
      | exact LeO.none _
      | refine LeO.ite ?_ ?_
      | refine LeO.bind ?_ (fun _=>?_)
def bits_LeadingZeros64.f (k:Nat) (a0:Int):Option (Int):=(bits_Len64.f k a0).bind fun t171=>(some (wrap64 (64 - t171)))
theorem bits_LeadingZeros64.mono : ∀ a0 k,LeO (bits_LeadingZeros64.f k a0) (bits_LeadingZeros64.f (k + 1) a0):=by
  intro a0 k
  unfold bits_LeadingZeros64.f
  repeat' first
      | (with_reducible exact bits_Len64.mono _ _)
      | (with_reducible exact LeO.refl _)
      | (with_reducible exact LeO.none _)
      | (with_reducible refine LeO.ite ?_ ?_)
      | (with_reducible refine LeO.bind ?_ (fun _=>?_))
      | exact bits_Len64.mono _ _
      | exact LeO.none _
      | refine LeO.ite ?_ ?_
      | refine LeO.bind ?_ (fun _=>?_)
mutual
def bits_Div64.j2:Nat→Int→Int→Int→Int→Int→Int→Int→Int→Option (Int×Int)
  | 0,_,_,_,_,_,_,_,_=>none
  | k + 1,x2,x8,x9,x10,x11,x13,x14,x15=>if x9=0 then (none) else (bits_Div64.l1 k x2 x8 x9 x10 x14 x15 (IntKind.u64.wrap ((IntKind.u64.wrap ((IntKind.u64.wrap ((IntKind.u64.wrap (x11 * 4294967296)) + x13)) - (IntKind.u64.wrap (x15 * x2)))) - (IntKind.u64.wrap ((IntKind.u64.wrap (Int.tdiv (IntKind.u64.wrap ((IntKind.u64.wrap ((IntKind.u64.wrap (x11 * 4294967296)) + x13)) - (IntKind.u64.wrap (x15 * x2)))) x9)) * x9)))) (IntKind.u64.wrap ((IntKind.u64.wrap ((IntKind.u64.wrap (x11 * 4294967296)) + x13)) - (IntKind.u64.wrap (x15 * x2)))) (IntKind.u64.wrap (Int.tdiv (IntKind.u64.wrap ((IntKind.u64.wrap ((IntKind.u64.wrap (x11 * 4294967296)) + x13)) - (IntKind.u64.wrap (x15 * x2)))) x9)))
def bits_Div64.l1:Nat→Int→Int→Int→Int→Int→Int→Int→Int→Int→Option (Int×Int)
  | 0,_,_,_,_,_,_,_,_,_=>none
  | k + 1,x2,x8,x9,x10,x14,x15,x16,x17,x18=>if x18 ≥ 4294967296 then (bits_Div64.j4 k x2 x8 x9 x10 x14 x15 x16 x17 x18 true) else (bits_Div64.j4 k x2 x8 x9 x10 x14 x15 x16 x17 x18 (decide ((IntKind.u64.wrap (x18 * x10)) > (IntKind.u64.wrap ((IntKind.u64.wrap (4294967296 * x16)) + x14)))))
def bits_Div64.j4:Nat→Int→Int→Int→Int→Int→Int→Int→Int→Int→Bool→Option (Int×Int)
  | 0,_,_,_,_,_,_,_,_,_,_=>none
  | k + 1,x2,x8,x9,x10,x14,x15,x16,x17,x18,x113=>if x113=true then (if (IntKind.u64.wrap (x16 + x9)) ≥ 4294967296 then (if 0≤x8 then (some (IntKind.u64.wrap ((IntKind.u64.wrap (x15 * 4294967296)) + (IntKind.u64.wrap (x18 - 1))),shr .u64 (IntKind.u64.wrap ((IntKind.u64.wrap ((IntKind.u64.wrap (x17 * 4294967296)) + x14)) - (IntKind.u64.wrap ((IntKind.u64.wrap (x18 - 1)) * x2)))) x8)) else (none)) else (bits_Div64.l1 k x2 x8 x9 x10 x14 x15 (IntKind.u64.wrap (x16 + x9)) x17 (IntKind.u64.wrap (x18 - 1)))) else (if 0≤x8 then (some (IntKind.u64.wrap ((IntKind.u64.wrap (x15 * 4294967296)) + x18),shr .u64 (IntKind.u64.wrap ((IntKind.u64.wrap ((IntKind.u64.wrap (x17 * 4294967296)) + x14)) - (IntKind.u64.wrap (x18 * x2)))) x8)) else (none))
def bits_Div64.l0:Nat→Int→Int→Int→Int→Int→Int→Int→Int→Int→Option (Int×Int)
  | 0,_,_,_,_,_,_,_,_,_=>none
  | k + 1,x2,x8,x9,x10,x11,x13,x14,x15,x16=>if x15 ≥ 4294967296 then (bits_Div64.j1 k x2 x8 x9 x10 x11 x13 x14 x15 x16 true) else (bits_Div64.j1 k x2 x8 x9 x10 x11 x13 x14 x15 x16 (decide ((IntKind.u64.wrap (x15 * x10)) > (IntKind.u64.wrap ((IntKind.u64.wrap (4294967296 * x16)) + x13)))))
def bits_Div64.j1:Nat→Int→Int→Int→Int→Int→Int→Int→Int→Int→Bool→Option (Int×Int)
  | 0,_,_,_,_,_,_,_,_,_,_=>none
  | k + 1,x2,x8,x9,x10,x11,x13,x14,x15,x16,x78=>if x78=true then (if (IntKind.u64.wrap (x16 + x9)) ≥ 4294967296 then (bits_Div64.j2 k x2 x8 x9 x10 x11 x13 x14 (IntKind.u64.wrap (x15 - 1))) else (bits_Div64.l0 k x2 x8 x9 x10 x11 x13 x14 (IntKind.u64.wrap (x15 - 1)) (IntKind.u64.wrap (x16 + x9)))) else (bits_Div64.j2 k x2 x8 x9 x10 x11 x13 x14 x15)
end
def bits_Div64.f (k:Nat) (a0:Int) (a1:Int) (a2:Int):Option (Int×Int):=if a2=0 then (none) else (if a2≤a0 then (none) else (if a0=0 then (some (IntKind.u64.wrap (Int.tdiv a1 a2),Int.tmod a1 a2)) else ((bits_LeadingZeros64.f k a2).bind fun t172=>(if 0≤(IntKind.u64.wrap (t172)) then (if 0≤(IntKind.u64.wrap (64 - (IntKind.u64.wrap (t172)))) then (if ((shl .u64 a2 (IntKind.u64.wrap (t172))) / 4294967296)=0 then (none) else (bits_Div64.l0 k (shl .u64 a2 (IntKind.u64.wrap (t172))) (IntKind.u64.wrap (t172)) ((shl .u64 a2 (IntKind.u64.wrap (t172))) / 4294967296) (Go.bits .and .u64 (shl .u64 a2 (IntKind.u64.wrap (t172))) 4294967295) (Go.bits .or .u64 (shl .u64 a0 (IntKind.u64.wrap (t172))) (shr .u64 a1 (IntKind.u64.wrap (64 - (IntKind.u64.wrap (t172)))))) ((shl .u64 a1 (IntKind.u64.wrap (t172))) / 4294967296) (Go.bits .and .u64 (shl .u64 a1 (IntKind.u64.wrap (t172))) 4294967295) (IntKind.u64.wrap (Int.tdiv (Go.bits .or .u64 (shl .u64 a0 (IntKind.u64.wrap (t172))) (shr .u64 a1 (IntKind.u64.wrap (64 - (IntKind.u64.wrap (t172)))))) ((shl .u64 a2 (IntKind.u64.wrap (t172))) / 4294967296))) (IntKind.u64.wrap ((Go.bits .or .u64 (shl .u64 a0 (IntKind.u64.wrap (t172))) (shr .u64 a1 (IntKind.u64.wrap (64 - (IntKind.u64.wrap (t172)))))) - (IntKind.u64.wrap ((IntKind.u64.wrap (Int.tdiv (Go.bits .or .u64 (shl .u64 a0 (IntKind.u64.wrap (t172))) (shr .u64 a1 (IntKind.u64.wrap (64 - (IntKind.u64.wrap (t172)))))) ((shl .u64 a2 (IntKind.u64.wrap (t172))) / 4294967296))) * ((shl .u64 a2 (IntKind.u64.wrap (t172))) / 4294967296))))))) else (none)) else (none)))))
theorem bits_Div64.mono_l : ∀ k,(∀ y0 y1 y2 y3 y4 y5 y6 y7,LeO (bits_Div64.j2 k y0 y1 y2 y3 y4 y5 y6 y7) (bits_Div64.j2 (k + 1) y0 y1 y2 y3 y4 y5 y6 y7))∧(∀ y0 y1 y2 y3 y4 y5 y6 y7 y8,LeO (bits_Div64.l1 k y0 y1 y2 y3 y4 y5 y6 y7 y8) (bits_Div64.l1 (k + 1) y0 y1 y2 y3 y4 y5 y6 y7 y8))∧(∀ y0 y1 y2 y3 y4 y5 y6 y7 y8 y9,LeO (bits_Div64.j4 k y0 y1 y2 y3 y4 y5 y6 y7 y8 y9) (bits_Div64.j4 (k + 1) y0 y1 y2 y3 y4 y5 y6 y7 y8 y9))∧(∀ y0 y1 y2 y3 y4 y5 y6 y7 y8,LeO (bits_Div64.l0 k y0 y1 y2 y3 y4 y5 y6 y7 y8) (bits_Div64.l0 (k + 1) y0 y1 y2 y3 y4 y5 y6 y7 y8))∧(∀ y0 y1 y2 y3 y4 y5 y6 y7 y8 y9,LeO (bits_Div64.j1 k y0 y1 y2 y3 y4 y5 y6 y7 y8 y9) (bits_Div64.j1 (k + 1) y0 y1 y2 y3 y4 y5 y6 y7 y8 y9))
  | 0=>⟨fun _ _ _ _ _ _ _ _ r h=>by simp [bits_Div64.j2] at h,fun _ _ _ _ _ _ _ _ _ r h=>by simp [bits_Div64.l1] at h,fun _ _ _ _ _ _ _ _ _ _ r h=>by simp [bits_Div64.j4] at h,fun _ _ _ _ _ _ _ _ _ r h=>by simp [bits_Div64.l0] at h,fun _ _ _ _ _ _ _ _ _ _ r h=>by simp [bits_Div64.j1] at h⟩
  | k + 1=>by
    obtain ⟨ih0,ih1,ih2,ih3,ih4⟩:=bits_Div64.mono_l k
    refine ⟨?_,?_,?_,?_,?_⟩
    · intro y0 y1 y2 y3 y4 y5 y6 y7
      unfold bits_Div64.j2
      repeat' first
      | (with_reducible exact ih0 _ _ _ _ _ _ _ _)
      | (with_reducible exact ih1 _ _ _ _ _ _ _ _ _)
      | (with_reducible exact ih2 _ _ _ _ _ _ _ _ _ _)
      | (with_reducible exact ih3 _ _ _ _ _ _ _ _ _)
      | (with_reducible exact ih4 _ _ _ _ _ _ _ _ _ _)
      | (with_reducible exact bits_LeadingZeros64.mono _ _)
      | (with_reducible exact LeO.refl _)
      | (with_reducible exact LeO.none _)
      | (with_reducible refine LeO.ite ?_ ?_)
      | (with_reducible refine LeO.bind ?_ (fun _=>?_))
      | exact ih0 _ _ _ _ _ _ _ _
      | exact ih1 _ _ _ _ _ _ _ _ _
      | exact ih2 _ _ _ _ _ _ _ _ _ _
      | exact ih3 _ _ _ _ _ _ _ _ _
      | exact ih4 _ _ _ _ _ _ _ _ _ _
      | exact bits_LeadingZeros64.mono _ _
      | exact LeO.none _
      | refine LeO.ite ?_ ?_
      | refine LeO.bind ?_ (fun _=>?_)
    · intro y0 y1 y2 y3 y4 y5 y6 y7 y8
      unfold bits_Div64.l1
      repeat' first
      | (with_reducible exact ih0 _ _ _ _ _ _ _ _)
      | (with_reducible exact ih1 _ _ _ _ _ _ _ _ _)
      | (with_reducible exact ih2 _ _ _ _ _ _ _ _ _ _)
      | (with_reducible exact ih3 _ _ _ _ _ _ _ _ _)
      | (with_reducible exact ih4 _ _ _ _ _ _ _ _ _ _)
      | (with_reducible exact bits_LeadingZeros64.mono _ _)
      | (with_reducible exact LeO.refl _)
      | (with_reducible exact LeO.none _)
      | (with_reducible refine LeO.ite ?_ ?_)
      | (with_reducible refine LeO.bind ?_ (fun _=>?_))
      | exact ih0 _ _ _ _ _ _ _ _
      | exact ih1 _ _ _ _ _ _ _ _ _
      | exact ih2 _ _ _ _ _ _ _ _ _ _
      | exact ih3 _ _ _ _ _ _ _ _ _
      | exact ih4 _ _ _ _ _ _ _ _ _ _
      | exact bits_LeadingZeros64.mono _ _
      | exact LeO.none _
      | refine LeO.ite ?_ ?_
      | refine LeO.bind ?_ (fun _=>?_)
    · intro y0 y1 y2 y3 y4 y5 y6 y7 y8 y9
      unfold bits_Div64.j4
      repeat' first
      | (with_reducible exact ih0 _ _ _ _ _ _ _ _)
      | (with_reducible exact ih1 _ _ _ _ _ _ _ _ _)
      | (with_reducible exact ih2 _ _ _ _ _ _ _ _ _ _)
      | (with_reducible exact ih3 _ _ _ _ _ _ _ _ _)
      | (with_reducible exact ih4 _ _ _ _ _ _ _ _ _ _)
      | (with_reducible exact bits_LeadingZeros64.mono _ _)
      | (with_reducible exact LeO.refl _)
      | (with_reducible exact LeO.none _)
      | (with_reducible refine LeO.ite ?_ ?_)
      | (with_reducible refine LeO.bind ?_ (fun _=>?_))
      | exact ih0 _ _ _ _ _ _ _ _
      | exact ih1 _ _ _ _ _ _ _ _ _
      | exact ih2 _ _ _ _ _ _ _ _ _ _
      | exact ih3 _ _ _ _ _ _ _ _ _
      | exact ih4 _ _ _ _ _ _ _ _ _ _
      | exact bits_LeadingZeros64.mono _ _
      | exact LeO.none _
      | refine LeO.ite ?_ ?_
      | refine LeO.bind ?_ (fun _=>?_)
    · intro y0 y1 y2 y3 y4 y5 y6 y7 y8
      unfold bits_Div64.l0
      repeat' first
      | (with_reducible exact ih0 _ _ _ _ _ _ _ _)
      | (with_reducible exact ih1 _ _ _ _ _ _ _ _ _)
      | (with_reducible exact ih2 _ _ _ _ _ _ _ _ _ _)
      | (with_reducible exact ih3 _ _ _ _ _ _ _ _ _)
      | (with_reducible exact ih4 _ _ _ _ _ _ _ _ _ _)
      | (with_reducible exact bits_LeadingZeros64.mono _ _)
      | (with_reducible exact LeO.refl _)
      | (with_reducible exact LeO.none _)
      | (with_reducible refine LeO.ite ?_ ?_)
      | (with_reducible refine LeO.bind ?_ (fun _=>?_))
      | exact ih0 _ _ _ _ _ _ _ _
      | exact ih1 _ _ _ _ _ _ _ _ _
      | exact ih2 _ _ _ _ _ _ _ _ _ _
      | exact ih3 _ _ _ _ _ _ _ _ _
      | exact ih4 _ _ _ _ _ _ _ _ _ _
      | exact bits_LeadingZeros64.mono _ _
      | exact LeO.none _
      | refine LeO.ite ?_ ?_
      | refine LeO.bind ?_ (fun _=>?_)
    · intro y0 y1 y2 y3 y4 y5 y6 y7 y8 y9
      unfold bits_Div64.j1
      repeat' first
      | (with_reducible exact ih0 _ _ _ _ _ _ _ _)
      | (with_reducible exact ih1 _ _ _ _ _ _ _ _ _)
      | (with_reducible exact ih2 _ _ _ _ _ _ _ _ _ _)
      | (with_reducible exact ih3 _ _ _ _ _ _ _ _ _)
      | (with_reducible exact ih4 _ _ _ _ _ _ _ _ _ _)
      | (with_reducible exact bits_LeadingZeros64.mono _ _)
      | (with_reducible exact LeO.refl _)
      | (with_reducible exact LeO.none _)
      | (with_reducible refine LeO.ite ?_ ?_)
      | (with_reducible refine LeO.bind ?_ (fun _=>?_))
      | exact ih0 _ _ _ _ _ _ _ _
      | exact ih1 _ _ _ _ _ _ _ _ _
      | exact ih2 _ _ _ _ _ _ _ _ _ _
      | exact ih3 _ _ _ _ _ _ _ _ _
      | exact ih4 _ _ _ _ _ _ _ _ _ _
      | exact bits_LeadingZeros64.mono _ _
      | exact LeO.none _
      | refine LeO.ite ?_ ?_
      | refine LeO.bind ?_ (fun _=>?_)
theorem bits_Div64.mono : ∀ a0 a1 a2 k,LeO (bits_Div64.f k a0 a1 a2) (bits_Div64.f (k + 1) a0 a1 a2):=by
  intro a0 a1 a2 k
  obtain ⟨ih0,ih1,ih2,ih3,ih4⟩:=bits_Div64.mono_l k
  unfold bits_Div64.f
  repeat' first
      | (with_reducible exact ih0 _ _ _ _ _ _ _ _)
      | (with_reducible exact ih1 _ _ _ _ _ _ _ _ _)
      | (with_reducible exact ih2 _ _ _ _ _ _ _ _ _ _)
      | (with_reducible exact ih3 _ _ _ _ _ _ _ _ _)
      | (with_reducible exact ih4 _ _ _ _ _ _ _ _ _ _)
      | (with_reducible exact bits_LeadingZeros64.mono _ _)
      | (with_reducible exact LeO.refl _)
      | (with_reducible exact LeO.none _)
      | (with_reducible refine LeO.ite ?_ ?_)
      | (with_reducible refine LeO.bind ?_ (fun _=>?_))
      | exact ih0 _ _ _ _ _ _ _ _
      | exact ih1 _ _ _ _ _ _ _ _ _
      | exact ih2 _ _ _ _ _ _ _ _ _ _
      | exact ih3 _ _ _ _ _ _ _ _ _
      | exact ih4 _ _ _ _ _ _ _ _ _ _
      | exact bits_LeadingZeros64.mono _ _
      | exact LeO.none _
      | refine LeO.ite ?_ ?_
      | refine LeO.bind ?_ (fun _=>?_)
def quot_by.l0:Nat→List Int→Int→List Int→Int→Int→Option (List Int×Int)
  | 0,_,_,_,_,_=>none
  | k + 1,x0,x1,x6,x7,x8=>if x8 ≥ 0 then (if 0≤x8 then (if x8 < (x0.length:Int) then ((bits_Div64.f k x7 (rd x0 x8) x1).bind fun bt177=>(if x8 < (x6.length:Int) then (quot_by.l0 k x0 x1 (x6.set (x8:Int).toNat bt177.1) bt177.2 (wrap64 (x8 - 1))) else (none))) else (none)) else (none)) else (some (x6,x7))
def quot_by.f (k:Nat) (l0:List Int) (a1:Int):Option (List Int×Int):=if 0≤(l0.length:Int) then (if ((l0.length:Int):Int).toNat≤35184372088832 then (quot_by.l0 k l0 a1 (List.replicate ((l0.length:Int):Int).toNat 0) 0 (wrap64 ((l0.length:Int) - 1))) else (none)) else (none)
theorem quot_by.mono_l : ∀ k,(∀ y0 y1 y2 y3 y4,LeO (quot_by.l0 k y0 y1 y2 y3 y4) (quot_by.l0 (k + 1) y0 y1 y2 y3 y4))
  | 0=>fun _ _ _ _ _ r h=>by simp [quot_by.l0] at h
  | k + 1=>by
    have ih0:=quot_by.mono_l k
    · intro y0 y1 y2 y3 y4
      unfold quot_by.l0
      repeat' first
      | (with_reducible exact ih0 _ _ _ _ _)
      | (with_reducible exact bits_Div64.mono _ _ _ _)
      | (with_reducible exact LeO.refl _)
      | (with_reducible exact LeO.none _)
      | (with_reducible refine LeO.ite ?_ ?_)
      | (with_reducible refine LeO.bind ?_ (fun _=>?_))
      | exact ih0 _ _ _ _ _
      | exact bits_Div64.mono _ _ _ _
      | exact LeO.none _
      | refine LeO.ite ?_ ?_
      | refine LeO.bind ?_ (fun _=>?_)
theorem quot_by.mono : ∀ a0 a1 k,LeO (quot_by.f k a0 a1) (quot_by.f (k + 1) a0 a1):=by
  intro a0 a1 k
  have ih0:=quot_by.mono_l k
  unfold quot_by.f
  repeat' first
      | (with_reducible exact ih0 _ _ _ _ _)
      | (with_reducible exact bits_Div64.mono _ _ _ _)
      | (with_reducible exact LeO.refl _)
      | (with_reducible exact LeO.none _)
      | (with_reducible refine LeO.ite ?_ ?_)
      | (with_reducible refine LeO.bind ?_ (fun _=>?_))
      | exact ih0 _ _ _ _ _
      | exact bits_Div64.mono _ _ _ _
      | exact LeO.none _
      | refine LeO.ite ?_ ?_
      | refine LeO.bind ?_ (fun _=>?_)
def quot_moved.l0:Nat→Int→List Int→List Int→Int→Int→Option (List Int)
  | 0,_,_,_,_,_=>none
  | k + 1,x1,x5,x12,x13,x14=>if x14 < x13 then (if 0≤x14 then (if x14 < (x12.length:Int) then (if x14 < (x5.length:Int) then (if 0≤x1 then (if 0≤(IntKind.u64.wrap (64 - x1)) then (if 0≤(wrap64 (x14 + 1)) then (if (wrap64 (x14 + 1)) < (x5.length:Int) then (quot_moved.l0 k x1 ((x5.set (x14:Int).toNat (Go.bits .or .u64 (rd x5 x14) (shl .u64 (rd x12 x14) x1))).set ((wrap64 (x14 + 1)):Int).toNat (shr .u64 (rd x12 x14) (IntKind.u64.wrap (64 - x1)))) x12 x13 (wrap64 (x14 + 1))) else (none)) else (none)) else (none)) else (none)) else (none)) else (none)) else (none)) else (some x5)
def quot_moved.f (k:Nat) (l0:List Int) (a1:Int):Option (List Int):=if 0≤(wrap64 ((l0.length:Int) + 1)) then (if (wrap64 ((l0.length:Int) + 1):Int).toNat≤35184372088832 then (quot_moved.l0 k a1 (List.replicate (wrap64 ((l0.length:Int) + 1):Int).toNat 0) l0 (l0.length:Int) 0) else (none)) else (none)
theorem quot_moved.mono_l : ∀ k,(∀ y0 y1 y2 y3 y4,LeO (quot_moved.l0 k y0 y1 y2 y3 y4) (quot_moved.l0 (k + 1) y0 y1 y2 y3 y4))
  | 0=>fun _ _ _ _ _ r h=>by simp [quot_moved.l0] at h
  | k + 1=>by
    have ih0:=quot_moved.mono_l k
    · intro y0 y1 y2 y3 y4
      unfold quot_moved.l0
      repeat' first
      | (with_reducible exact ih0 _ _ _ _ _)
      | (with_reducible exact LeO.refl _)
      | (with_reducible exact LeO.none _)
      | (with_reducible refine LeO.ite ?_ ?_)
      | (with_reducible refine LeO.bind ?_ (fun _=>?_))
      | exact ih0 _ _ _ _ _
      | exact LeO.none _
      | refine LeO.ite ?_ ?_
      | refine LeO.bind ?_ (fun _=>?_)
theorem quot_moved.mono : ∀ a0 a1 k,LeO (quot_moved.f k a0 a1) (quot_moved.f (k + 1) a0 a1):=by
  intro a0 a1 k
  have ih0:=quot_moved.mono_l k
  unfold quot_moved.f
  repeat' first
      | (with_reducible exact ih0 _ _ _ _ _)
      | (with_reducible exact LeO.refl _)
      | (with_reducible exact LeO.none _)
      | (with_reducible refine LeO.ite ?_ ?_)
      | (with_reducible refine LeO.bind ?_ (fun _=>?_))
      | exact ih0 _ _ _ _ _
      | exact LeO.none _
      | refine LeO.ite ?_ ?_
      | refine LeO.bind ?_ (fun _=>?_)
def bits_Mul64.f (a0:Int) (a1:Int):Option (Int×Int):=some (IntKind.u64.wrap ((IntKind.u64.wrap ((IntKind.u64.wrap ((a0 / 4294967296) * (a1 / 4294967296))) + ((IntKind.u64.wrap ((IntKind.u64.wrap ((a0 / 4294967296) * (Go.bits .and .u64 a1 4294967295))) + ((IntKind.u64.wrap ((Go.bits .and .u64 a0 4294967295) * (Go.bits .and .u64 a1 4294967295))) / 4294967296))) / 4294967296))) + ((IntKind.u64.wrap ((Go.bits .and .u64 (IntKind.u64.wrap ((IntKind.u64.wrap ((a0 / 4294967296) * (Go.bits .and .u64 a1 4294967295))) + ((IntKind.u64.wrap ((Go.bits .and .u64 a0 4294967295) * (Go.bits .and .u64 a1 4294967295))) / 4294967296))) 4294967295) + (IntKind.u64.wrap ((Go.bits .and .u64 a0 4294967295) * (a1 / 4294967296))))) / 4294967296)),IntKind.u64.wrap (a0 * a1))
mutual
def quot_guess.l0:Nat→List Int→Int→Int→Int→Int→Option (Int)
  | 0,_,_,_,_,_=>none
  | k + 1,x1,x5,x8,x9,x10=>if 0≤(wrap64 (x5 - 2)) then (if (wrap64 (x5 - 2)) < (x1.length:Int) then ((bits_Mul64.f x9 (rd x1 (wrap64 (x5 - 2)))).bind fun bt195=>(if bt195.1 < x10 then (quot_guess.j1 k x1 x5 x8 x9 x10 true) else (if bt195.1=x10 then (quot_guess.j1 k x1 x5 x8 x9 x10 (decide (bt195.2≤x8))) else (quot_guess.j1 k x1 x5 x8 x9 x10 false)))) else (none)) else (none)
def quot_guess.j1:Nat→List Int→Int→Int→Int→Int→Bool→Option (Int)
  | 0,_,_,_,_,_,_=>none
  | k + 1,x1,x5,x8,x9,x10,x71=>if x71=true then (some x9) else (if 0≤(wrap64 (x5 - 1)) then (if (wrap64 (x5 - 1)) < (x1.length:Int) then (if (add64c x10 (rd x1 (wrap64 (x5 - 1))) 0)=0 then (quot_guess.l0 k x1 x5 x8 (IntKind.u64.wrap (x9 - 1)) (add64s x10 (rd x1 (wrap64 (x5 - 1))) 0)) else (some (IntKind.u64.wrap (x9 - 1)))) else (none)) else (none))
end
def quot_guess.f (k:Nat) (l0:List Int) (l1:List Int):Option (Int):=if 0≤(l1.length:Int) then (if (l1.length:Int) < (l0.length:Int) then (if 0≤(wrap64 ((l1.length:Int) - 1)) then (if (wrap64 ((l1.length:Int) - 1)) < (l0.length:Int) then (if 0≤(wrap64 ((l1.length:Int) - 2)) then (if (wrap64 ((l1.length:Int) - 2)) < (l0.length:Int) then (if (wrap64 ((l1.length:Int) - 1)) < (l1.length:Int) then (if (rd l0 (l1.length:Int)) ≥ (rd l1 (wrap64 ((l1.length:Int) - 1))) then (some 18446744073709551615) else ((bits_Div64.f k (rd l0 (l1.length:Int)) (rd l0 (wrap64 ((l1.length:Int) - 1))) (rd l1 (wrap64 ((l1.length:Int) - 1)))).bind fun bt192=>(quot_guess.l0 k l1 (l1.length:Int) (rd l0 (wrap64 ((l1.length:Int) - 2))) bt192.1 bt192.2))) else (none)) else (none)) else (none)) else (none)) else (none)) else (none)) else (none)
theorem quot_guess.mono_l : ∀ k,(∀ y0 y1 y2 y3 y4,LeO (quot_guess.l0 k y0 y1 y2 y3 y4) (quot_guess.l0 (k + 1) y0 y1 y2 y3 y4))∧(∀ y0 y1 y2 y3 y4 y5,LeO (quot_guess.j1 k y0 y1 y2 y3 y4 y5) (quot_guess.j1 (k + 1) y0 y1 y2 y3 y4 y5))
  | 0=>⟨fun _ _ _ _ _ r h=>by simp [quot_guess.l0] at h,fun _ _ _ _ _ _ r h=>by simp [quot_guess.j1] at h⟩
  | k + 1=>by
    obtain ⟨ih0,ih1⟩:=quot_guess.mono_l k
    refine ⟨?_,?_⟩
    · intro y0 y1 y2 y3 y4
      unfold quot_guess.l0
      repeat' first
      | (with_reducible exact ih0 _ _ _ _ _)
      | (with_reducible exact ih1 _ _ _ _ _ _)
      | (with_reducible exact bits_Div64.mono _ _ _ _)
      | (with_reducible exact LeO.refl _)
      | (with_reducible exact LeO.none _)
      | (with_reducible refine LeO.ite ?_ ?_)
      | (with_reducible refine LeO.bind ?_ (fun _=>?_))
      | exact ih0 _ _ _ _ _
      | exact ih1 _ _ _ _ _ _
      | exact bits_Div64.mono _ _ _ _
      | exact LeO.none _
      | refine LeO.ite ?_ ?_
      | refine LeO.bind ?_ (fun _=>?_)
    · intro y0 y1 y2 y3 y4 y5
      unfold quot_guess.j1
      repeat' first
      | (with_reducible exact ih0 _ _ _ _ _)
      | (with_reducible exact ih1 _ _ _ _ _ _)
      | (with_reducible exact bits_Div64.mono _ _ _ _)
      | (with_reducible exact LeO.refl _)
      | (with_reducible exact LeO.none _)
      | (with_reducible refine LeO.ite ?_ ?_)
      | (with_reducible refine LeO.bind ?_ (fun _=>?_))
      | exact ih0 _ _ _ _ _
      | exact ih1 _ _ _ _ _ _
      | exact bits_Div64.mono _ _ _ _
      | exact LeO.none _
      | refine LeO.ite ?_ ?_
      | refine LeO.bind ?_ (fun _=>?_)
theorem quot_guess.mono : ∀ a0 a1 k,LeO (quot_guess.f k a0 a1) (quot_guess.f (k + 1) a0 a1):=by
  intro a0 a1 k
  obtain ⟨ih0,ih1⟩:=quot_guess.mono_l k
  unfold quot_guess.f
  repeat' first
      | (with_reducible exact ih0 _ _ _ _ _)
      | (with_reducible exact ih1 _ _ _ _ _ _)
      | (with_reducible exact bits_Div64.mono _ _ _ _)
      | (with_reducible exact LeO.refl _)
      | (with_reducible exact LeO.none _)
      | (with_reducible refine LeO.ite ?_ ?_)
      | (with_reducible refine LeO.bind ?_ (fun _=>?_))
      | exact ih0 _ _ _ _ _
      | exact ih1 _ _ _ _ _ _
      | exact bits_Div64.mono _ _ _ _
      | exact LeO.none _
      | refine LeO.ite ?_ ?_
      | refine LeO.bind ?_ (fun _=>?_)
def quot_guessW.f (k:Nat) (l0:List Int) (lo_ hi_:Int) (l1:List Int):Option (Int):=if 0≤lo_∧lo_ < hi_∧hi_≤(l0.length:Int) then quot_guess.f k ((l0.take hi_.toNat).drop lo_.toNat) l1 else none
theorem quot_guessW.mono : ∀ a0 a1 a2 a3 k,LeO (quot_guessW.f k a0 a1 a2 a3) (quot_guessW.f (k + 1) a0 a1 a2 a3):=by
  intro a0 a1 a2 a3 k
  unfold quot_guessW.f
  refine LeO.ite ?_ (LeO.none _)
  exact quot_guess.mono _ _ _
def quot_less.l0:Nat→List Int→List Int→Int→Int→Int→List Int→Int→Int→Option (Int×List Int)
  | 0,_,_,_,_,_,_,_,_=>none
  | k + 1,x0,x1,x2,x7,x8,x14,x15,x16=>if x16 < x15 then (if 0≤x16 then (if x16 < (x14.length:Int) then ((bits_Mul64.f (rd x14 x16) x2).bind fun bt199=>(if x16 < (x0.length:Int) then (if x8≤1 then (quot_less.l0 k (x0.set (x16:Int).toNat (sub64d (rd x0 x16) (add64s bt199.2 x7 0) x8)) x1 x2 (IntKind.u64.wrap (bt199.1 + (add64c bt199.2 x7 0))) (sub64b (rd x0 x16) (add64s bt199.2 x7 0) x8) x14 x15 (wrap64 (x16 + 1))) else (none)) else (none))) else (none)) else (none)) else (if 0≤(x1.length:Int) then (if (x1.length:Int) < (x0.length:Int) then (if x8≤1 then (some (sub64b (rd x0 (x1.length:Int)) x7 x8,(x0.set ((x1.length:Int):Int).toNat (sub64d (rd x0 (x1.length:Int)) x7 x8)))) else (none)) else (none)) else (none))
def quot_less.f (k:Nat) (l0:List Int) (l1:List Int) (a2:Int):Option (Int×List Int):=quot_less.l0 k l0 l1 a2 0 0 l1 (l1.length:Int) 0
theorem quot_less.mono_l : ∀ k,(∀ y0 y1 y2 y3 y4 y5 y6 y7,LeO (quot_less.l0 k y0 y1 y2 y3 y4 y5 y6 y7) (quot_less.l0 (k + 1) y0 y1 y2 y3 y4 y5 y6 y7))
  | 0=>fun _ _ _ _ _ _ _ _ r h=>by simp [quot_less.l0] at h
  | k + 1=>by
    have ih0:=quot_less.mono_l k
    · intro y0 y1 y2 y3 y4 y5 y6 y7
      unfold quot_less.l0
      repeat' first
      | (with_reducible exact ih0 _ _ _ _ _ _ _ _)
      | (with_reducible exact LeO.refl _)
      | (with_reducible exact LeO.none _)
      | (with_reducible refine LeO.ite ?_ ?_)
      | (with_reducible refine LeO.bind ?_ (fun _=>?_))
      | exact ih0 _ _ _ _ _ _ _ _
      | exact LeO.none _
      | refine LeO.ite ?_ ?_
      | refine LeO.bind ?_ (fun _=>?_)
theorem quot_less.mono : ∀ a0 a1 a2 k,LeO (quot_less.f k a0 a1 a2) (quot_less.f (k + 1) a0 a1 a2):=by
  intro a0 a1 a2 k
  have ih0:=quot_less.mono_l k
  unfold quot_less.f
  repeat' first
      | (with_reducible exact ih0 _ _ _ _ _ _ _ _)
      | (with_reducible exact LeO.refl _)
      | (with_reducible exact LeO.none _)
      | (with_reducible refine LeO.ite ?_ ?_)
      | (with_reducible refine LeO.bind ?_ (fun _=>?_))
      | exact ih0 _ _ _ _ _ _ _ _
      | exact LeO.none _
      | refine LeO.ite ?_ ?_
      | refine LeO.bind ?_ (fun _=>?_)
def quot_lessW.f (k:Nat) (l0:List Int) (lo_ hi_:Int) (l1:List Int) (a2:Int):Option (Int×List Int):=if 0≤lo_∧lo_ < hi_∧hi_≤(l0.length:Int) then (quot_less.f k ((l0.take hi_.toNat).drop lo_.toNat) l1 a2).map (fun r_=>(r_.1,l0.take lo_.toNat ++ r_.2 ++ l0.drop hi_.toNat)) else none
theorem quot_lessW.mono : ∀ a0 a1 a2 a3 a4 k,LeO (quot_lessW.f k a0 a1 a2 a3 a4) (quot_lessW.f (k + 1) a0 a1 a2 a3 a4):=by
  intro a0 a1 a2 a3 a4 k
  unfold quot_lessW.f
  refine LeO.ite ?_ (LeO.none _)
  intro r hr
  obtain ⟨r',h1,h2⟩:=Option.map_eq_some_iff.mp hr
  exact Option.map_eq_some_iff.mpr ⟨r',quot_less.mono _ _ _  k r' h1,h2⟩
def quot_back.l0:Nat→List Int→List Int→Int→List Int→Int→Int→Option (List Int)
  | 0,_,_,_,_,_,_=>none
  | k + 1,x0,x1,x4,x7,x8,x9=>if x9 < x8 then (if 0≤x9 then (if x9 < (x7.length:Int) then (if x9 < (x0.length:Int) then (if x4≤1 then (quot_back.l0 k (x0.set (x9:Int).toNat (add64s (rd x0 x9) (rd x7 x9) x4)) x1 (add64c (rd x0 x9) (rd x7 x9) x4) x7 x8 (wrap64 (x9 + 1))) else (none)) else (none)) else (none)) else (none)) else (if 0≤(x1.length:Int) then (if (x1.length:Int) < (x0.length:Int) then (some (x0.set ((x1.length:Int):Int).toNat (IntKind.u64.wrap ((rd x0 (x1.length:Int)) + x4)))) else (none)) else (none))
def quot_back.f (k:Nat) (l0:List Int) (l1:List Int):Option (List Int):=quot_back.l0 k l0 l1 0 l1 (l1.length:Int) 0
theorem quot_back.mono_l : ∀ k,(∀ y0 y1 y2 y3 y4 y5,LeO (quot_back.l0 k y0 y1 y2 y3 y4 y5) (quot_back.l0 (k + 1) y0 y1 y2 y3 y4 y5))
  | 0=>fun _ _ _ _ _ _ r h=>by simp [quot_back.l0] at h
  | k + 1=>by
    have ih0:=quot_back.mono_l k
    · intro y0 y1 y2 y3 y4 y5
      unfold quot_back.l0
      repeat' first
      | (with_reducible exact ih0 _ _ _ _ _ _)
      | (with_reducible exact LeO.refl _)
      | (with_reducible exact LeO.none _)
      | (with_reducible refine LeO.ite ?_ ?_)
      | (with_reducible refine LeO.bind ?_ (fun _=>?_))
      | exact ih0 _ _ _ _ _ _
      | exact LeO.none _
      | refine LeO.ite ?_ ?_
      | refine LeO.bind ?_ (fun _=>?_)
theorem quot_back.mono : ∀ a0 a1 k,LeO (quot_back.f k a0 a1) (quot_back.f (k + 1) a0 a1):=by
  intro a0 a1 k
  have ih0:=quot_back.mono_l k
  unfold quot_back.f
  repeat' first
      | (with_reducible exact ih0 _ _ _ _ _ _)
      | (with_reducible exact LeO.refl _)
      | (with_reducible exact LeO.none _)
      | (with_reducible refine LeO.ite ?_ ?_)
      | (with_reducible refine LeO.bind ?_ (fun _=>?_))
      | exact ih0 _ _ _ _ _ _
      | exact LeO.none _
      | refine LeO.ite ?_ ?_
      | refine LeO.bind ?_ (fun _=>?_)
def quot_backW.f (k:Nat) (l0:List Int) (lo_ hi_:Int) (l1:List Int):Option (List Int):=if 0≤lo_∧lo_ < hi_∧hi_≤(l0.length:Int) then (quot_back.f k ((l0.take hi_.toNat).drop lo_.toNat) l1).map (fun r_=>l0.take lo_.toNat ++ r_ ++ l0.drop hi_.toNat) else none
theorem quot_backW.mono : ∀ a0 a1 a2 a3 k,LeO (quot_backW.f k a0 a1 a2 a3) (quot_backW.f (k + 1) a0 a1 a2 a3):=by
  intro a0 a1 a2 a3 k
  unfold quot_backW.f
  refine LeO.ite ?_ (LeO.none _)
  intro r hr
  obtain ⟨r',h1,h2⟩:=Option.map_eq_some_iff.mp hr
  exact Option.map_eq_some_iff.mpr ⟨r',quot_back.mono _ _  k r' h1,h2⟩
def quot_wrong.f (a0:Int):Option (Bool):=if a0 < 0 then (some true) else (some (decide (a0 > 262144)))
def quot_Shr.l0:Nat→List Int→Int→Int→Int→Option (List Int×Int)
  | 0,_,_,_,_=>none
  | k + 1,x6,x7,x25,x26=>if x26 < x25 then (if 0≤x26 then (if x26 < (x6.length:Int) then (if 0≤x7 then ((some (x6.set (x26:Int).toNat (shr .u64 (rd x6 x26) x7):List Int)).bind fun y220=>(if (wrap64 (x26 + 1)) < (x6.length:Int) then (if 0≤(wrap64 (x26 + 1)) then (if 0≤(IntKind.u64.wrap (64 - x7)) then (quot_Shr.l0 k (y220.set (x26:Int).toNat (Go.bits .or .u64 (rd y220 x26) (shl .u64 (rd y220 (wrap64 (x26 + 1))) (IntKind.u64.wrap (64 - x7))))) x7 x25 (wrap64 (x26 + 1))) else (none)) else (none)) else (quot_Shr.l0 k y220 x7 x25 (wrap64 (x26 + 1))))) else (none)) else (none)) else (none)) else ((nat_Of.f k x6).bind fun t224=>(some (t224,0)))
def quot_Shr.f (k:Nat) (l0_0:List Int) (a1:Int):Option (List Int×Int):=(quot_wrong.f a1).bind fun t212=>(if t212=true then (some (([]:List Int),2)) else ((nat_Nat_Limbs.f l0_0).bind fun t213=>(if 0≤(mn (wrap64 (Int.tdiv a1 64)) (t213.length:Int)) then (if (mn (wrap64 (Int.tdiv a1 64)) (t213.length:Int))≤(t213.length:Int) then ((some (t213.drop ((mn (wrap64 (Int.tdiv a1 64)) (t213.length:Int)):Int).toNat:List Int)).bind fun y216=>(quot_Shr.l0 k y216 (IntKind.u64.wrap (Int.tmod a1 64)) (y216.length:Int) 0)) else (none)) else (none))))
theorem quot_Shr.mono_l : ∀ k,(∀ y0 y1 y2 y3,LeO (quot_Shr.l0 k y0 y1 y2 y3) (quot_Shr.l0 (k + 1) y0 y1 y2 y3))
  | 0=>fun _ _ _ _ r h=>by simp [quot_Shr.l0] at h
  | k + 1=>by
    have ih0:=quot_Shr.mono_l k
    · intro y0 y1 y2 y3
      unfold quot_Shr.l0
      repeat' first
      | (with_reducible exact ih0 _ _ _ _)
      | (with_reducible exact nat_Of.mono _ _)
      | (with_reducible exact LeO.refl _)
      | (with_reducible exact LeO.none _)
      | (with_reducible refine LeO.ite ?_ ?_)
      | (with_reducible refine LeO.bind ?_ (fun _=>?_))
      | exact ih0 _ _ _ _
      | exact nat_Of.mono _ _
      | exact LeO.none _
      | refine LeO.ite ?_ ?_
      | refine LeO.bind ?_ (fun _=>?_)
theorem quot_Shr.mono : ∀ a0 a1 k,LeO (quot_Shr.f k a0 a1) (quot_Shr.f (k + 1) a0 a1):=by
  intro a0 a1 k
  have ih0:=quot_Shr.mono_l k
  unfold quot_Shr.f
  repeat' first
      | (with_reducible exact ih0 _ _ _ _)
      | (with_reducible exact nat_Of.mono _ _)
      | (with_reducible exact LeO.refl _)
      | (with_reducible exact LeO.none _)
      | (with_reducible refine LeO.ite ?_ ?_)
      | (with_reducible refine LeO.bind ?_ (fun _=>?_))
      | exact ih0 _ _ _ _
      | exact nat_Of.mono _ _
      | exact LeO.none _
      | refine LeO.ite ?_ ?_
      | refine LeO.bind ?_ (fun _=>?_)
mutual
def quot_long.l0:Nat→List Int→List Int→Int→List Int→Int→Option (List Int×List Int)
  | 0,_,_,_,_,_=>none
  | k + 1,x0,x1,x6,x7,x8=>if x8 ≥ 0 then (if 0≤x8 then (if x8 < (wrap64 ((wrap64 (x8 + (x1.length:Int))) + 1)) then (if (wrap64 ((wrap64 (x8 + (x1.length:Int))) + 1))≤(x0.length:Int) then ((quot_guessW.f k x0 x8 (wrap64 ((wrap64 (x8 + (x1.length:Int))) + 1)) x1).bind fun t252=>((quot_lessW.f k x0 x8 (wrap64 ((wrap64 (x8 + (x1.length:Int))) + 1)) x1 t252).bind fun bt253=>(quot_long.l1 k bt253.2 x1 x6 x7 x8 t252 bt253.1))) else (none)) else (none)) else (none)) else ((nat_Of.f k x0).bind fun t241=>((quot_Shr.f k t241 (wrap64 (x6))).bind fun bt244=>((nat_Nat_Limbs.f bt244.1).bind fun t249=>(some (x7,t249)))))
def quot_long.l1:Nat→List Int→List Int→Int→List Int→Int→Int→Int→Option (List Int×List Int)
  | 0,_,_,_,_,_,_,_=>none
  | k + 1,x0,x1,x6,x7,x8,x10,x11=>if x11=0 then (if 0≤x8 then (if x8 < (x7.length:Int) then (quot_long.l0 k x0 x1 x6 (x7.set (x8:Int).toNat x10) (wrap64 (x8 - 1))) else (none)) else (none)) else ((quot_backW.f k x0 x8 (wrap64 ((wrap64 (x8 + (x1.length:Int))) + 1)) x1).bind fun t256=>(if 0≤x8 then (if 0≤(x1.length:Int) then (if (x1.length:Int) < (wrap64 ((wrap64 (x8 + (x1.length:Int))) + 1)) - x8 then (if 0≤((x1.length:Int) + x8) then (if ((x1.length:Int) + x8) < (x0.length:Int) then (if (rd t256 ((x1.length:Int) + x8))=0 then (quot_long.l1 k t256 x1 x6 x7 x8 (IntKind.u64.wrap (x10 - 1)) 0) else (quot_long.l1 k t256 x1 x6 x7 x8 (IntKind.u64.wrap (x10 - 1)) x11)) else (none)) else (none)) else (none)) else (none)) else (none)))
end
def quot_long.f (k:Nat) (l0:List Int) (l1:List Int):Option (List Int×List Int):=if 0≤(wrap64 ((l1.length:Int) - 1)) then (if (wrap64 ((l1.length:Int) - 1)) < (l1.length:Int) then ((bits_LeadingZeros64.f k (rd l1 (wrap64 ((l1.length:Int) - 1)))).bind fun t228=>((quot_moved.f k l0 (IntKind.u64.wrap (t228))).bind fun t229=>((quot_moved.f k l1 (IntKind.u64.wrap (t228))).bind fun t232=>(if 0≤(l1.length:Int) then (if (l1.length:Int)≤(t232.length:Int) then ((some (t232.take ((l1.length:Int):Int).toNat:List Int)).bind fun y235=>(if 0≤(wrap64 ((t229.length:Int) - (y235.length:Int))) then (if (wrap64 ((t229.length:Int) - (y235.length:Int)):Int).toNat≤35184372088832 then ((some (List.replicate (wrap64 ((t229.length:Int) - (y235.length:Int)):Int).toNat 0:List Int)).bind fun y238=>(quot_long.l0 k t229 y235 (IntKind.u64.wrap (t228)) y238 (wrap64 ((y238.length:Int) - 1)))) else (none)) else (none))) else (none)) else (none))))) else (none)) else (none)
theorem quot_long.mono_l : ∀ k,(∀ y0 y1 y2 y3 y4,LeO (quot_long.l0 k y0 y1 y2 y3 y4) (quot_long.l0 (k + 1) y0 y1 y2 y3 y4))∧(∀ y0 y1 y2 y3 y4 y5 y6,LeO (quot_long.l1 k y0 y1 y2 y3 y4 y5 y6) (quot_long.l1 (k + 1) y0 y1 y2 y3 y4 y5 y6))
  | 0=>⟨fun _ _ _ _ _ r h=>by simp [quot_long.l0] at h,fun _ _ _ _ _ _ _ r h=>by simp [quot_long.l1] at h⟩
  | k + 1=>by
    obtain ⟨ih0,ih1⟩:=quot_long.mono_l k
    refine ⟨?_,?_⟩
    · intro y0 y1 y2 y3 y4
      unfold quot_long.l0
      repeat' first
      | (with_reducible exact ih0 _ _ _ _ _)
      | (with_reducible exact ih1 _ _ _ _ _ _ _)
      | (with_reducible exact bits_LeadingZeros64.mono _ _)
      | (with_reducible exact nat_Of.mono _ _)
      | (with_reducible exact quot_Shr.mono _ _ _)
      | (with_reducible exact quot_backW.mono _ _ _ _ _)
      | (with_reducible exact quot_guessW.mono _ _ _ _ _)
      | (with_reducible exact quot_lessW.mono _ _ _ _ _ _)
      | (with_reducible exact quot_moved.mono _ _ _)
      | (with_reducible exact LeO.refl _)
      | (with_reducible exact LeO.none _)
      | (with_reducible refine LeO.ite ?_ ?_)
      | (with_reducible refine LeO.bind ?_ (fun _=>?_))
      | exact ih0 _ _ _ _ _
      | exact ih1 _ _ _ _ _ _ _
      | exact bits_LeadingZeros64.mono _ _
      | exact nat_Of.mono _ _
      | exact quot_Shr.mono _ _ _
      | exact quot_backW.mono _ _ _ _ _
      | exact quot_guessW.mono _ _ _ _ _
      | exact quot_lessW.mono _ _ _ _ _ _
      | exact quot_moved.mono _ _ _
      | exact LeO.none _
      | refine LeO.ite ?_ ?_
      | refine LeO.bind ?_ (fun _=>?_)
    · intro y0 y1 y2 y3 y4 y5 y6
      unfold quot_long.l1
      repeat' first
      | (with_reducible exact ih0 _ _ _ _ _)
      | (with_reducible exact ih1 _ _ _ _ _ _ _)
      | (with_reducible exact bits_LeadingZeros64.mono _ _)
      | (with_reducible exact nat_Of.mono _ _)
      | (with_reducible exact quot_Shr.mono _ _ _)
      | (with_reducible exact quot_backW.mono _ _ _ _ _)
      | (with_reducible exact quot_guessW.mono _ _ _ _ _)
      | (with_reducible exact quot_lessW.mono _ _ _ _ _ _)
      | (with_reducible exact quot_moved.mono _ _ _)
      | (with_reducible exact LeO.refl _)
      | (with_reducible exact LeO.none _)
      | (with_reducible refine LeO.ite ?_ ?_)
      | (with_reducible refine LeO.bind ?_ (fun _=>?_))
      | exact ih0 _ _ _ _ _
      | exact ih1 _ _ _ _ _ _ _
      | exact bits_LeadingZeros64.mono _ _
      | exact nat_Of.mono _ _
      | exact quot_Shr.mono _ _ _
      | exact quot_backW.mono _ _ _ _ _
      | exact quot_guessW.mono _ _ _ _ _
      | exact quot_lessW.mono _ _ _ _ _ _
      | exact quot_moved.mono _ _ _
      | exact LeO.none _
      | refine LeO.ite ?_ ?_
      | refine LeO.bind ?_ (fun _=>?_)
theorem quot_long.mono : ∀ a0 a1 k,LeO (quot_long.f k a0 a1) (quot_long.f (k + 1) a0 a1):=by
  intro a0 a1 k
  obtain ⟨ih0,ih1⟩:=quot_long.mono_l k
  unfold quot_long.f
  repeat' first
      | (with_reducible exact ih0 _ _ _ _ _)
      | (with_reducible exact ih1 _ _ _ _ _ _ _)
      | (with_reducible exact bits_LeadingZeros64.mono _ _)
      | (with_reducible exact nat_Of.mono _ _)
      | (with_reducible exact quot_Shr.mono _ _ _)
      | (with_reducible exact quot_backW.mono _ _ _ _ _)
      | (with_reducible exact quot_guessW.mono _ _ _ _ _)
      | (with_reducible exact quot_lessW.mono _ _ _ _ _ _)
      | (with_reducible exact quot_moved.mono _ _ _)
      | (with_reducible exact LeO.refl _)
      | (with_reducible exact LeO.none _)
      | (with_reducible refine LeO.ite ?_ ?_)
      | (with_reducible refine LeO.bind ?_ (fun _=>?_))
      | exact ih0 _ _ _ _ _
      | exact ih1 _ _ _ _ _ _ _
      | exact bits_LeadingZeros64.mono _ _
      | exact nat_Of.mono _ _
      | exact quot_Shr.mono _ _ _
      | exact quot_backW.mono _ _ _ _ _
      | exact quot_guessW.mono _ _ _ _ _
      | exact quot_lessW.mono _ _ _ _ _ _
      | exact quot_moved.mono _ _ _
      | exact LeO.none _
      | refine LeO.ite ?_ ?_
      | refine LeO.bind ?_ (fun _=>?_)
def quot_Div.f (k:Nat) (l0_0:List Int) (l1_0:List Int):Option (List Int×List Int×Int):=(nat_Nat_Zero.f l1_0).bind fun t262=>(if t262=true then (some (([]:List Int),([]:List Int),8)) else ((nat_Nat_Cmp.f k l0_0 l1_0).bind fun t263=>(if t263 < 0 then (some (([]:List Int),l0_0,0)) else ((nat_Nat_Limbs.f l0_0).bind fun t264=>((nat_Nat_Limbs.f l1_0).bind fun t267=>(if (t267.length:Int)=1 then (if 0 < (t267.length:Int) then ((quot_by.f k t264 (rd t267 0)).bind fun bt271=>((nat_Of.f k bt271.1).bind fun t275=>((nat_Of.f k (([bt271.2]:List Int))).bind fun t281=>(some (t275,t281,0))))) else (none)) else ((quot_long.f k t264 t267).bind fun bt284=>((nat_Of.f k bt284.1).bind fun t290=>((nat_Of.f k bt284.2).bind fun t293=>(some (t290,t293,0)))))))))))
theorem quot_Div.mono : ∀ a0 a1 k,LeO (quot_Div.f k a0 a1) (quot_Div.f (k + 1) a0 a1):=by
  intro a0 a1 k
  unfold quot_Div.f
  repeat' first
      | (with_reducible exact nat_Nat_Cmp.mono _ _ _)
      | (with_reducible exact nat_Of.mono _ _)
      | (with_reducible exact quot_by.mono _ _ _)
      | (with_reducible exact quot_long.mono _ _ _)
      | (with_reducible exact LeO.refl _)
      | (with_reducible exact LeO.none _)
      | (with_reducible refine LeO.ite ?_ ?_)
      | (with_reducible refine LeO.bind ?_ (fun _=>?_))
      | exact nat_Nat_Cmp.mono _ _ _
      | exact nat_Of.mono _ _
      | exact quot_by.mono _ _ _
      | exact quot_long.mono _ _ _
      | exact LeO.none _
      | refine LeO.ite ?_ ?_
      | refine LeO.bind ?_ (fun _=>?_)
def quot_Gcd.l0:Nat→List Int→List Int→Option (List Int)
  | 0,_,_=>none
  | k + 1,x297000,x298000=>(nat_Nat_Zero.f x298000).bind fun t299=>(if t299=true then (some x297000) else ((quot_Div.f k x297000 x298000).bind fun bt300=>(quot_Gcd.l0 k x298000 bt300.2.1)))
def quot_Gcd.f (k:Nat) (l0_0:List Int) (l1_0:List Int):Option (List Int):=quot_Gcd.l0 k l0_0 l1_0
theorem quot_Gcd.mono_l : ∀ k,(∀ y0 y1,LeO (quot_Gcd.l0 k y0 y1) (quot_Gcd.l0 (k + 1) y0 y1))
  | 0=>fun _ _ r h=>by simp [quot_Gcd.l0] at h
  | k + 1=>by
    have ih0:=quot_Gcd.mono_l k
    · intro y0 y1
      unfold quot_Gcd.l0
      repeat' first
      | (with_reducible exact ih0 _ _)
      | (with_reducible exact quot_Div.mono _ _ _)
      | (with_reducible exact LeO.refl _)
      | (with_reducible exact LeO.none _)
      | (with_reducible refine LeO.ite ?_ ?_)
      | (with_reducible refine LeO.bind ?_ (fun _=>?_))
      | exact ih0 _ _
      | exact quot_Div.mono _ _ _
      | exact LeO.none _
      | refine LeO.ite ?_ ?_
      | refine LeO.bind ?_ (fun _=>?_)
theorem quot_Gcd.mono : ∀ a0 a1 k,LeO (quot_Gcd.f k a0 a1) (quot_Gcd.f (k + 1) a0 a1):=by
  intro a0 a1 k
  have ih0:=quot_Gcd.mono_l k
  unfold quot_Gcd.f
  repeat' first
      | (with_reducible exact ih0 _ _)
      | (with_reducible exact quot_Div.mono _ _ _)
      | (with_reducible exact LeO.refl _)
      | (with_reducible exact LeO.none _)
      | (with_reducible refine LeO.ite ?_ ?_)
      | (with_reducible refine LeO.bind ?_ (fun _=>?_))
      | exact ih0 _ _
      | exact quot_Div.mono _ _ _
      | exact LeO.none _
      | refine LeO.ite ?_ ?_
      | refine LeO.bind ?_ (fun _=>?_)
def whole_Int_Abs.f (l0_0:List Int) (a0_1:Bool):Option (List Int):=some l0_0
def nat_Nat_limb.f (l0_0:List Int) (a1:Int):Option (Int):=if a1 ≥ (l0_0.length:Int) then (some 0) else (if 0≤a1 then (if a1 < (l0_0.length:Int) then (some (rd l0_0 a1)) else (none)) else (none))
def nat_Nat_Sub.l0:Nat→List Int→Int→Int→Int→List Int→List Int→Option (List Int×Bool)
  | 0,_,_,_,_,_,_=>none
  | k + 1,x6,x7,x19,x20,x314000,x315000=>if x20 < x19 then (if 0≤x20 then (if x20 < (x314000.length:Int) then ((nat_Nat_limb.f x315000 x20).bind fun t321=>(if x7≤1 then (if x20 < (x6.length:Int) then (nat_Nat_Sub.l0 k (x6.set (x20:Int).toNat (sub64d (rd x314000 x20) t321 x7)) (sub64b (rd x314000 x20) t321 x7) x19 (wrap64 (x20 + 1)) x314000 x315000) else (none)) else (none))) else (none)) else (none)) else ((nat_trimmed.f k x6).bind fun t323=>(some (t323,true)))
def nat_Nat_Sub.f (k:Nat) (l0_0:List Int) (l1_0:List Int):Option (List Int×Bool):=(nat_Nat_Cmp.f k l0_0 l1_0).bind fun t316=>(if t316 < 0 then (some (([]:List Int),false)) else (if 0≤(l0_0.length:Int) then (if ((l0_0.length:Int):Int).toNat≤35184372088832 then ((some (List.replicate ((l0_0.length:Int):Int).toNat 0:List Int)).bind fun y317=>(nat_Nat_Sub.l0 k y317 0 (y317.length:Int) 0 l0_0 l1_0)) else (none)) else (none)))
theorem nat_Nat_Sub.mono_l : ∀ k,(∀ y0 y1 y2 y3 y4 y5,LeO (nat_Nat_Sub.l0 k y0 y1 y2 y3 y4 y5) (nat_Nat_Sub.l0 (k + 1) y0 y1 y2 y3 y4 y5))
  | 0=>fun _ _ _ _ _ _ r h=>by simp [nat_Nat_Sub.l0] at h
  | k + 1=>by
    have ih0:=nat_Nat_Sub.mono_l k
    · intro y0 y1 y2 y3 y4 y5
      unfold nat_Nat_Sub.l0
      repeat' first
      | (with_reducible exact ih0 _ _ _ _ _ _)
      | (with_reducible exact nat_Nat_Cmp.mono _ _ _)
      | (with_reducible exact nat_trimmed.mono _ _)
      | (with_reducible exact LeO.refl _)
      | (with_reducible exact LeO.none _)
      | (with_reducible refine LeO.ite ?_ ?_)
      | (with_reducible refine LeO.bind ?_ (fun _=>?_))
      | exact ih0 _ _ _ _ _ _
      | exact nat_Nat_Cmp.mono _ _ _
      | exact nat_trimmed.mono _ _
      | exact LeO.none _
      | refine LeO.ite ?_ ?_
      | refine LeO.bind ?_ (fun _=>?_)
theorem nat_Nat_Sub.mono : ∀ a0 a1 k,LeO (nat_Nat_Sub.f k a0 a1) (nat_Nat_Sub.f (k + 1) a0 a1):=by
  intro a0 a1 k
  have ih0:=nat_Nat_Sub.mono_l k
  unfold nat_Nat_Sub.f
  repeat' first
      | (with_reducible exact ih0 _ _ _ _ _ _)
      | (with_reducible exact nat_Nat_Cmp.mono _ _ _)
      | (with_reducible exact nat_trimmed.mono _ _)
      | (with_reducible exact LeO.refl _)
      | (with_reducible exact LeO.none _)
      | (with_reducible refine LeO.ite ?_ ?_)
      | (with_reducible refine LeO.bind ?_ (fun _=>?_))
      | exact ih0 _ _ _ _ _ _
      | exact nat_Nat_Cmp.mono _ _ _
      | exact nat_trimmed.mono _ _
      | exact LeO.none _
      | refine LeO.ite ?_ ?_
      | refine LeO.bind ?_ (fun _=>?_)
def whole_Of.f (l0_0:List Int) (a1:Bool):Option (List Int×Bool):=if a1=true then ((nat_Nat_Zero.f l0_0).bind fun t328=>(some (l0_0,!t328))) else (some (l0_0,false))
def frac_made.f (k:Nat) (l0_0:List Int) (a0_1:Bool) (l1_0:List Int):Option (List Int×Bool×List Int):=(whole_Int_Abs.f l0_0 a0_1).bind fun t332=>((quot_Gcd.f k t332 l1_0).bind fun t335=>((whole_Int_Abs.f l0_0 a0_1).bind fun t339=>((quot_Div.f k t339 t335).bind fun bt342=>((quot_Div.f k l1_0 t335).bind fun bt351=>((nat_Of.f k (([1]:List Int))).bind fun t363=>((nat_Nat_Sub.f k bt351.1 t363).bind fun bt366=>((whole_Int_Sign.f l0_0 a0_1).bind fun t371=>((whole_Of.f bt342.1 (decide (t371 < 0))).bind fun bt372=>(some (bt372.1,bt372.2,bt366.1))))))))))
theorem frac_made.mono : ∀ a0 a1 a2 k,LeO (frac_made.f k a0 a1 a2) (frac_made.f (k + 1) a0 a1 a2):=by
  intro a0 a1 a2 k
  unfold frac_made.f
  repeat' first
      | (with_reducible exact nat_Nat_Sub.mono _ _ _)
      | (with_reducible exact nat_Of.mono _ _)
      | (with_reducible exact quot_Div.mono _ _ _)
      | (with_reducible exact quot_Gcd.mono _ _ _)
      | (with_reducible exact LeO.refl _)
      | (with_reducible exact LeO.none _)
      | (with_reducible refine LeO.ite ?_ ?_)
      | (with_reducible refine LeO.bind ?_ (fun _=>?_))
      | exact nat_Nat_Sub.mono _ _ _
      | exact nat_Of.mono _ _
      | exact quot_Div.mono _ _ _
      | exact quot_Gcd.mono _ _ _
      | exact LeO.none _
      | refine LeO.ite ?_ ?_
      | refine LeO.bind ?_ (fun _=>?_)
def whole_Int_Neg.f (l0_0:List Int) (a0_1:Bool):Option (List Int×Bool):=(whole_Of.f l0_0 (!a0_1)).bind fun bt378=>(some (bt378.1,bt378.2))
def frac_Of.f (k:Nat) (l0_0:List Int) (a0_1:Bool) (l1_0:List Int) (a1_1:Bool):Option (List Int×Bool×List Int×Int):=(whole_Int_Sign.f l1_0 a1_1).bind fun t385=>(if t385=0 then (some (([]:List Int),false,([]:List Int),8)) else (if t385=(-1) then ((whole_Int_Neg.f l0_0 a0_1).bind fun bt386=>((whole_Int_Abs.f l1_0 a1_1).bind fun t390=>((frac_made.f k bt386.1 bt386.2 t390).bind fun bt393=>(some (bt393.1,bt393.2.1,bt393.2.2,0))))) else ((whole_Int_Abs.f l1_0 a1_1).bind fun t400=>((frac_made.f k l0_0 a0_1 t400).bind fun bt403=>(some (bt403.1,bt403.2.1,bt403.2.2,0))))))
theorem frac_Of.mono : ∀ a0 a1 a2 a3 k,LeO (frac_Of.f k a0 a1 a2 a3) (frac_Of.f (k + 1) a0 a1 a2 a3):=by
  intro a0 a1 a2 a3 k
  unfold frac_Of.f
  repeat' first
      | (with_reducible exact frac_made.mono _ _ _ _)
      | (with_reducible exact LeO.refl _)
      | (with_reducible exact LeO.none _)
      | (with_reducible refine LeO.ite ?_ ?_)
      | (with_reducible refine LeO.bind ?_ (fun _=>?_))
      | exact frac_made.mono _ _ _ _
      | exact LeO.none _
      | refine LeO.ite ?_ ?_
      | refine LeO.bind ?_ (fun _=>?_)
def whole_From.f (k:Nat) (a0:Int):Option (List Int×Bool):=if a0 < 0 then ((nat_Of.f k (([IntKind.u64.wrap (-(IntKind.u64.wrap (a0)))]:List Int))).bind fun t414=>((whole_Of.f t414 true).bind fun bt417=>(some (bt417.1,bt417.2)))) else ((nat_Of.f k (([IntKind.u64.wrap (a0)]:List Int))).bind fun t424=>((whole_Of.f t424 false).bind fun bt427=>(some (bt427.1,bt427.2))))
theorem whole_From.mono : ∀ a0 k,LeO (whole_From.f k a0) (whole_From.f (k + 1) a0):=by
  intro a0 k
  unfold whole_From.f
  repeat' first
      | (with_reducible exact nat_Of.mono _ _)
      | (with_reducible exact LeO.refl _)
      | (with_reducible exact LeO.none _)
      | (with_reducible refine LeO.ite ?_ ?_)
      | (with_reducible refine LeO.bind ?_ (fun _=>?_))
      | exact nat_Of.mono _ _
      | exact LeO.none _
      | refine LeO.ite ?_ ?_
      | refine LeO.bind ?_ (fun _=>?_)
def count_part.f (k:Nat) (a0:Int) (a1:Int):Option (List Int×Bool×List Int):=(whole_From.f k a0).bind fun bt432=>((whole_From.f k a1).bind fun bt436=>((frac_Of.f k bt432.1 bt432.2 bt436.1 bt436.2).bind fun bt440=>(some (bt440.1,bt440.2.1,bt440.2.2.1))))
theorem count_part.mono : ∀ a0 a1 k,LeO (count_part.f k a0 a1) (count_part.f (k + 1) a0 a1):=by
  intro a0 a1 k
  unfold count_part.f
  repeat' first
      | (with_reducible exact frac_Of.mono _ _ _ _ _)
      | (with_reducible exact whole_From.mono _ _)
      | (with_reducible exact LeO.refl _)
      | (with_reducible exact LeO.none _)
      | (with_reducible refine LeO.ite ?_ ?_)
      | (with_reducible refine LeO.bind ?_ (fun _=>?_))
      | exact frac_Of.mono _ _ _ _ _
      | exact whole_From.mono _ _
      | exact LeO.none _
      | refine LeO.ite ?_ ?_
      | refine LeO.bind ?_ (fun _=>?_)
def count_thirty.f (k:Nat) (a0_0:Int) (a0_1:Int) (a0_2:Int) (a1_0:Int) (a1_1:Int) (a1_2:Int):Option (List Int×Bool×List Int):=if a0_2 > 30 then (if a1_2 > 30 then (if 30=30 then ((count_part.f k (wrap64 ((wrap64 ((wrap64 ((wrap64 (360 * (wrap64 (a1_0 - a0_0)))) + (wrap64 (30 * (wrap64 (a1_1 - a0_1)))))) + 30)) - 30)) 360).bind fun bt452=>(some (bt452.1,bt452.2.1,bt452.2.2))) else ((count_part.f k (wrap64 ((wrap64 ((wrap64 ((wrap64 (360 * (wrap64 (a1_0 - a0_0)))) + (wrap64 (30 * (wrap64 (a1_1 - a0_1)))))) + a1_2)) - 30)) 360).bind fun bt459=>(some (bt459.1,bt459.2.1,bt459.2.2)))) else ((count_part.f k (wrap64 ((wrap64 ((wrap64 ((wrap64 (360 * (wrap64 (a1_0 - a0_0)))) + (wrap64 (30 * (wrap64 (a1_1 - a0_1)))))) + a1_2)) - 30)) 360).bind fun bt466=>(some (bt466.1,bt466.2.1,bt466.2.2)))) else (if a1_2 > 30 then (if a0_2=30 then ((count_part.f k (wrap64 ((wrap64 ((wrap64 ((wrap64 (360 * (wrap64 (a1_0 - a0_0)))) + (wrap64 (30 * (wrap64 (a1_1 - a0_1)))))) + 30)) - a0_2)) 360).bind fun bt473=>(some (bt473.1,bt473.2.1,bt473.2.2))) else ((count_part.f k (wrap64 ((wrap64 ((wrap64 ((wrap64 (360 * (wrap64 (a1_0 - a0_0)))) + (wrap64 (30 * (wrap64 (a1_1 - a0_1)))))) + a1_2)) - a0_2)) 360).bind fun bt480=>(some (bt480.1,bt480.2.1,bt480.2.2)))) else ((count_part.f k (wrap64 ((wrap64 ((wrap64 ((wrap64 (360 * (wrap64 (a1_0 - a0_0)))) + (wrap64 (30 * (wrap64 (a1_1 - a0_1)))))) + a1_2)) - a0_2)) 360).bind fun bt487=>(some (bt487.1,bt487.2.1,bt487.2.2))))
theorem count_thirty.mono : ∀ a0 a1 a2 a3 a4 a5 k,LeO (count_thirty.f k a0 a1 a2 a3 a4 a5) (count_thirty.f (k + 1) a0 a1 a2 a3 a4 a5):=by
  intro a0 a1 a2 a3 a4 a5 k
  unfold count_thirty.f
  repeat' first
      | (with_reducible exact count_part.mono _ _ _)
      | (with_reducible exact LeO.refl _)
      | (with_reducible exact LeO.none _)
      | (with_reducible refine LeO.ite ?_ ?_)
      | (with_reducible refine LeO.bind ?_ (fun _=>?_))
      | exact count_part.mono _ _ _
      | exact LeO.none _
      | refine LeO.ite ?_ ?_
      | refine LeO.bind ?_ (fun _=>?_)
def date_ahead.f (a0:Int):Option (Int):=some (wrap64 ((wrap64 ((wrap64 ((wrap64 (365 * (wrap64 (a0 - 1)))) + (wrap64 (Int.tdiv (wrap64 (a0 - 1)) 4)))) - (wrap64 (Int.tdiv (wrap64 (a0 - 1)) 100)))) + (wrap64 (Int.tdiv (wrap64 (a0 - 1)) 400))))
def date_Number.l0:Nat→Int→Int→Int→Int→Int→Option (Int×Int)
  | 0,_,_,_,_,_=>none
  | k + 1,x5,x6,x495000,x495001,x495002=>if x6 < x495001 then ((date_Days.f k x495000 x6).bind fun t497=>(date_Number.l0 k (wrap64 (x5 + t497)) (wrap64 (x6 + 1)) x495000 x495001 x495002)) else (some (wrap64 (x5 + x495002),0))
def date_Number.f (k:Nat) (a0_0:Int) (a0_1:Int) (a0_2:Int):Option (Int×Int):=(date_Check.f k a0_0 a0_1 a0_2).bind fun t495=>(if t495=0 then ((date_ahead.f a0_0).bind fun t496=>(date_Number.l0 k t496 1 a0_0 a0_1 a0_2)) else (some (0,t495)))
theorem date_Number.mono_l : ∀ k,(∀ y0 y1 y2 y3 y4,LeO (date_Number.l0 k y0 y1 y2 y3 y4) (date_Number.l0 (k + 1) y0 y1 y2 y3 y4))
  | 0=>fun _ _ _ _ _ r h=>by simp [date_Number.l0] at h
  | k + 1=>by
    have ih0:=date_Number.mono_l k
    · intro y0 y1 y2 y3 y4
      unfold date_Number.l0
      repeat' first
      | (with_reducible exact ih0 _ _ _ _ _)
      | (with_reducible exact date_Check.mono _ _ _ _)
      | (with_reducible exact date_Days.mono _ _ _)
      | (with_reducible exact LeO.refl _)
      | (with_reducible exact LeO.none _)
      | (with_reducible refine LeO.ite ?_ ?_)
      | (with_reducible refine LeO.bind ?_ (fun _=>?_))
      | exact ih0 _ _ _ _ _
      | exact date_Check.mono _ _ _ _
      | exact date_Days.mono _ _ _
      | exact LeO.none _
      | refine LeO.ite ?_ ?_
      | refine LeO.bind ?_ (fun _=>?_)
theorem date_Number.mono : ∀ a0 a1 a2 k,LeO (date_Number.f k a0 a1 a2) (date_Number.f (k + 1) a0 a1 a2):=by
  intro a0 a1 a2 k
  have ih0:=date_Number.mono_l k
  unfold date_Number.f
  repeat' first
      | (with_reducible exact ih0 _ _ _ _ _)
      | (with_reducible exact date_Check.mono _ _ _ _)
      | (with_reducible exact date_Days.mono _ _ _)
      | (with_reducible exact LeO.refl _)
      | (with_reducible exact LeO.none _)
      | (with_reducible refine LeO.ite ?_ ?_)
      | (with_reducible refine LeO.bind ?_ (fun _=>?_))
      | exact ih0 _ _ _ _ _
      | exact date_Check.mono _ _ _ _
      | exact date_Days.mono _ _ _
      | exact LeO.none _
      | refine LeO.ite ?_ ?_
      | refine LeO.bind ?_ (fun _=>?_)
def month_Between.f (k:Nat) (a0_0:Int) (a0_1:Int) (a0_2:Int) (a1_0:Int) (a1_1:Int) (a1_2:Int):Option (Int×Int):=(date_Number.f k a0_0 a0_1 a0_2).bind fun bt500=>(if bt500.2=0 then ((date_Number.f k a1_0 a1_1 a1_2).bind fun bt502=>(if bt502.2=0 then (some (wrap64 (bt502.1 - bt500.1),0)) else (some (0,bt502.2)))) else (some (0,bt500.2)))
theorem month_Between.mono : ∀ a0 a1 a2 a3 a4 a5 k,LeO (month_Between.f k a0 a1 a2 a3 a4 a5) (month_Between.f (k + 1) a0 a1 a2 a3 a4 a5):=by
  intro a0 a1 a2 a3 a4 a5 k
  unfold month_Between.f
  repeat' first
      | (with_reducible exact date_Number.mono _ _ _ _)
      | (with_reducible exact LeO.refl _)
      | (with_reducible exact LeO.none _)
      | (with_reducible refine LeO.ite ?_ ?_)
      | (with_reducible refine LeO.bind ?_ (fun _=>?_))
      | exact date_Number.mono _ _ _ _
      | exact LeO.none _
      | refine LeO.ite ?_ ?_
      | refine LeO.bind ?_ (fun _=>?_)
def count_days.f (k:Nat) (a0_0:Int) (a0_1:Int) (a0_2:Int) (a1_0:Int) (a1_1:Int) (a1_2:Int):Option (Int):=(month_Between.f k a0_0 a0_1 a0_2 a1_0 a1_1 a1_2).bind fun bt506=>(some bt506.1)
theorem count_days.mono : ∀ a0 a1 a2 a3 a4 a5 k,LeO (count_days.f k a0 a1 a2 a3 a4 a5) (count_days.f (k + 1) a0 a1 a2 a3 a4 a5):=by
  intro a0 a1 a2 a3 a4 a5 k
  unfold count_days.f
  repeat' first
      | (with_reducible exact month_Between.mono _ _ _ _ _ _ _)
      | (with_reducible exact LeO.refl _)
      | (with_reducible exact LeO.none _)
      | (with_reducible refine LeO.ite ?_ ?_)
      | (with_reducible refine LeO.bind ?_ (fun _=>?_))
      | exact month_Between.mono _ _ _ _ _ _ _
      | exact LeO.none _
      | refine LeO.ite ?_ ?_
      | refine LeO.bind ?_ (fun _=>?_)
def nat_Nat_row.l0:Nat→Int→List Int→Int→List Int→Int→Int→List Int→Option (List Int)
  | 0,_,_,_,_,_,_,_=>none
  | k + 1,x1,x2,x6,x13,x14,x15,x509000=>if x15 < x14 then (if 0≤x15 then (if x15 < (x13.length:Int) then ((bits_Mul64.f x1 (rd x13 x15)).bind fun bt510=>(if x15 < (x2.length:Int) then (nat_Nat_row.l0 k x1 (x2.set (x15:Int).toNat (add64s (rd x2 x15) (add64s bt510.2 x6 0) 0)) (IntKind.u64.wrap ((IntKind.u64.wrap (bt510.1 + (add64c bt510.2 x6 0))) + (add64c (rd x2 x15) (add64s bt510.2 x6 0) 0))) x13 x14 (wrap64 (x15 + 1)) x509000) else (none))) else (none)) else (none)) else (if 0≤(x509000.length:Int) then (if (x509000.length:Int) < (x2.length:Int) then (some (x2.set ((x509000.length:Int):Int).toNat (IntKind.u64.wrap ((rd x2 (x509000.length:Int)) + x6)))) else (none)) else (none))
def nat_Nat_row.f (k:Nat) (l0_0:List Int) (a1:Int) (l2:List Int):Option (List Int):=nat_Nat_row.l0 k a1 l2 0 l0_0 (l0_0.length:Int) 0 l0_0
theorem nat_Nat_row.mono_l : ∀ k,(∀ y0 y1 y2 y3 y4 y5 y6,LeO (nat_Nat_row.l0 k y0 y1 y2 y3 y4 y5 y6) (nat_Nat_row.l0 (k + 1) y0 y1 y2 y3 y4 y5 y6))
  | 0=>fun _ _ _ _ _ _ _ r h=>by simp [nat_Nat_row.l0] at h
  | k + 1=>by
    have ih0:=nat_Nat_row.mono_l k
    · intro y0 y1 y2 y3 y4 y5 y6
      unfold nat_Nat_row.l0
      repeat' first
      | (with_reducible exact ih0 _ _ _ _ _ _ _)
      | (with_reducible exact LeO.refl _)
      | (with_reducible exact LeO.none _)
      | (with_reducible refine LeO.ite ?_ ?_)
      | (with_reducible refine LeO.bind ?_ (fun _=>?_))
      | exact ih0 _ _ _ _ _ _ _
      | exact LeO.none _
      | refine LeO.ite ?_ ?_
      | refine LeO.bind ?_ (fun _=>?_)
theorem nat_Nat_row.mono : ∀ a0 a1 a2 k,LeO (nat_Nat_row.f k a0 a1 a2) (nat_Nat_row.f (k + 1) a0 a1 a2):=by
  intro a0 a1 a2 k
  have ih0:=nat_Nat_row.mono_l k
  unfold nat_Nat_row.f
  repeat' first
      | (with_reducible exact ih0 _ _ _ _ _ _ _)
      | (with_reducible exact LeO.refl _)
      | (with_reducible exact LeO.none _)
      | (with_reducible refine LeO.ite ?_ ?_)
      | (with_reducible refine LeO.bind ?_ (fun _=>?_))
      | exact ih0 _ _ _ _ _ _ _
      | exact LeO.none _
      | refine LeO.ite ?_ ?_
      | refine LeO.bind ?_ (fun _=>?_)
def nat_Nat_rowW.f (k:Nat) (l0_0:List Int) (a1:Int) (l2:List Int) (lo_ hi_:Int):Option (List Int):=if 0≤lo_∧lo_ < hi_∧hi_≤(l2.length:Int) then (nat_Nat_row.f k l0_0 a1 ((l2.take hi_.toNat).drop lo_.toNat)).map (fun r_=>l2.take lo_.toNat ++ r_ ++ l2.drop hi_.toNat) else none
theorem nat_Nat_rowW.mono : ∀ a0 a1 a2 a3 a4 k,LeO (nat_Nat_rowW.f k a0 a1 a2 a3 a4) (nat_Nat_rowW.f (k + 1) a0 a1 a2 a3 a4):=by
  intro a0 a1 a2 a3 a4 k
  unfold nat_Nat_rowW.f
  refine LeO.ite ?_ (LeO.none _)
  intro r hr
  obtain ⟨r',h1,h2⟩:=Option.map_eq_some_iff.mp hr
  exact Option.map_eq_some_iff.mpr ⟨r',nat_Nat_row.mono _ _ _  k r' h1,h2⟩
def nat_Nat_Mul.l0:Nat→List Int→List Int→Int→Int→List Int→Option (List Int)
  | 0,_,_,_,_,_=>none
  | k + 1,x5,x18,x19,x20,x517000=>if x20 < x19 then (if 0≤x20 then (if x20 < (x18.length:Int) then (if x20 < (x5.length:Int) then ((nat_Nat_rowW.f k x517000 (rd x18 x20) x5 x20 (x5.length:Int)).bind fun t523=>(nat_Nat_Mul.l0 k t523 x18 x19 (wrap64 (x20 + 1)) x517000)) else (none)) else (none)) else (none)) else ((nat_trimmed.f k x5).bind fun t524=>(some t524))
def nat_Nat_Mul.f (k:Nat) (l0_0:List Int) (l1_0:List Int):Option (List Int):=if 0≤(wrap64 ((wrap64 ((l0_0.length:Int) + (l1_0.length:Int))) + 1)) then (if (wrap64 ((wrap64 ((l0_0.length:Int) + (l1_0.length:Int))) + 1):Int).toNat≤35184372088832 then (nat_Nat_Mul.l0 k (List.replicate (wrap64 ((wrap64 ((l0_0.length:Int) + (l1_0.length:Int))) + 1):Int).toNat 0) l1_0 (l1_0.length:Int) 0 l0_0) else (none)) else (none)
theorem nat_Nat_Mul.mono_l : ∀ k,(∀ y0 y1 y2 y3 y4,LeO (nat_Nat_Mul.l0 k y0 y1 y2 y3 y4) (nat_Nat_Mul.l0 (k + 1) y0 y1 y2 y3 y4))
  | 0=>fun _ _ _ _ _ r h=>by simp [nat_Nat_Mul.l0] at h
  | k + 1=>by
    have ih0:=nat_Nat_Mul.mono_l k
    · intro y0 y1 y2 y3 y4
      unfold nat_Nat_Mul.l0
      repeat' first
      | (with_reducible exact ih0 _ _ _ _ _)
      | (with_reducible exact nat_Nat_rowW.mono _ _ _ _ _ _)
      | (with_reducible exact nat_trimmed.mono _ _)
      | (with_reducible exact LeO.refl _)
      | (with_reducible exact LeO.none _)
      | (with_reducible refine LeO.ite ?_ ?_)
      | (with_reducible refine LeO.bind ?_ (fun _=>?_))
      | exact ih0 _ _ _ _ _
      | exact nat_Nat_rowW.mono _ _ _ _ _ _
      | exact nat_trimmed.mono _ _
      | exact LeO.none _
      | refine LeO.ite ?_ ?_
      | refine LeO.bind ?_ (fun _=>?_)
theorem nat_Nat_Mul.mono : ∀ a0 a1 k,LeO (nat_Nat_Mul.f k a0 a1) (nat_Nat_Mul.f (k + 1) a0 a1):=by
  intro a0 a1 k
  have ih0:=nat_Nat_Mul.mono_l k
  unfold nat_Nat_Mul.f
  repeat' first
      | (with_reducible exact ih0 _ _ _ _ _)
      | (with_reducible exact nat_Nat_rowW.mono _ _ _ _ _ _)
      | (with_reducible exact nat_trimmed.mono _ _)
      | (with_reducible exact LeO.refl _)
      | (with_reducible exact LeO.none _)
      | (with_reducible refine LeO.ite ?_ ?_)
      | (with_reducible refine LeO.bind ?_ (fun _=>?_))
      | exact ih0 _ _ _ _ _
      | exact nat_Nat_rowW.mono _ _ _ _ _ _
      | exact nat_trimmed.mono _ _
      | exact LeO.none _
      | refine LeO.ite ?_ ?_
      | refine LeO.bind ?_ (fun _=>?_)
def whole_Int_Mul.f (k:Nat) (l0_0:List Int) (a0_1:Bool) (l1_0:List Int) (a1_1:Bool):Option (List Int×Bool):=(nat_Nat_Mul.f k l0_0 l1_0).bind fun t530=>((whole_Of.f t530 (a0_1 != a1_1)).bind fun bt533=>(some (bt533.1,bt533.2)))
theorem whole_Int_Mul.mono : ∀ a0 a1 a2 a3 k,LeO (whole_Int_Mul.f k a0 a1 a2 a3) (whole_Int_Mul.f (k + 1) a0 a1 a2 a3):=by
  intro a0 a1 a2 a3 k
  unfold whole_Int_Mul.f
  repeat' first
      | (with_reducible exact nat_Nat_Mul.mono _ _ _)
      | (with_reducible exact LeO.refl _)
      | (with_reducible exact LeO.none _)
      | (with_reducible refine LeO.ite ?_ ?_)
      | (with_reducible refine LeO.bind ?_ (fun _=>?_))
      | exact nat_Nat_Mul.mono _ _ _
      | exact LeO.none _
      | refine LeO.ite ?_ ?_
      | refine LeO.bind ?_ (fun _=>?_)
def nat_Nat_Add.l0:Nat→List Int→Int→Int→Int→List Int→List Int→Option (List Int)
  | 0,_,_,_,_,_,_=>none
  | k + 1,x5,x6,x18,x19,x538000,x539000=>if x19 < x18 then ((nat_Nat_limb.f x538000 x19).bind fun t543=>((nat_Nat_limb.f x539000 x19).bind fun t544=>(if x6≤1 then (if 0≤x19 then (if x19 < (x5.length:Int) then (nat_Nat_Add.l0 k (x5.set (x19:Int).toNat (add64s t543 t544 x6)) (add64c t543 t544 x6) x18 (wrap64 (x19 + 1)) x538000 x539000) else (none)) else (none)) else (none)))) else ((nat_trimmed.f k x5).bind fun t546=>(some t546))
def nat_Nat_Add.f (k:Nat) (l0_0:List Int) (l1_0:List Int):Option (List Int):=if 0≤(wrap64 ((mx (l0_0.length:Int) (l1_0.length:Int)) + 1)) then (if (wrap64 ((mx (l0_0.length:Int) (l1_0.length:Int)) + 1):Int).toNat≤35184372088832 then ((some (List.replicate (wrap64 ((mx (l0_0.length:Int) (l1_0.length:Int)) + 1):Int).toNat 0:List Int)).bind fun y540=>(nat_Nat_Add.l0 k y540 0 (y540.length:Int) 0 l0_0 l1_0)) else (none)) else (none)
theorem nat_Nat_Add.mono_l : ∀ k,(∀ y0 y1 y2 y3 y4 y5,LeO (nat_Nat_Add.l0 k y0 y1 y2 y3 y4 y5) (nat_Nat_Add.l0 (k + 1) y0 y1 y2 y3 y4 y5))
  | 0=>fun _ _ _ _ _ _ r h=>by simp [nat_Nat_Add.l0] at h
  | k + 1=>by
    have ih0:=nat_Nat_Add.mono_l k
    · intro y0 y1 y2 y3 y4 y5
      unfold nat_Nat_Add.l0
      repeat' first
      | (with_reducible exact ih0 _ _ _ _ _ _)
      | (with_reducible exact nat_trimmed.mono _ _)
      | (with_reducible exact LeO.refl _)
      | (with_reducible exact LeO.none _)
      | (with_reducible refine LeO.ite ?_ ?_)
      | (with_reducible refine LeO.bind ?_ (fun _=>?_))
      | exact ih0 _ _ _ _ _ _
      | exact nat_trimmed.mono _ _
      | exact LeO.none _
      | refine LeO.ite ?_ ?_
      | refine LeO.bind ?_ (fun _=>?_)
theorem nat_Nat_Add.mono : ∀ a0 a1 k,LeO (nat_Nat_Add.f k a0 a1) (nat_Nat_Add.f (k + 1) a0 a1):=by
  intro a0 a1 k
  have ih0:=nat_Nat_Add.mono_l k
  unfold nat_Nat_Add.f
  repeat' first
      | (with_reducible exact ih0 _ _ _ _ _ _)
      | (with_reducible exact nat_trimmed.mono _ _)
      | (with_reducible exact LeO.refl _)
      | (with_reducible exact LeO.none _)
      | (with_reducible refine LeO.ite ?_ ?_)
      | (with_reducible refine LeO.bind ?_ (fun _=>?_))
      | exact ih0 _ _ _ _ _ _
      | exact nat_trimmed.mono _ _
      | exact LeO.none _
      | refine LeO.ite ?_ ?_
      | refine LeO.bind ?_ (fun _=>?_)
def frac_Frac_Den.f (k:Nat) (l0_0:List Int) (a0_1:Bool) (l0_2:List Int):Option (List Int):=(nat_Of.f k (([1]:List Int))).bind fun t554=>((nat_Nat_Add.f k l0_2 t554).bind fun t557=>(some t557))
theorem frac_Frac_Den.mono : ∀ a0 a1 a2 k,LeO (frac_Frac_Den.f k a0 a1 a2) (frac_Frac_Den.f (k + 1) a0 a1 a2):=by
  intro a0 a1 a2 k
  unfold frac_Frac_Den.f
  repeat' first
      | (with_reducible exact nat_Nat_Add.mono _ _ _)
      | (with_reducible exact nat_Of.mono _ _)
      | (with_reducible exact LeO.refl _)
      | (with_reducible exact LeO.none _)
      | (with_reducible refine LeO.ite ?_ ?_)
      | (with_reducible refine LeO.bind ?_ (fun _=>?_))
      | exact nat_Nat_Add.mono _ _ _
      | exact nat_Of.mono _ _
      | exact LeO.none _
      | refine LeO.ite ?_ ?_
      | refine LeO.bind ?_ (fun _=>?_)
def frac_Frac_den.f (k:Nat) (l0_0:List Int) (a0_1:Bool) (l0_2:List Int):Option (List Int×Bool):=(frac_Frac_Den.f k l0_0 a0_1 l0_2).bind fun t562=>((whole_Of.f t562 false).bind fun bt565=>(some (bt565.1,bt565.2)))
theorem frac_Frac_den.mono : ∀ a0 a1 a2 k,LeO (frac_Frac_den.f k a0 a1 a2) (frac_Frac_den.f (k + 1) a0 a1 a2):=by
  intro a0 a1 a2 k
  unfold frac_Frac_den.f
  repeat' first
      | (with_reducible exact frac_Frac_Den.mono _ _ _ _)
      | (with_reducible exact LeO.refl _)
      | (with_reducible exact LeO.none _)
      | (with_reducible refine LeO.ite ?_ ?_)
      | (with_reducible refine LeO.bind ?_ (fun _=>?_))
      | exact frac_Frac_Den.mono _ _ _ _
      | exact LeO.none _
      | refine LeO.ite ?_ ?_
      | refine LeO.bind ?_ (fun _=>?_)
def whole_Int_Add.f (k:Nat) (l0_0:List Int) (a0_1:Bool) (l1_0:List Int) (a1_1:Bool):Option (List Int×Bool):=if (a0_1 == a1_1)=true then ((nat_Nat_Add.f k l0_0 l1_0).bind fun t572=>((whole_Of.f t572 a0_1).bind fun bt575=>(some (bt575.1,bt575.2)))) else ((nat_Nat_Sub.f k l0_0 l1_0).bind fun bt579=>(if bt579.2=true then ((whole_Of.f bt579.1 a0_1).bind fun bt584=>(some (bt584.1,bt584.2))) else ((nat_Nat_Sub.f k l1_0 l0_0).bind fun bt588=>((whole_Of.f bt588.1 a1_1).bind fun bt593=>(some (bt593.1,bt593.2))))))
theorem whole_Int_Add.mono : ∀ a0 a1 a2 a3 k,LeO (whole_Int_Add.f k a0 a1 a2 a3) (whole_Int_Add.f (k + 1) a0 a1 a2 a3):=by
  intro a0 a1 a2 a3 k
  unfold whole_Int_Add.f
  repeat' first
      | (with_reducible exact nat_Nat_Add.mono _ _ _)
      | (with_reducible exact nat_Nat_Sub.mono _ _ _)
      | (with_reducible exact LeO.refl _)
      | (with_reducible exact LeO.none _)
      | (with_reducible refine LeO.ite ?_ ?_)
      | (with_reducible refine LeO.bind ?_ (fun _=>?_))
      | exact nat_Nat_Add.mono _ _ _
      | exact nat_Nat_Sub.mono _ _ _
      | exact LeO.none _
      | refine LeO.ite ?_ ?_
      | refine LeO.bind ?_ (fun _=>?_)
def frac_Frac_Add.f (k:Nat) (l0_0:List Int) (a0_1:Bool) (l0_2:List Int) (l1_0:List Int) (a1_1:Bool) (l1_2:List Int):Option (List Int×Bool×List Int):=(frac_Frac_den.f k l1_0 a1_1 l1_2).bind fun bt600=>((whole_Int_Mul.f k l0_0 a0_1 bt600.1 bt600.2).bind fun bt604=>((frac_Frac_den.f k l0_0 a0_1 l0_2).bind fun bt608=>((whole_Int_Mul.f k l1_0 a1_1 bt608.1 bt608.2).bind fun bt612=>((whole_Int_Add.f k bt604.1 bt604.2 bt612.1 bt612.2).bind fun bt616=>((frac_Frac_Den.f k l0_0 a0_1 l0_2).bind fun t620=>((frac_Frac_Den.f k l1_0 a1_1 l1_2).bind fun t623=>((nat_Nat_Mul.f k t620 t623).bind fun t626=>((frac_made.f k bt616.1 bt616.2 t626).bind fun bt629=>(some (bt629.1,bt629.2.1,bt629.2.2))))))))))
theorem frac_Frac_Add.mono : ∀ a0 a1 a2 a3 a4 a5 k,LeO (frac_Frac_Add.f k a0 a1 a2 a3 a4 a5) (frac_Frac_Add.f (k + 1) a0 a1 a2 a3 a4 a5):=by
  intro a0 a1 a2 a3 a4 a5 k
  unfold frac_Frac_Add.f
  repeat' first
      | (with_reducible exact frac_Frac_Den.mono _ _ _ _)
      | (with_reducible exact frac_Frac_den.mono _ _ _ _)
      | (with_reducible exact frac_made.mono _ _ _ _)
      | (with_reducible exact nat_Nat_Mul.mono _ _ _)
      | (with_reducible exact whole_Int_Add.mono _ _ _ _ _)
      | (with_reducible exact whole_Int_Mul.mono _ _ _ _ _)
      | (with_reducible exact LeO.refl _)
      | (with_reducible exact LeO.none _)
      | (with_reducible refine LeO.ite ?_ ?_)
      | (with_reducible refine LeO.bind ?_ (fun _=>?_))
      | exact frac_Frac_Den.mono _ _ _ _
      | exact frac_Frac_den.mono _ _ _ _
      | exact frac_made.mono _ _ _ _
      | exact nat_Nat_Mul.mono _ _ _
      | exact whole_Int_Add.mono _ _ _ _ _
      | exact whole_Int_Mul.mono _ _ _ _ _
      | exact LeO.none _
      | refine LeO.ite ?_ ?_
      | refine LeO.bind ?_ (fun _=>?_)
def count_year.f (a0:Int):Option (Int):=(date_Leap.f a0).bind fun t636=>(if t636=true then (some 366) else (some 365))
def count_actual.f (k:Nat) (a0_0:Int) (a0_1:Int) (a0_2:Int) (a1_0:Int) (a1_1:Int) (a1_2:Int):Option (List Int×Bool×List Int):=if a0_0=a1_0 then ((count_days.f k a0_0 a0_1 a0_2 a1_0 a1_1 a1_2).bind fun t640=>((count_year.f a0_0).bind fun t641=>((count_part.f k t640 t641).bind fun bt642=>(some (bt642.1,bt642.2.1,bt642.2.2))))) else ((count_days.f k a0_0 a0_1 a0_2 a0_0 12 31).bind fun t649=>((count_days.f k a1_0 1 1 a1_0 a1_1 a1_2).bind fun t650=>((count_year.f a0_0).bind fun t651=>((count_part.f k (wrap64 (t649 + 1)) t651).bind fun bt652=>((count_part.f k (wrap64 ((wrap64 (a1_0 - a0_0)) - 1)) 1).bind fun bt659=>((frac_Frac_Add.f k bt652.1 bt652.2.1 bt652.2.2 bt659.1 bt659.2.1 bt659.2.2).bind fun bt666=>((count_year.f a1_0).bind fun t673=>((count_part.f k t650 t673).bind fun bt674=>((frac_Frac_Add.f k bt666.1 bt666.2.1 bt666.2.2 bt674.1 bt674.2.1 bt674.2.2).bind fun bt681=>(some (bt681.1,bt681.2.1,bt681.2.2)))))))))))
theorem count_actual.mono : ∀ a0 a1 a2 a3 a4 a5 k,LeO (count_actual.f k a0 a1 a2 a3 a4 a5) (count_actual.f (k + 1) a0 a1 a2 a3 a4 a5):=by
  intro a0 a1 a2 a3 a4 a5 k
  unfold count_actual.f
  repeat' first
      | (with_reducible exact count_days.mono _ _ _ _ _ _ _)
      | (with_reducible exact count_part.mono _ _ _)
      | (with_reducible exact frac_Frac_Add.mono _ _ _ _ _ _ _)
      | (with_reducible exact LeO.refl _)
      | (with_reducible exact LeO.none _)
      | (with_reducible refine LeO.ite ?_ ?_)
      | (with_reducible refine LeO.bind ?_ (fun _=>?_))
      | exact count_days.mono _ _ _ _ _ _ _
      | exact count_part.mono _ _ _
      | exact frac_Frac_Add.mono _ _ _ _ _ _ _
      | exact LeO.none _
      | refine LeO.ite ?_ ?_
      | refine LeO.bind ?_ (fun _=>?_)
def count_Year.j0:Nat→Int→Bool→Int→Int→Int→Int→Int→Int→Option (List Int×Bool×List Int×Int)
  | 0,_,_,_,_,_,_,_,_=>none
  | k + 1,x0,x13,x689000,x689001,x689002,x690000,x690001,x690002=>if x13=true then (some (([]:List Int),false,([]:List Int),11)) else ((date_Cmp.f k x689000 x689001 x689002 x690000 x690001 x690002).bind fun t694=>(if t694 > 0 then (some (([]:List Int),false,([]:List Int),12)) else (if x0=0 then ((count_thirty.f k x689000 x689001 x689002 x690000 x690001 x690002).bind fun bt695=>(some (bt695.1,bt695.2.1,bt695.2.2,0))) else (if x0=1 then ((count_days.f k x689000 x689001 x689002 x690000 x690001 x690002).bind fun t702=>((count_part.f k t702 365).bind fun bt703=>(some (bt703.1,bt703.2.1,bt703.2.2,0)))) else ((count_actual.f k x689000 x689001 x689002 x690000 x690001 x690002).bind fun bt710=>(some (bt710.1,bt710.2.1,bt710.2.2,0)))))))
def count_Year.f (k:Nat) (a0:Int) (a1_0:Int) (a1_1:Int) (a1_2:Int) (a2_0:Int) (a2_1:Int) (a2_2:Int):Option (List Int×Bool×List Int×Int):=(count_Basis_good.f a0).bind fun t691=>(if t691=true then ((date_Check.f k a1_0 a1_1 a1_2).bind fun t692=>(if t692=0 then ((date_Check.f k a2_0 a2_1 a2_2).bind fun t693=>(count_Year.j0 k a0 (t693 != 0) a1_0 a1_1 a1_2 a2_0 a2_1 a2_2)) else (count_Year.j0 k a0 true a1_0 a1_1 a1_2 a2_0 a2_1 a2_2))) else (some (([]:List Int),false,([]:List Int),2)))
theorem count_Year.mono_l : ∀ k,(∀ y0 y1 y2 y3 y4 y5 y6 y7,LeO (count_Year.j0 k y0 y1 y2 y3 y4 y5 y6 y7) (count_Year.j0 (k + 1) y0 y1 y2 y3 y4 y5 y6 y7))
  | 0=>fun _ _ _ _ _ _ _ _ r h=>by simp [count_Year.j0] at h
  | k + 1=>by
    have ih0:=count_Year.mono_l k
    · intro y0 y1 y2 y3 y4 y5 y6 y7
      unfold count_Year.j0
      repeat' first
      | (with_reducible exact ih0 _ _ _ _ _ _ _ _)
      | (with_reducible exact count_actual.mono _ _ _ _ _ _ _)
      | (with_reducible exact count_days.mono _ _ _ _ _ _ _)
      | (with_reducible exact count_part.mono _ _ _)
      | (with_reducible exact count_thirty.mono _ _ _ _ _ _ _)
      | (with_reducible exact date_Check.mono _ _ _ _)
      | (with_reducible exact date_Cmp.mono _ _ _ _ _ _ _)
      | (with_reducible exact LeO.refl _)
      | (with_reducible exact LeO.none _)
      | (with_reducible refine LeO.ite ?_ ?_)
      | (with_reducible refine LeO.bind ?_ (fun _=>?_))
      | exact ih0 _ _ _ _ _ _ _ _
      | exact count_actual.mono _ _ _ _ _ _ _
      | exact count_days.mono _ _ _ _ _ _ _
      | exact count_part.mono _ _ _
      | exact count_thirty.mono _ _ _ _ _ _ _
      | exact date_Check.mono _ _ _ _
      | exact date_Cmp.mono _ _ _ _ _ _ _
      | exact LeO.none _
      | refine LeO.ite ?_ ?_
      | refine LeO.bind ?_ (fun _=>?_)
theorem count_Year.mono : ∀ a0 a1 a2 a3 a4 a5 a6 k,LeO (count_Year.f k a0 a1 a2 a3 a4 a5 a6) (count_Year.f (k + 1) a0 a1 a2 a3 a4 a5 a6):=by
  intro a0 a1 a2 a3 a4 a5 a6 k
  have ih0:=count_Year.mono_l k
  unfold count_Year.f
  repeat' first
      | (with_reducible exact ih0 _ _ _ _ _ _ _ _)
      | (with_reducible exact count_actual.mono _ _ _ _ _ _ _)
      | (with_reducible exact count_days.mono _ _ _ _ _ _ _)
      | (with_reducible exact count_part.mono _ _ _)
      | (with_reducible exact count_thirty.mono _ _ _ _ _ _ _)
      | (with_reducible exact date_Check.mono _ _ _ _)
      | (with_reducible exact date_Cmp.mono _ _ _ _ _ _ _)
      | (with_reducible exact LeO.refl _)
      | (with_reducible exact LeO.none _)
      | (with_reducible refine LeO.ite ?_ ?_)
      | (with_reducible refine LeO.bind ?_ (fun _=>?_))
      | exact ih0 _ _ _ _ _ _ _ _
      | exact count_actual.mono _ _ _ _ _ _ _
      | exact count_days.mono _ _ _ _ _ _ _
      | exact count_part.mono _ _ _
      | exact count_thirty.mono _ _ _ _ _ _ _
      | exact date_Check.mono _ _ _ _
      | exact date_Cmp.mono _ _ _ _ _ _ _
      | exact LeO.none _
      | refine LeO.ite ?_ ?_
      | refine LeO.bind ?_ (fun _=>?_)
def digits_small.l0:Nat→Int→Int→List Int→Option (List Int)
  | 0,_,_,_=>none
  | k + 1,n,m,acc=>if 0 < n∨(acc.length:Int) < m then (if acc.length < 20 then digits_small.l0 k (n / 10) m ((48 + n % 10) :: acc) else none) else some acc
def digits_small.f (a0 a1:Int):Option ByteArray:=if 0≤a0∧a0 < 18446744073709551616 then (digits_small.l0 21 a0 a1 []).map strOfNums else none
def digits_small.cells (acc:List Int):Array Value:=((List.replicate (20 - acc.length) (Value.int .u8 0)) ++ acc.map (Value.int .u8)).toArray
def digits_joined.go (l:List ByteArray) (n:Nat):List UInt8:=((l.drop n).reverse.map fun b=>b.data.toList).flatten
def digits_joined.f (l:List ByteArray):Option ByteArray:=if l.length < 4611686018427387904∧(digits_joined.go l 0).length≤140737488355328 then some ⟨(digits_joined.go l 0).toArray⟩ else none
theorem digits_joined.told {l:List ByteArray} {r:ByteArray} (h:digits_joined.f l=some r):l.length < 4611686018427387904∧(digits_joined.go l 0).length≤140737488355328∧r=⟨(digits_joined.go l 0).toArray⟩:=by
  unfold digits_joined.f at h
  split at h
  · next c=>exact ⟨c.1,c.2,(Option.some.inj h).symm⟩
  · cases h
theorem digits_joined.end_ (l:List ByteArray):digits_joined.go l l.length = []:=by simp [digits_joined.go]
theorem digits_joined.step (l:List ByteArray) (n:Nat) (h:n < l.length):digits_joined.go l n=digits_joined.go l (n + 1) ++ (rdOf ByteArray.empty l (n:Int)).data.toList:=by
  unfold digits_joined.go rdOf
  rw [List.drop_eq_getElem_cons h,List.reverse_cons,List.map_append,List.flatten_append,Int.toNat_natCast,List.getD_eq_getElem?_getD,List.getElem?_eq_getElem h]
  simp
theorem digits_joined.mono_len (l:List ByteArray) (n:Nat):(digits_joined.go l n).length≤(digits_joined.go l 0).length:=by
  induction n with
  | zero=>exact Nat.le_refl _
  | succ n ih =>
    rcases Nat.lt_or_ge n l.length with h|h
    · have:=digits_joined.step l n h
      rw [this,List.length_append] at ih
      omega
    · unfold digits_joined.go
      rw [List.drop_eq_nil_of_le (by omega)]
      simp
theorem digits_joined.fits {l:List ByteArray} {n:Nat} (h:n < l.length) (hb:(digits_joined.go l 0).length≤140737488355328):(digits_joined.go l (n + 1)).length + (rdOf ByteArray.empty l (n:Int)).size≤140737488355328:=by
  have h1:=digits_joined.mono_len l n
  rw [digits_joined.step l n h,List.length_append] at h1
  have h2:(rdOf ByteArray.empty l (n:Int)).data.toList.length=(rdOf ByteArray.empty l (n:Int)).size:=rfl
  omega
mutual
def digits_Print.l0:Nat→List ByteArray→List Int→Option (ByteArray)
  | 0,_,_=>none
  | k + 1,x3,x718000=>(nat_Nat_Zero.f x718000).bind fun t719=>(if t719=true then ((digits_joined.f x3).bind fun t720=>(some t720)) else ((nat_Of.f k (([1000000000000000000]:List Int))).bind fun t724=>((quot_Div.f k x718000 t724).bind fun bt727=>((nat_Nat_Limbs.f bt727.2.1).bind fun t736=>(digits_Print.l1 k x3 0 t736 (t736.length:Int) 0 bt727.1)))))
def digits_Print.l1:Nat→List ByteArray→Int→List Int→Int→Int→List Int→Option (ByteArray)
  | 0,_,_,_,_,_,_=>none
  | k + 1,x3,x7,x27,x28,x29,x735000=>if x29 < x28 then (if 0≤x29 then (if x29 < (x27.length:Int) then (digits_Print.l1 k x3 (rd x27 x29) x27 x28 (wrap64 (x29 + 1)) x735000) else (none)) else (none)) else ((nat_Nat_Zero.f x735000).bind fun t740=>(if t740=true then ((digits_small.f x7 1).bind fun t741=>(if x3.length < 8796093022208 then (digits_Print.l0 k (x3 ++ [t741]) x735000) else (none))) else ((digits_small.f x7 18).bind fun t745=>(if x3.length < 8796093022208 then (digits_Print.l0 k (x3 ++ [t745]) x735000) else (none)))))
end
def digits_Print.f (k:Nat) (l0_0:List Int):Option (ByteArray):=(nat_Nat_Zero.f l0_0).bind fun t718=>(if t718=true then (some (⟨#[48]⟩:ByteArray)) else (digits_Print.l0 k ([]:List ByteArray) l0_0))
theorem digits_Print.mono_l : ∀ k,(∀ y0 y1,LeO (digits_Print.l0 k y0 y1) (digits_Print.l0 (k + 1) y0 y1))∧(∀ y0 y1 y2 y3 y4 y5,LeO (digits_Print.l1 k y0 y1 y2 y3 y4 y5) (digits_Print.l1 (k + 1) y0 y1 y2 y3 y4 y5))
  | 0=>⟨fun _ _ r h=>by simp [digits_Print.l0] at h,fun _ _ _ _ _ _ r h=>by simp [digits_Print.l1] at h⟩
  | k + 1=>by
    obtain ⟨ih0,ih1⟩:=digits_Print.mono_l k
    refine ⟨?_,?_⟩
    · intro y0 y1
      unfold digits_Print.l0
      repeat' first
      | (with_reducible exact ih0 _ _)
      | (with_reducible exact ih1 _ _ _ _ _ _)
      | (with_reducible exact nat_Of.mono _ _)
      | (with_reducible exact quot_Div.mono _ _ _)
      | (with_reducible exact LeO.refl _)
      | (with_reducible exact LeO.none _)
      | (with_reducible refine LeO.ite ?_ ?_)
      | (with_reducible refine LeO.bind ?_ (fun _=>?_))
      | exact ih0 _ _
      | exact ih1 _ _ _ _ _ _
      | exact nat_Of.mono _ _
      | exact quot_Div.mono _ _ _
      | exact LeO.none _
      | refine LeO.ite ?_ ?_
      | refine LeO.bind ?_ (fun _=>?_)
    · intro y0 y1 y2 y3 y4 y5
      unfold digits_Print.l1
      repeat' first
      | (with_reducible exact ih0 _ _)
      | (with_reducible exact ih1 _ _ _ _ _ _)
      | (with_reducible exact nat_Of.mono _ _)
      | (with_reducible exact quot_Div.mono _ _ _)
      | (with_reducible exact LeO.refl _)
      | (with_reducible exact LeO.none _)
      | (with_reducible refine LeO.ite ?_ ?_)
      | (with_reducible refine LeO.bind ?_ (fun _=>?_))
      | exact ih0 _ _
      | exact ih1 _ _ _ _ _ _
      | exact nat_Of.mono _ _
      | exact quot_Div.mono _ _ _
      | exact LeO.none _
      | refine LeO.ite ?_ ?_
      | refine LeO.bind ?_ (fun _=>?_)
theorem digits_Print.mono : ∀ a0 k,LeO (digits_Print.f k a0) (digits_Print.f (k + 1) a0):=by
  intro a0 k
  obtain ⟨ih0,ih1⟩:=digits_Print.mono_l k
  unfold digits_Print.f
  repeat' first
      | (with_reducible exact ih0 _ _)
      | (with_reducible exact ih1 _ _ _ _ _ _)
      | (with_reducible exact nat_Of.mono _ _)
      | (with_reducible exact quot_Div.mono _ _ _)
      | (with_reducible exact LeO.refl _)
      | (with_reducible exact LeO.none _)
      | (with_reducible refine LeO.ite ?_ ?_)
      | (with_reducible refine LeO.bind ?_ (fun _=>?_))
      | exact ih0 _ _
      | exact ih1 _ _ _ _ _ _
      | exact nat_Of.mono _ _
      | exact quot_Div.mono _ _ _
      | exact LeO.none _
      | refine LeO.ite ?_ ?_
      | refine LeO.bind ?_ (fun _=>?_)
def whole_Int_Print.f (k:Nat) (l0_0:List Int) (a0_1:Bool):Option (ByteArray):=if a0_1=true then ((digits_Print.f k l0_0).bind fun t750=>(if 1 + t750.size≤9223372036854775807 then (some ((⟨#[45]⟩:ByteArray) ++ t750)) else (none))) else ((digits_Print.f k l0_0).bind fun t751=>(some t751))
theorem whole_Int_Print.mono : ∀ a0 a1 k,LeO (whole_Int_Print.f k a0 a1) (whole_Int_Print.f (k + 1) a0 a1):=by
  intro a0 a1 k
  unfold whole_Int_Print.f
  repeat' first
      | (with_reducible exact digits_Print.mono _ _)
      | (with_reducible exact LeO.refl _)
      | (with_reducible exact LeO.none _)
      | (with_reducible refine LeO.ite ?_ ?_)
      | (with_reducible refine LeO.bind ?_ (fun _=>?_))
      | exact digits_Print.mono _ _
      | exact LeO.none _
      | refine LeO.ite ?_ ?_
      | refine LeO.bind ?_ (fun _=>?_)
def frac_Frac_Print.f (k:Nat) (l0_0:List Int) (a0_1:Bool) (l0_2:List Int):Option (ByteArray):=(nat_Nat_Zero.f l0_2).bind fun t753=>(if t753=true then ((whole_Int_Print.f k l0_0 a0_1).bind fun t754=>(some t754)) else ((whole_Int_Print.f k l0_0 a0_1).bind fun t755=>(if t755.size + 1≤9223372036854775807 then ((frac_Frac_Den.f k l0_0 a0_1 l0_2).bind fun t756=>((digits_Print.f k t756).bind fun t759=>(if (t755 ++ (⟨#[47]⟩:ByteArray)).size + t759.size≤9223372036854775807 then (some ((t755 ++ (⟨#[47]⟩:ByteArray)) ++ t759)) else (none)))) else (none))))
theorem frac_Frac_Print.mono : ∀ a0 a1 a2 k,LeO (frac_Frac_Print.f k a0 a1 a2) (frac_Frac_Print.f (k + 1) a0 a1 a2):=by
  intro a0 a1 a2 k
  unfold frac_Frac_Print.f
  repeat' first
      | (with_reducible exact digits_Print.mono _ _)
      | (with_reducible exact frac_Frac_Den.mono _ _ _ _)
      | (with_reducible exact whole_Int_Print.mono _ _ _)
      | (with_reducible exact LeO.refl _)
      | (with_reducible exact LeO.none _)
      | (with_reducible refine LeO.ite ?_ ?_)
      | (with_reducible refine LeO.bind ?_ (fun _=>?_))
      | exact digits_Print.mono _ _
      | exact frac_Frac_Den.mono _ _ _ _
      | exact whole_Int_Print.mono _ _ _
      | exact LeO.none _
      | refine LeO.ite ?_ ?_
      | refine LeO.bind ?_ (fun _=>?_)
def chattellaw11_wakes.f (k:Nat):Option (Bool):=(count_Year.f k 0 2024 1 31 2024 3 1).bind fun bt762=>((count_Year.f k 1 2024 1 31 2024 3 1).bind fun bt771=>((count_Year.f k 2 2024 1 31 2024 3 1).bind fun bt780=>((count_Year.f k 1 2024 3 1 2024 1 31).bind fun bt789=>((count_Year.f k 3 2024 1 31 2024 3 1).bind fun bt798=>(if bt762.2.2.2=0 then ((frac_Frac_Print.f k bt762.1 bt762.2.1 bt762.2.2.1).bind fun t807=>(if t807.toList=([51,49,47,51,54,48]:List UInt8) then (if bt771.2.2.2=0 then ((frac_Frac_Print.f k bt771.1 bt771.2.1 bt771.2.2.1).bind fun t808=>(if t808.toList=([54,47,55,51]:List UInt8) then (if bt780.2.2.2=0 then ((frac_Frac_Print.f k bt780.1 bt780.2.1 bt780.2.2.1).bind fun t809=>(if t809.toList=([53,47,54,49]:List UInt8) then (if bt789.2.2.2=12 then (if bt798.2.2.2=2 then ((count_Basis_Word.f 2).bind fun t810=>(some (t810.toList == ([97,99,116,117,97,108]:List UInt8)))) else (some false)) else (some false)) else (some false))) else (some false)) else (some false))) else (some false)) else (some false))) else (some false))))))
theorem chattellaw11_wakes.mono : ∀ k,LeO (chattellaw11_wakes.f k) (chattellaw11_wakes.f (k + 1)):=by
  intro  k
  unfold chattellaw11_wakes.f
  repeat' first
      | (with_reducible exact count_Year.mono _ _ _ _ _ _ _ _)
      | (with_reducible exact frac_Frac_Print.mono _ _ _ _)
      | (with_reducible exact LeO.refl _)
      | (with_reducible exact LeO.none _)
      | (with_reducible refine LeO.ite ?_ ?_)
      | (with_reducible refine LeO.bind ?_ (fun _=>?_))
      | exact count_Year.mono _ _ _ _ _ _ _ _
      | exact frac_Frac_Print.mono _ _ _ _
      | exact LeO.none _
      | refine LeO.ite ?_ ?_
      | refine LeO.bind ?_ (fun _=>?_)
def chattelref09_Leap.j0:Nat→Int→Bool→Option (Bool)
  | 0,_,_=>none
  | k + 1,x0,x8=>if x8=true then (some false) else (if (Int.tmod x0 400)=0 then (some true) else (if (Int.tmod x0 4)=0 then (some ((Int.tmod x0 100) != 0)) else (some false)))
def chattelref09_Leap.f (k:Nat) (a0:Int):Option (Bool):=if a0 < 1 then (chattelref09_Leap.j0 k a0 true) else (chattelref09_Leap.j0 k a0 (decide (a0 > 9999)))
def chattelref09_Days.j0:Nat→Int→Int→Bool→Option (Int)
  | 0,_,_,_=>none
  | k + 1,x0,x1,x19=>if x19=true then (some 0) else (if x1=2 then ((chattelref09_Leap.f k x0).bind fun t823=>(if t823=true then (some 29) else (some 28))) else (if x1=4 then (some 30) else (if x1=6 then (some 30) else (if x1=9 then (some 30) else (if x1=11 then (some 30) else (some 31))))))
def chattelref09_Days.f (k:Nat) (a0:Int) (a1:Int):Option (Int):=if a0 < 1 then (chattelref09_Days.j0 k a0 a1 true) else (if a0 > 9999 then (chattelref09_Days.j0 k a0 a1 true) else (if a1 < 1 then (chattelref09_Days.j0 k a0 a1 true) else (chattelref09_Days.j0 k a0 a1 (decide (a1 > 12)))))
def chattelref09_Make.j0:Nat→Int→Int→Int→Int→Option (Int×Int×Int)
  | 0,_,_,_,_=>none
  | k + 1,x5,x825000,x825001,x825002=>if (Int.tmod x825001 12) < 0 then ((chattelref09_Days.f k (wrap64 (x5 + 1)) (wrap64 ((wrap64 ((Int.tmod x825001 12) + 12)) + 1))).bind fun t826=>(if t826=0 then (none) else (if (Int.tmod x825002 t826) < 0 then (some (wrap64 (x5 + 1),wrap64 ((wrap64 ((Int.tmod x825001 12) + 12)) + 1),wrap64 ((wrap64 ((Int.tmod x825002 t826) + t826)) + 1))) else (some (wrap64 (x5 + 1),wrap64 ((wrap64 ((Int.tmod x825001 12) + 12)) + 1),wrap64 ((Int.tmod x825002 t826) + 1)))))) else ((chattelref09_Days.f k (wrap64 (x5 + 1)) (wrap64 ((Int.tmod x825001 12) + 1))).bind fun t827=>(if t827=0 then (none) else (if (Int.tmod x825002 t827) < 0 then (some (wrap64 (x5 + 1),wrap64 ((Int.tmod x825001 12) + 1),wrap64 ((wrap64 ((Int.tmod x825002 t827) + t827)) + 1))) else (some (wrap64 (x5 + 1),wrap64 ((Int.tmod x825001 12) + 1),wrap64 ((Int.tmod x825002 t827) + 1))))))
def chattelref09_Make.f (k:Nat) (a0_0:Int) (a0_1:Int) (a0_2:Int) (a1:Int):Option (Int×Int×Int):=if a1=0 then (none) else (if (Int.tmod a0_0 a1) < 0 then (chattelref09_Make.j0 k (wrap64 ((Int.tmod a0_0 a1) + a1)) a0_0 a0_1 a0_2) else (chattelref09_Make.j0 k (Int.tmod a0_0 a1) a0_0 a0_1 a0_2))
def chattelref09_Cmp.l0:Nat→List Int→List Int→Int→Option (Int)
  | 0,_,_,_=>none
  | k + 1,x5,x6,x7=>if x7 < 3 then (if 0≤x7 then (if x7 < (x5.length:Int) then (if x7 < (x6.length:Int) then (if (rd x5 x7) < (rd x6 x7) then (some (-1)) else (if (rd x5 x7) > (rd x6 x7) then (some 1) else (chattelref09_Cmp.l0 k x5 x6 (wrap64 (x7 + 1))))) else (none)) else (none)) else (none)) else (some 0)
def chattelref09_Cmp.f (k:Nat) (a0_0:Int) (a0_1:Int) (a0_2:Int) (a1_0:Int) (a1_1:Int) (a1_2:Int):Option (Int):=chattelref09_Cmp.l0 k (([a0_0,a0_1,a0_2]:List Int)) (([a1_0,a1_1,a1_2]:List Int)) 0
def chattellaw11_near.f (k:Nat) (a0_0:Int) (a0_1:Int) (a0_2:Int) (a1_0:Int) (a1_1:Int) (a1_2:Int):Option (Int×Int×Int×Int×Int×Int):=(chattelref09_Make.f k a0_0 a0_1 a0_2 9980).bind fun bt844=>((chattelref09_Make.f k a1_0 a1_1 a1_2 12).bind fun bt848=>((chattelref09_Days.f k (wrap64 (bt848.1 + bt844.1)) bt848.2.1).bind fun t852=>((chattelref09_Cmp.f k bt844.1 bt844.2.1 bt844.2.2 (wrap64 (bt848.1 + bt844.1)) bt848.2.1 (mn bt848.2.2 t852)).bind fun t853=>(if t853 > 0 then (some (wrap64 (bt848.1 + bt844.1),bt848.2.1,mn bt848.2.2 t852,bt844.1,bt844.2.1,bt844.2.2)) else (some (bt844.1,bt844.2.1,bt844.2.2,wrap64 (bt848.1 + bt844.1),bt848.2.1,mn bt848.2.2 t852))))))
mutual
def date_Of.j0:Nat→Int→Bool→Option (Int×Int×Int×Int)
  | 0,_,_=>none
  | k + 1,x0,x10=>if x10=true then (some (0,0,0,11)) else (date_Of.l0 k x0 (mn (wrap64 ((wrap64 (Int.tdiv (wrap64 (x0 * 400)) 146097)) + 1)) 9999) 1 0)
def date_Of.l0:Nat→Int→Int→Int→Int→Option (Int×Int×Int×Int)
  | 0,_,_,_,_=>none
  | k + 1,x0,x856000,x856001,x856002=>(date_ahead.f x856000).bind fun t856=>(if t856 ≥ x0 then (date_Of.l0 k x0 (wrap64 (x856000 - 1)) x856001 x856002) else (date_Of.l1 k x0 x856000 x856001 x856002))
def date_Of.j3:Nat→Int→Int→Int→Int→Option (Int×Int×Int×Int)
  | 0,_,_,_,_=>none
  | k + 1,x0,x856000,x856001,x856002=>(date_ahead.f x856000).bind fun t858=>(date_Of.l2 k (wrap64 (x0 - t858)) x856000 x856001 x856002)
def date_Of.l2:Nat→Int→Int→Int→Int→Option (Int×Int×Int×Int)
  | 0,_,_,_,_=>none
  | k + 1,x0,x856000,x856001,x856002=>(date_Days.f k x856000 x856001).bind fun t859=>(if x0 > t859 then ((date_Days.f k x856000 x856001).bind fun t860=>(date_Of.l2 k (wrap64 (x0 - t860)) x856000 (wrap64 (x856001 + 1)) x856002)) else (some (x856000,x856001,x0,0)))
def date_Of.l1:Nat→Int→Int→Int→Int→Option (Int×Int×Int×Int)
  | 0,_,_,_,_=>none
  | k + 1,x0,x856000,x856001,x856002=>if x856000 < 9999 then ((date_ahead.f (wrap64 (x856000 + 1))).bind fun t857=>(if t857 < x0 then (date_Of.l1 k x0 (wrap64 (x856000 + 1)) x856001 x856002) else (date_Of.j3 k x0 x856000 x856001 x856002))) else (date_Of.j3 k x0 x856000 x856001 x856002)
end
def date_Of.f (k:Nat) (a0:Int):Option (Int×Int×Int×Int):=if a0 < 1 then (date_Of.j0 k a0 true) else (date_Of.j0 k a0 (decide (a0 > 3652059)))
def month_AddDays.f (k:Nat) (a0_0:Int) (a0_1:Int) (a0_2:Int) (a1:Int):Option (Int×Int×Int×Int):=(date_Number.f k a0_0 a0_1 a0_2).bind fun bt863=>(if bt863.2=0 then (if a1 < (-3719628) then (some (0,0,0,11)) else (if a1 > 3719628 then (some (0,0,0,11)) else ((date_Of.f k (wrap64 (bt863.1 + a1))).bind fun bt865=>(some (bt865.1,bt865.2.1,bt865.2.2.1,bt865.2.2.2))))) else (some (0,0,0,bt863.2)))
def frac_Frac_Sign.f (l0_0:List Int) (a0_1:Bool) (l0_2:List Int):Option (Int):=(whole_Int_Sign.f l0_0 a0_1).bind fun t870=>(some t870)
def whole_Int_Sub.f (k:Nat) (l0_0:List Int) (a0_1:Bool) (l1_0:List Int) (a1_1:Bool):Option (List Int×Bool):=(whole_Int_Neg.f l1_0 a1_1).bind fun bt874=>((whole_Int_Add.f k l0_0 a0_1 bt874.1 bt874.2).bind fun bt878=>(some (bt878.1,bt878.2)))
def whole_Int_Cmp.f (k:Nat) (l0_0:List Int) (a0_1:Bool) (l1_0:List Int) (a1_1:Bool):Option (Int):=(whole_Int_Sub.f k l0_0 a0_1 l1_0 a1_1).bind fun bt884=>((whole_Int_Sign.f bt884.1 bt884.2).bind fun t888=>(some t888))
def frac_Frac_Cmp.f (k:Nat) (l0_0:List Int) (a0_1:Bool) (l0_2:List Int) (l1_0:List Int) (a1_1:Bool) (l1_2:List Int):Option (Int):=(frac_Frac_den.f k l1_0 a1_1 l1_2).bind fun bt891=>((whole_Int_Mul.f k l0_0 a0_1 bt891.1 bt891.2).bind fun bt895=>((frac_Frac_den.f k l0_0 a0_1 l0_2).bind fun bt899=>((whole_Int_Mul.f k l1_0 a1_1 bt899.1 bt899.2).bind fun bt903=>((whole_Int_Cmp.f k bt895.1 bt895.2 bt903.1 bt903.2).bind fun t907=>(some t907)))))
mutual
def chattellaw11_CountParts.l0:Nat→Int→Int→Int→Int→Int→Int→Int→Int→Int→Int→Option (Bool)
  | 0,_,_,_,_,_,_,_,_,_,_=>none
  | k + 1,x44,x917000,x917001,x917002,x918000,x918001,x918002,x925000,x925001,x925002=>if x44 < 3 then ((count_Year.f k x44 x917000 x917001 x917002 x918000 x918001 x918002).bind fun bt926=>((count_Year.f k x44 x917000 x917001 x917002 x925000 x925001 x925002).bind fun bt935=>((count_Year.f k x44 x925000 x925001 x925002 x918000 x918001 x918002).bind fun bt944=>((count_Year.f k x44 x925000 x925001 x925002 x925000 x925001 x925002).bind fun bt953=>(if bt926.2.2.2=0 then (if bt935.2.2.2=0 then (if bt944.2.2.2=0 then (if bt953.2.2.2=0 then ((frac_Frac_Sign.f bt953.1 bt953.2.1 bt953.2.2.1).bind fun t962=>(chattellaw11_CountParts.j1 k x44 x44 (t962 != 0) x917000 x917001 x917002 x918000 x918001 x918002 x925000 x925001 x925002 bt926.1 bt926.2.1 bt926.2.2.1 bt935.1 bt935.2.1 bt935.2.2.1 bt944.1 bt944.2.1 bt944.2.2.1)) else (chattellaw11_CountParts.j1 k x44 x44 true x917000 x917001 x917002 x918000 x918001 x918002 x925000 x925001 x925002 bt926.1 bt926.2.1 bt926.2.2.1 bt935.1 bt935.2.1 bt935.2.2.1 bt944.1 bt944.2.1 bt944.2.2.1)) else (chattellaw11_CountParts.j1 k x44 x44 true x917000 x917001 x917002 x918000 x918001 x918002 x925000 x925001 x925002 bt926.1 bt926.2.1 bt926.2.2.1 bt935.1 bt935.2.1 bt935.2.2.1 bt944.1 bt944.2.1 bt944.2.2.1)) else (chattellaw11_CountParts.j1 k x44 x44 true x917000 x917001 x917002 x918000 x918001 x918002 x925000 x925001 x925002 bt926.1 bt926.2.1 bt926.2.2.1 bt935.1 bt935.2.1 bt935.2.2.1 bt944.1 bt944.2.1 bt944.2.2.1)) else (chattellaw11_CountParts.j1 k x44 x44 true x917000 x917001 x917002 x918000 x918001 x918002 x925000 x925001 x925002 bt926.1 bt926.2.1 bt926.2.2.1 bt935.1 bt935.2.1 bt935.2.2.1 bt944.1 bt944.2.1 bt944.2.2.1)))))) else ((chattellaw11_wakes.f k).bind fun t925=>(some t925))
def chattellaw11_CountParts.j1:Nat→Int→Int→Bool→Int→Int→Int→Int→Int→Int→Int→Int→Int→List Int→Bool→List Int→List Int→Bool→List Int→List Int→Bool→List Int→Option (Bool)
  | 0,_,_,_,_,_,_,_,_,_,_,_,_,_,_,_,_,_,_,_,_,_=>none
  | k + 1,x13,x44,x93,x917000,x917001,x917002,x918000,x918001,x918002,x925000,x925001,x925002,x935000,x935001,x935002,x944000,x944001,x944002,x953000,x953001,x953002=>if x93=true then (some false) else (if x13=0 then (chattellaw11_CountParts.l0 k (wrap64 (x44 + 1)) x917000 x917001 x917002 x918000 x918001 x918002 x925000 x925001 x925002) else ((frac_Frac_Add.f k x944000 x944001 x944002 x953000 x953001 x953002).bind fun bt963=>((frac_Frac_Cmp.f k bt963.1 bt963.2.1 bt963.2.2 x935000 x935001 x935002).bind fun t970=>(if t970=0 then ((frac_Frac_Cmp.f k x944000 x944001 x944002 x935000 x935001 x935002).bind fun t971=>(if t971 > 0 then (some false) else ((frac_Frac_Sign.f x935000 x935001 x935002).bind fun t972=>(if t972 < 0 then (some false) else (chattellaw11_CountParts.l0 k (wrap64 (x44 + 1)) x917000 x917001 x917002 x918000 x918001 x918002 x925000 x925001 x925002))))) else (some false)))))
end
def chattellaw11_CountParts.f (k:Nat) (a0_0:Int) (a0_1:Int) (a0_2:Int) (a1_0:Int) (a1_1:Int) (a1_2:Int) (a2:Int):Option (Bool):=(chattellaw11_near.f k a0_0 a0_1 a0_2 a1_0 a1_1 a1_2).bind fun bt910=>((month_Between.f k bt910.1 bt910.2.1 bt910.2.2.1 bt910.2.2.2.1 bt910.2.2.2.2.1 bt910.2.2.2.2.2).bind fun bt918=>(if (wrap64 (bt918.1 + 1))=0 then (none) else ((month_AddDays.f k bt910.1 bt910.2.1 bt910.2.2.1 (Int.tmod (wrap64 (a2)) (wrap64 (bt918.1 + 1)))).bind fun bt920=>(chattellaw11_CountParts.l0 k 0 bt910.1 bt910.2.1 bt910.2.2.1 bt910.2.2.2.1 bt910.2.2.2.2.1 bt910.2.2.2.2.2 bt920.1 bt920.2.1 bt920.2.2.1))))
def chattellaw11_CountParts.Pure:Prop:=∀ (a0_0:Int) (a0_1:Int) (a0_2:Int) (a1_0:Int) (a1_1:Int) (a1_2:Int) (a2:Int),(Lit.int .i64 a0_0).wf=true→(Lit.int .i64 a0_1).wf=true→(Lit.int .i64 a0_2).wf=true→(Lit.int .i64 a1_0).wf=true→(Lit.int .i64 a1_1).wf=true→(Lit.int .i64 a1_2).wf=true→(Lit.int .u16 a2).wf=true→∃ k,chattellaw11_CountParts.f k a0_0 a0_1 a0_2 a1_0 a1_1 a1_2 a2=some true
mutual
def chattelref01_Print.l0:Nat→List Int→ByteArray→Int→Option (ByteArray)
  | 0,_,_,_=>none
  | k + 1,x0,x3,x4=>if x4 < (x0.length:Int) then (if 0≤x4 then (chattelref01_Print.l1 k x0 x3 x4 (rd x0 x4) 0) else (none)) else (chattelref01_Print.l2 k x3 0)
def chattelref01_Print.l1:Nat→List Int→ByteArray→Int→Int→Int→Option (ByteArray)
  | 0,_,_,_,_,_=>none
  | k + 1,x0,x3,x4,x5,x6=>if x6 < 4 then ((some (([(wrap64 (48 + (Int.tmod x5 10))) % 256]:List Int):List Int)).bind fun y974=>(if (strOfNums y974).size + x3.size≤9223372036854775807 then (chattelref01_Print.l1 k x0 ((strOfNums y974) ++ x3) x4 (wrap64 (Int.tdiv x5 10)) (wrap64 (x6 + 1))) else (none))) else (chattelref01_Print.l0 k x0 x3 (wrap64 (x4 + 1)))
def chattelref01_Print.l2:Nat→ByteArray→Int→Option (ByteArray)
  | 0,_,_=>none
  | k + 1,x3,x7=>if 0≤x7 then (if x7 < (x3.size:Int) then (if (bt x3 x7)=48 then (chattelref01_Print.l2 k x3 (wrap64 (x7 + 1))) else (if x7≤(x3.size:Int) then (some (x3.extract (x7:Int).toNat x3.size)) else (none))) else (none)) else (none)
end
def chattelref01_Print.f (k:Nat) (l0:List Int):Option (ByteArray):=if (l0.length:Int)=0 then (some (⟨#[48]⟩:ByteArray)) else (chattelref01_Print.l0 k l0 (⟨#[]⟩:ByteArray) 0)
def chattelref04_Print.f (k:Nat) (l0_0:List Int) (a0_1:Bool):Option (ByteArray):=(chattelref01_Print.f k l0_0).bind fun t978=>(if a0_1=true then (if 1 + t978.size≤9223372036854775807 then (some ((⟨#[45]⟩:ByteArray) ++ t978)) else (none)) else (some t978))
def chattelref05_Print.f (k:Nat) (l0_0:List Int) (a0_1:Bool) (l0_2:List Int):Option (ByteArray):=(chattelref04_Print.f k l0_0 a0_1).bind fun t980=>(if (l0_2.length:Int)=1 then (if 0 < (l0_2.length:Int) then (if (rd l0_2 0)=1 then (some t980) else ((chattelref01_Print.f k l0_2).bind fun t982=>(if t980.size + 1≤9223372036854775807 then (if (t980 ++ (⟨#[47]⟩:ByteArray)).size + t982.size≤9223372036854775807 then (some ((t980 ++ (⟨#[47]⟩:ByteArray)) ++ t982)) else (none)) else (none)))) else (none)) else ((chattelref01_Print.f k l0_2).bind fun t983=>(if t980.size + 1≤9223372036854775807 then (if (t980 ++ (⟨#[47]⟩:ByteArray)).size + t983.size≤9223372036854775807 then (some ((t980 ++ (⟨#[47]⟩:ByteArray)) ++ t983)) else (none)) else (none))))
def chattelref01_Small.l0:Nat→Int→List Int→Option (List Int)
  | 0,_,_=>none
  | k + 1,x0,x3=>if x0 > 0 then (if x3.length < 17592186044416 then (chattelref01_Small.l0 k (wrap64 (Int.tdiv x0 10000)) (x3 ++ [Int.tmod x0 10000])) else (none)) else (some x3)
def chattelref01_Small.f (k:Nat) (a0:Int):Option (List Int):=chattelref01_Small.l0 k a0 ([]:List Int)
def chattelref04_Of.f (l0:List Int) (a1:Bool):Option (List Int×Bool):=if a1=true then (some (l0,decide ((l0.length:Int) > 0))) else (some (l0,false))
def chattelref04_From.f (k:Nat) (a0:Int):Option (List Int×Bool):=if a0 < 0 then ((chattelref01_Small.f k (wrap64 (-a0))).bind fun t989=>((chattelref04_Of.f t989 true).bind fun bt992=>(some (bt992.1,bt992.2)))) else ((chattelref01_Small.f k a0).bind fun t996=>((chattelref04_Of.f t996 false).bind fun bt999=>(some (bt999.1,bt999.2))))
def chattelref04_Neg.f (l0_0:List Int) (a0_1:Bool):Option (List Int×Bool):=(chattelref04_Of.f l0_0 (!a0_1)).bind fun bt1005=>(some (bt1005.1,bt1005.2))
def chattelref01_Trim.l0:Nat→List Int→Int→Option (List Int)
  | 0,_,_=>none
  | k + 1,x0,x3=>if x3 > 0 then (if 0≤(wrap64 (x3 - 1)) then (if (wrap64 (x3 - 1)) < (x0.length:Int) then (if (rd x0 (wrap64 (x3 - 1)))=0 then (chattelref01_Trim.l0 k x0 (wrap64 (x3 - 1))) else (if 0≤x3 then (if x3≤(x0.length:Int) then (some (x0.take (x3:Int).toNat)) else (none)) else (none))) else (none)) else (none)) else (if 0≤x3 then (if x3≤(x0.length:Int) then (some (x0.take (x3:Int).toNat)) else (none)) else (none))
def chattelref01_Trim.f (k:Nat) (l0:List Int):Option (List Int):=chattelref01_Trim.l0 k l0 (l0.length:Int)
def chattelref01_at.f (l0:List Int) (a1:Int):Option (Int):=if a1 ≥ (l0.length:Int) then (some 0) else (if 0≤a1 then (if a1 < (l0.length:Int) then (some (rd l0 a1)) else (none)) else (none))
mutual
def chattelref01_Mul.l0:Nat→List Int→List Int→List Int→Int→Option (List Int)
  | 0,_,_,_,_=>none
  | k + 1,x0,x1,x5,x6=>if x6 < (x0.length:Int) then (chattelref01_Mul.l1 k x0 x1 x5 x6 0 0) else ((chattelref01_Trim.f k x5).bind fun t1024=>(some t1024))
def chattelref01_Mul.l1:Nat→List Int→List Int→List Int→Int→Int→Int→Option (List Int)
  | 0,_,_,_,_,_,_=>none
  | k + 1,x0,x1,x5,x6,x7,x8=>if x8 < (x1.length:Int) then ((chattelref01_at.f x1 x8).bind fun t1027=>(if 0≤(wrap64 (x6 + x8)) then (if (wrap64 (x6 + x8)) < (x5.length:Int) then (if 0≤x6 then (if x6 < (x0.length:Int) then (chattelref01_Mul.l1 k x0 x1 (x5.set ((wrap64 (x6 + x8)):Int).toNat (Int.tmod (wrap64 ((wrap64 ((rd x5 (wrap64 (x6 + x8))) + (wrap64 ((rd x0 x6) * t1027)))) + x7)) 10000)) x6 (wrap64 (Int.tdiv (wrap64 ((wrap64 ((rd x5 (wrap64 (x6 + x8))) + (wrap64 ((rd x0 x6) * t1027)))) + x7)) 10000)) (wrap64 (x8 + 1))) else (none)) else (none)) else (none)) else (none))) else (if x7 > 0 then ((chattelref01_at.f x1 x8).bind fun t1031=>(if 0≤(wrap64 (x6 + x8)) then (if (wrap64 (x6 + x8)) < (x5.length:Int) then (if 0≤x6 then (if x6 < (x0.length:Int) then (chattelref01_Mul.l1 k x0 x1 (x5.set ((wrap64 (x6 + x8)):Int).toNat (Int.tmod (wrap64 ((wrap64 ((rd x5 (wrap64 (x6 + x8))) + (wrap64 ((rd x0 x6) * t1031)))) + x7)) 10000)) x6 (wrap64 (Int.tdiv (wrap64 ((wrap64 ((rd x5 (wrap64 (x6 + x8))) + (wrap64 ((rd x0 x6) * t1031)))) + x7)) 10000)) (wrap64 (x8 + 1))) else (none)) else (none)) else (none)) else (none))) else (chattelref01_Mul.l0 k x0 x1 x5 (wrap64 (x6 + 1))))
end
def chattelref01_Mul.f (k:Nat) (l0:List Int) (l1:List Int):Option (List Int):=if 0≤(wrap64 ((wrap64 ((l0.length:Int) + (l1.length:Int))) + 1)) then (if (wrap64 ((wrap64 ((l0.length:Int) + (l1.length:Int))) + 1):Int).toNat≤35184372088832 then (chattelref01_Mul.l0 k l0 l1 (List.replicate (wrap64 ((wrap64 ((l0.length:Int) + (l1.length:Int))) + 1):Int).toNat 0) 0) else (none)) else (none)
def chattelref01_Cmp.l0:Nat→List Int→List Int→Int→Option (Int)
  | 0,_,_,_=>none
  | k + 1,x0,x1,x5=>if x5 ≥ 0 then (if 0≤x5 then (if x5 < (x0.length:Int) then (if x5 < (x1.length:Int) then (if (rd x0 x5) < (rd x1 x5) then (some (-1)) else (if (rd x0 x5) > (rd x1 x5) then (some 1) else (chattelref01_Cmp.l0 k x0 x1 (wrap64 (x5 - 1))))) else (none)) else (none)) else (none)) else (some 0)
def chattelref01_Cmp.f (k:Nat) (l0:List Int) (l1:List Int):Option (Int):=if (l0.length:Int)=(l1.length:Int) then (chattelref01_Cmp.l0 k l0 l1 (wrap64 ((l0.length:Int) - 1))) else (if (l0.length:Int) < (l1.length:Int) then (some (-1)) else (some 1))
def chattelref01_Sub.l0:Nat→List Int→List Int→List Int→Int→Int→Option (List Int)
  | 0,_,_,_,_,_=>none
  | k + 1,x0,x1,x5,x6,x7=>if x7 < (x0.length:Int) then ((chattelref01_at.f x1 x7).bind fun t1039=>(if 0≤x7 then (if (wrap64 ((wrap64 ((rd x0 x7) - t1039)) - x6)) < 0 then (if x5.length < 17592186044416 then (chattelref01_Sub.l0 k x0 x1 (x5 ++ [wrap64 ((wrap64 ((wrap64 ((rd x0 x7) - t1039)) - x6)) + 10000)]) 1 (wrap64 (x7 + 1))) else (none)) else (if x5.length < 17592186044416 then (chattelref01_Sub.l0 k x0 x1 (x5 ++ [wrap64 ((wrap64 ((rd x0 x7) - t1039)) - x6)]) 0 (wrap64 (x7 + 1))) else (none))) else (none))) else ((chattelref01_Trim.f k x5).bind fun t1047=>(some t1047))
def chattelref01_Sub.f (k:Nat) (l0:List Int) (l1:List Int):Option (List Int):=chattelref01_Sub.l0 k l0 l1 ([]:List Int) 0 0
mutual
def chattelref01_DivMod.l0:Nat→List Int→List Int→List Int→List Int→Int→Option (List Int×List Int)
  | 0,_,_,_,_,_=>none
  | k + 1,x0,x1,x6,x7,x8=>if x8 ≥ 0 then (if 0≤x8 then (if x8 < (x0.length:Int) then ((some (([rd x0 x8]:List Int):List Int)).bind fun y1057=>(if y1057.length + x7.length < 17592186044416 then ((chattelref01_Trim.f k (y1057 ++ x7)).bind fun t1063=>(chattelref01_DivMod.l1 k x0 x1 x6 t1063 x8 0 9999)) else (none))) else (none)) else (none)) else ((chattelref01_Trim.f k x6).bind fun t1053=>(some (t1053,x7)))
def chattelref01_DivMod.l1:Nat→List Int→List Int→List Int→List Int→Int→Int→Int→Option (List Int×List Int)
  | 0,_,_,_,_,_,_,_=>none
  | k + 1,x0,x1,x6,x7,x8,x10,x11=>if x10 < x11 then ((chattelref01_Small.f k (wrap64 (Int.tdiv (wrap64 ((wrap64 (x10 + x11)) + 1)) 2))).bind fun t1076=>((chattelref01_Mul.f k x1 t1076).bind fun t1079=>((chattelref01_Cmp.f k t1079 x7).bind fun t1082=>(if t1082≤0 then (chattelref01_DivMod.l1 k x0 x1 x6 x7 x8 (wrap64 (Int.tdiv (wrap64 ((wrap64 (x10 + x11)) + 1)) 2)) x11) else (chattelref01_DivMod.l1 k x0 x1 x6 x7 x8 x10 (wrap64 ((wrap64 (Int.tdiv (wrap64 ((wrap64 (x10 + x11)) + 1)) 2)) - 1))))))) else (if 0≤x8 then (if x8 < (x6.length:Int) then ((chattelref01_Small.f k x10).bind fun t1067=>((chattelref01_Mul.f k x1 t1067).bind fun t1070=>((chattelref01_Sub.f k x7 t1070).bind fun t1073=>(chattelref01_DivMod.l0 k x0 x1 (x6.set (x8:Int).toNat x10) t1073 (wrap64 (x8 - 1)))))) else (none)) else (none))
end
def chattelref01_DivMod.f (k:Nat) (l0:List Int) (l1:List Int):Option (List Int×List Int):=if 0≤(l0.length:Int) then (if ((l0.length:Int):Int).toNat≤35184372088832 then (chattelref01_DivMod.l0 k l0 l1 (List.replicate ((l0.length:Int):Int).toNat 0) ([]:List Int) (wrap64 ((l0.length:Int) - 1))) else (none)) else (none)
def chattelref02_Gcd.l0:Nat→List Int→List Int→Option (List Int)
  | 0,_,_=>none
  | k + 1,x0,x1=>if (x1.length:Int) > 0 then ((chattelref01_DivMod.f k x0 x1).bind fun bt1083=>(chattelref02_Gcd.l0 k x1 bt1083.2)) else (some x0)
def chattelref02_Gcd.f (k:Nat) (l0:List Int) (l1:List Int):Option (List Int):=chattelref02_Gcd.l0 k l0 l1
def chattelref05_Make.f (k:Nat) (l0_0:List Int) (a0_1:Bool) (l1:List Int):Option (List Int×Bool×List Int):=(chattelref02_Gcd.f k l0_0 l1).bind fun t1091=>((chattelref01_DivMod.f k l0_0 t1091).bind fun bt1094=>((chattelref01_DivMod.f k l1 t1091).bind fun bt1100=>((chattelref04_Of.f bt1094.1 a0_1).bind fun bt1106=>(some (bt1106.1,bt1106.2,bt1100.1)))))
def chattelref05_Of.f (k:Nat) (l0_0:List Int) (a0_1:Bool) (l1_0:List Int) (a1_1:Bool):Option (List Int×Bool×List Int):=if a1_1=true then ((chattelref04_Neg.f l0_0 a0_1).bind fun bt1114=>((chattelref05_Make.f k bt1114.1 bt1114.2 l1_0).bind fun bt1118=>(some (bt1118.1,bt1118.2.1,bt1118.2.2)))) else ((chattelref05_Make.f k l0_0 a0_1 l1_0).bind fun bt1125=>(some (bt1125.1,bt1125.2.1,bt1125.2.2)))
def chattelref05_Small.f (k:Nat) (a0:Int) (a1:Int):Option (List Int×Bool×List Int):=(chattelref04_From.f k a0).bind fun bt1133=>((chattelref04_From.f k a1).bind fun bt1138=>((chattelref05_Of.f k bt1133.1 bt1133.2 bt1138.1 bt1138.2).bind fun bt1143=>(some (bt1143.1,bt1143.2.1,bt1143.2.2))))
def month_Add.j0:Nat→Int→Bool→Int→Int→Int→Option (Int×Int×Int×Int)
  | 0,_,_,_,_,_=>none
  | k + 1,x1,x20,x1151000,x1151001,x1151002=>if x20=true then (some (0,0,0,11)) else (if (wrap64 ((wrap64 ((wrap64 ((wrap64 (12 * x1151000)) + x1151001)) - 1)) + x1)) < 12 then (some (0,0,0,11)) else (if (wrap64 (Int.tdiv (wrap64 ((wrap64 ((wrap64 ((wrap64 (12 * x1151000)) + x1151001)) - 1)) + x1)) 12)) > 9999 then (some (0,0,0,11)) else ((date_Days.f k (wrap64 (Int.tdiv (wrap64 ((wrap64 ((wrap64 ((wrap64 (12 * x1151000)) + x1151001)) - 1)) + x1)) 12)) (wrap64 ((Int.tmod (wrap64 ((wrap64 ((wrap64 ((wrap64 (12 * x1151000)) + x1151001)) - 1)) + x1)) 12) + 1))).bind fun t1154=>(some (wrap64 (Int.tdiv (wrap64 ((wrap64 ((wrap64 ((wrap64 (12 * x1151000)) + x1151001)) - 1)) + x1)) 12),wrap64 ((Int.tmod (wrap64 ((wrap64 ((wrap64 ((wrap64 (12 * x1151000)) + x1151001)) - 1)) + x1)) 12) + 1),mn x1151002 t1154,0)))))
def month_Add.f (k:Nat) (a0_0:Int) (a0_1:Int) (a0_2:Int) (a1:Int):Option (Int×Int×Int×Int):=(date_Check.f k a0_0 a0_1 a0_2).bind fun t1152=>(if t1152=0 then (if a1 < (-119988) then (month_Add.j0 k a1 true a0_0 a0_1 a0_2) else (month_Add.j0 k a1 (decide (a1 > 119988)) a0_0 a0_1 a0_2)) else (some (0,0,0,t1152)))
def chattellaw11_CountYears.j0:Nat→Bool→Int→Int→Int→Option (Bool)
  | 0,_,_,_,_=>none
  | k + 1,x83,x1160000,x1160001,x1160002=>if x83=true then (some false) else ((month_Add.f k x1160000 x1160001 (mn x1160002 28) 1).bind fun bt1205=>((count_Year.f k 0 x1160000 x1160001 (mn x1160002 28) bt1205.1 bt1205.2.1 bt1205.2.2.1).bind fun bt1210=>((chattellaw11_wakes.f k).bind fun t1219=>(if t1219=true then (if bt1210.2.2.2=0 then ((frac_Frac_Print.f k bt1210.1 bt1210.2.1 bt1210.2.2.1).bind fun t1220=>(if t1220.toList=([49,47,49,50]:List UInt8) then ((date_Check.f k bt1205.1 bt1205.2.1 bt1205.2.2.1).bind fun t1221=>(some (t1221 == 0))) else (some false))) else (some false)) else (some false)))))
def chattellaw11_CountYears.f (k:Nat) (a0_0:Int) (a0_1:Int) (a0_2:Int) (a1:Int):Option (Bool):=(chattelref09_Make.f k a0_0 a0_1 a0_2 9700).bind fun bt1156=>((count_Year.f k 2 bt1156.1 1 1 (wrap64 (bt1156.1 + (wrap64 (a1)))) 1 1).bind fun bt1162=>((count_Year.f k 0 bt1156.1 1 1 (wrap64 (bt1156.1 + (wrap64 (a1)))) 1 1).bind fun bt1171=>((month_AddDays.f k bt1156.1 bt1156.2.1 bt1156.2.2 1).bind fun bt1180=>((count_Year.f k 1 bt1156.1 bt1156.2.1 bt1156.2.2 bt1180.1 bt1180.2.1 bt1180.2.2.1).bind fun bt1185=>(if bt1162.2.2.2=0 then (if bt1171.2.2.2=0 then (if bt1185.2.2.2=0 then ((frac_Frac_Print.f k bt1162.1 bt1162.2.1 bt1162.2.2.1).bind fun t1194=>((chattelref05_Small.f k (wrap64 (a1)) 1).bind fun bt1195=>((chattelref05_Print.f k bt1195.1 bt1195.2.1 bt1195.2.2).bind fun t1202=>(if t1194.toList=t1202.toList then ((frac_Frac_Cmp.f k bt1171.1 bt1171.2.1 bt1171.2.2.1 bt1162.1 bt1162.2.1 bt1162.2.2.1).bind fun t1203=>(if t1203=0 then ((frac_Frac_Print.f k bt1185.1 bt1185.2.1 bt1185.2.2.1).bind fun t1204=>(chattellaw11_CountYears.j0 k (t1204.toList != ([49,47,51,54,53]:List UInt8)) bt1156.1 bt1156.2.1 bt1156.2.2)) else (chattellaw11_CountYears.j0 k true bt1156.1 bt1156.2.1 bt1156.2.2))) else (chattellaw11_CountYears.j0 k true bt1156.1 bt1156.2.1 bt1156.2.2))))) else (chattellaw11_CountYears.j0 k true bt1156.1 bt1156.2.1 bt1156.2.2)) else (chattellaw11_CountYears.j0 k true bt1156.1 bt1156.2.1 bt1156.2.2)) else (chattellaw11_CountYears.j0 k true bt1156.1 bt1156.2.1 bt1156.2.2))))))
def chattellaw11_CountYears.Pure:Prop:=∀ (a0_0:Int) (a0_1:Int) (a0_2:Int) (a1:Int),(Lit.int .i64 a0_0).wf=true→(Lit.int .i64 a0_1).wf=true→(Lit.int .i64 a0_2).wf=true→(Lit.int .u8 a1).wf=true→∃ k,chattellaw11_CountYears.f k a0_0 a0_1 a0_2 a1=some true
end Go.Proofs.Ytelfpflfikaloaa.F
