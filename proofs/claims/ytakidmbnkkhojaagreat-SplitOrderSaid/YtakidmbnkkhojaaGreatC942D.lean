import Derived.Test.YtakidmbnkkhojaaGreatC942Sp14
import Derived.ArgAppend
import Derived.Below
import Derived.BigQuiet
import Derived.Deep.AppendLies
import Derived.Deep.CutBlock
import Derived.Deep.DeepCutAuto
import Derived.Deep.Draws
import Derived.Deep.LoopGhost
import Derived.Deep.OwnRows
import Derived.Deep.QuietTactic
import Derived.Deep.RegionHeld3
import Derived.KernelRfl
import Derived.Laws.BitsLemmas
import Derived.Laws.BytesArg
import Derived.Laws.IdiomCopy
import Derived.Laws.MakeOwn
import Derived.Laws.OwnMore
import Derived.Laws.Rows
import Derived.Laws.Slices
import Derived.Lib.AppendStr
import Derived.Lib.ConvBytes
import Derived.Maps.AppendAt
import Derived.OrdersHeld
import Derived.OwnWalk
import Derived.RowKit
import Derived.RowKit3
import Derived.Tactics
import Derived.Test.YtakidmbnkkhojaaGreatProg
import Derived.Test.YtakidmbnkkhojaaGreatC942WApart
import Derived.Test.YtakidmbnkkhojaaGreatC942WArr
import Derived.Test.YtakidmbnkkhojaaGreatC942WN
import Derived.Test.YtakidmbnkkhojaaGreatC942WEqStruct
import Derived.Test.YtakidmbnkkhojaaGreatC942WFoot
import Derived.Test.YtakidmbnkkhojaaGreatC942WTab
import Derived.Test.YtakidmbnkkhojaaGreatC942WWords
import Derived.Test.YtakidmbnkkhojaaGreatC942WKept
import Derived.Test.YtakidmbnkkhojaaGreatC942WLast
import Derived.Test.YtakidmbnkkhojaaGreatC942WMore
import Derived.Test.YtakidmbnkkhojaaGreatC942WRepsOne
import Derived.Test.YtakidmbnkkhojaaGreatC942WShare
import Derived.Test.YtakidmbnkkhojaaGreatC942X
import Derived.WalkKit
import Derived.WideLaws
namespace Go.Proofs.YtakidmbnkkhojaaGreat.F
open Go.RowKit Go.Proofs.YtakidmbnkkhojaaGreatW.PrintWords Go.Proofs.YtakidmbnkkhojaaGreatW.PrintLast Go.Proofs.YtakidmbnkkhojaaGreatW.PrintMore Go.Proofs.YtakidmbnkkhojaaGreatX
set_option linter.unusedVariables false
set_option linter.unusedSimpArgs false
structure S28 where
  f0:Int
  f1:Int
  f2:Int
def z28:S28:=⟨(0:Int),(0:Int),(0:Int)⟩
def rd_T28 (xs:List S28) (i:Int):S28:=xs.getD i.toNat z28
structure S55 where
  f0:S28
  f1:S28
def z55:S55:=⟨z28,z28⟩
def rd_T55 (xs:List S55) (i:Int):S55:=xs.getD i.toNat z55
structure S45 where
  f0:(List Int)
def z45:S45:=⟨([]:List Int)⟩
structure S47 where
  f0:S45
  f1:Bool
def z47:S47:=⟨z45,false⟩
structure S49 where
  f0:S47
  f1:S45
def z49:S49:=⟨z47,z45⟩
def rd_T49 (xs:List S49) (i:Int):S49:=xs.getD i.toNat z49
structure S91 where
  f0:S28
  f1:S28
structure S69 where
  f0:(List Int)
  f1:Bool
structure S71 where
  f0:S69
  f1:(List Int)
def date_good.f (a0:Int):Option (Bool):=if a0 ≥ 1 then (some (decide (a0≤9999))) else (some false)
def date_Leap.f (a0:Int):Option (Bool):=(date_good.f a0).bind fun t101=>(if t101=true then (if (Int.tmod a0 4)=0 then (if (Int.tmod a0 100)=0 then (some ((Int.tmod a0 400) == 0)) else (some true)) else (some ((Int.tmod a0 400) == 0))) else (some false))
def date_Days.j0:Nat→Int→Int→Bool→Option (Int)
  | 0,_,_,_=>none
  | k + 1,x0,x1,x15=>if x15=true then (some 0) else (if x1=2 then ((date_Leap.f x0).bind fun t103=>(if t103=true then (some 29) else (if 0≤(wrap64 (x1 - 1)) then (if (wrap64 (x1 - 1)) < 12 then (some (rd ([31,28,31,30,31,30,31,31,30,31,30,31]:List Int) (wrap64 (x1 - 1)))) else (none)) else (none)))) else (if 0≤(wrap64 (x1 - 1)) then (if (wrap64 (x1 - 1)) < 12 then (some (rd ([31,28,31,30,31,30,31,31,30,31,30,31]:List Int) (wrap64 (x1 - 1)))) else (none)) else (none)))
def date_Days.f (k:Nat) (a0:Int) (a1:Int):Option (Int):=(date_good.f a0).bind fun t102=>(if t102=true then (if a1 < 1 then (date_Days.j0 k a0 a1 true) else (date_Days.j0 k a0 a1 (decide (a1 > 12)))) else (date_Days.j0 k a0 a1 true))
theorem date_Days.mono_l : ∀ k,(∀ y0 y1 y2,LeO (date_Days.j0 k y0 y1 y2) (date_Days.j0 (k + 1) y0 y1 y2))
  | 0=>fun _ _ _ r h=>by simp [date_Days.j0] at h
  | k + 1=>by
    have ih0:=date_Days.mono_l k
    · intro y0 y1 y2
      unfold date_Days.j0
      repeat' first
      | (with_reducible exact ih0 _ _ _)
      | (with_reducible exact LeO.refl _)
      | (with_reducible exact LeO.none _)
      | (with_reducible refine LeO.ite ?_ ?_)
      | (with_reducible refine LeO.bind ?_ (fun _=>?_))
      | exact ih0 _ _ _
      | exact LeO.none _
      | refine LeO.ite ?_ ?_
      | refine LeO.bind ?_ (fun _=>?_)
theorem date_Days.mono : ∀ a0 a1 k,LeO (date_Days.f k a0 a1) (date_Days.f (k + 1) a0 a1):=by
  intro a0 a1 k
  have ih0:=date_Days.mono_l k
  unfold date_Days.f
  repeat' first
      | (with_reducible exact ih0 _ _ _)
      | (with_reducible exact LeO.refl _)
      | (with_reducible exact LeO.none _)
      | (with_reducible refine LeO.ite ?_ ?_)
      | (with_reducible refine LeO.bind ?_ (fun _=>?_))
      | exact ih0 _ _ _
      | exact LeO.none _
      | refine LeO.ite ?_ ?_
      | refine LeO.bind ?_ (fun _=>?_)
def date_Check.f (k:Nat) (a0_0:Int) (a0_1:Int) (a0_2:Int):Option (Int):=if a0_2 < 1 then (some 11) else ((date_Days.f k a0_0 a0_1).bind fun t105=>(if a0_2 > t105 then (some 11) else (some 0)))
theorem date_Check.mono : ∀ a0 a1 a2 k,LeO (date_Check.f k a0 a1 a2) (date_Check.f (k + 1) a0 a1 a2):=by
  intro a0 a1 a2 k
  unfold date_Check.f
  repeat' first
      | (with_reducible exact date_Days.mono _ _ _)
      | (with_reducible exact LeO.refl _)
      | (with_reducible exact LeO.none _)
      | (with_reducible refine LeO.ite ?_ ?_)
      | (with_reducible refine LeO.bind ?_ (fun _=>?_))
      | exact date_Days.mono _ _ _
      | exact LeO.none _
      | refine LeO.ite ?_ ?_
      | refine LeO.bind ?_ (fun _=>?_)
def date_ahead.f (a0:Int):Option (Int):=some (wrap64 ((wrap64 ((wrap64 ((wrap64 (365 * (wrap64 (a0 - 1)))) + (wrap64 (Int.tdiv (wrap64 (a0 - 1)) 4)))) - (wrap64 (Int.tdiv (wrap64 (a0 - 1)) 100)))) + (wrap64 (Int.tdiv (wrap64 (a0 - 1)) 400))))
def date_Number.l0:Nat→Int→Int→Int→Int→Int→Option (Int×Int)
  | 0,_,_,_,_,_=>none
  | k + 1,x5,x6,x107000,x107001,x107002=>if x6 < x107001 then ((date_Days.f k x107000 x6).bind fun t109=>(date_Number.l0 k (wrap64 (x5 + t109)) (wrap64 (x6 + 1)) x107000 x107001 x107002)) else (some (wrap64 (x5 + x107002),0))
def date_Number.f (k:Nat) (a0_0:Int) (a0_1:Int) (a0_2:Int):Option (Int×Int):=(date_Check.f k a0_0 a0_1 a0_2).bind fun t107=>(if t107=0 then ((date_ahead.f a0_0).bind fun t108=>(date_Number.l0 k t108 1 a0_0 a0_1 a0_2)) else (some (0,t107)))
theorem date_Number.mono_l : ∀ k,(∀ y0 y1 y2 y3 y4,LeO (date_Number.l0 k y0 y1 y2 y3 y4) (date_Number.l0 (k + 1) y0 y1 y2 y3 y4))
  | 0=>fun _ _ _ _ _ r h=>by simp [date_Number.l0] at h
  | k + 1=>by
    have ih0:=date_Number.mono_l k
    · intro y0 y1 y2 y3 y4
      unfold date_Number.l0
      repeat' first
      | (with_reducible exact ih0 _ _ _ _ _)
      | (with_reducible exact date_Check.mono _ _ _ _)
      | (with_reducible exact date_Days.mono _ _ _)
      | (with_reducible exact LeO.refl _)
      | (with_reducible exact LeO.none _)
      | (with_reducible refine LeO.ite ?_ ?_)
      | (with_reducible refine LeO.bind ?_ (fun _=>?_))
      | exact ih0 _ _ _ _ _
      | exact date_Check.mono _ _ _ _
      | exact date_Days.mono _ _ _
      | exact LeO.none _
      | refine LeO.ite ?_ ?_
      | refine LeO.bind ?_ (fun _=>?_)
theorem date_Number.mono : ∀ a0 a1 a2 k,LeO (date_Number.f k a0 a1 a2) (date_Number.f (k + 1) a0 a1 a2):=by
  intro a0 a1 a2 k
  have ih0:=date_Number.mono_l k
  unfold date_Number.f
  repeat' first
      | (with_reducible exact ih0 _ _ _ _ _)
      | (with_reducible exact date_Check.mono _ _ _ _)
      | (with_reducible exact date_Days.mono _ _ _)
      | (with_reducible exact LeO.refl _)
      | (with_reducible exact LeO.none _)
      | (with_reducible refine LeO.ite ?_ ?_)
      | (with_reducible refine LeO.bind ?_ (fun _=>?_))
      | exact ih0 _ _ _ _ _
      | exact date_Check.mono _ _ _ _
      | exact date_Days.mono _ _ _
      | exact LeO.none _
      | refine LeO.ite ?_ ?_
      | refine LeO.bind ?_ (fun _=>?_)
mutual
def date_Of.j0:Nat→Int→Bool→Option (Int×Int×Int×Int)
  | 0,_,_=>none
  | k + 1,x0,x10=>if x10=true then (some (0,0,0,11)) else (date_Of.l0 k x0 (mn (wrap64 ((wrap64 (Int.tdiv (wrap64 (x0 * 400)) 146097)) + 1)) 9999) 1 0)
def date_Of.l0:Nat→Int→Int→Int→Int→Option (Int×Int×Int×Int)
  | 0,_,_,_,_=>none
  | k + 1,x0,x112000,x112001,x112002=>(date_ahead.f x112000).bind fun t112=>(if t112 ≥ x0 then (date_Of.l0 k x0 (wrap64 (x112000 - 1)) x112001 x112002) else (date_Of.l1 k x0 x112000 x112001 x112002))
def date_Of.j3:Nat→Int→Int→Int→Int→Option (Int×Int×Int×Int)
  | 0,_,_,_,_=>none
  | k + 1,x0,x112000,x112001,x112002=>(date_ahead.f x112000).bind fun t114=>(date_Of.l2 k (wrap64 (x0 - t114)) x112000 x112001 x112002)
def date_Of.l2:Nat→Int→Int→Int→Int→Option (Int×Int×Int×Int)
  | 0,_,_,_,_=>none
  | k + 1,x0,x112000,x112001,x112002=>(date_Days.f k x112000 x112001).bind fun t115=>(if x0 > t115 then ((date_Days.f k x112000 x112001).bind fun t116=>(date_Of.l2 k (wrap64 (x0 - t116)) x112000 (wrap64 (x112001 + 1)) x112002)) else (some (x112000,x112001,x0,0)))
def date_Of.l1:Nat→Int→Int→Int→Int→Option (Int×Int×Int×Int)
  | 0,_,_,_,_=>none
  | k + 1,x0,x112000,x112001,x112002=>if x112000 < 9999 then ((date_ahead.f (wrap64 (x112000 + 1))).bind fun t113=>(if t113 < x0 then (date_Of.l1 k x0 (wrap64 (x112000 + 1)) x112001 x112002) else (date_Of.j3 k x0 x112000 x112001 x112002))) else (date_Of.j3 k x0 x112000 x112001 x112002)
end
def date_Of.f (k:Nat) (a0:Int):Option (Int×Int×Int×Int):=if a0 < 1 then (date_Of.j0 k a0 true) else (date_Of.j0 k a0 (decide (a0 > 3652059)))
def month_AddDays.f (k:Nat) (a0_0:Int) (a0_1:Int) (a0_2:Int) (a1:Int):Option (Int×Int×Int×Int):=(date_Number.f k a0_0 a0_1 a0_2).bind fun bt119=>(if bt119.2=0 then (if a1 < (-3719628) then (some (0,0,0,11)) else (if a1 > 3719628 then (some (0,0,0,11)) else ((date_Of.f k (wrap64 (bt119.1 + a1))).bind fun bt121=>(some (bt121.1,bt121.2.1,bt121.2.2.1,bt121.2.2.2))))) else (some (0,0,0,bt119.2)))
def chattelref09_Leap.j0:Nat→Int→Bool→Option (Bool)
  | 0,_,_=>none
  | k + 1,x0,x8=>if x8=true then (some false) else (if (Int.tmod x0 400)=0 then (some true) else (if (Int.tmod x0 4)=0 then (some ((Int.tmod x0 100) != 0)) else (some false)))
def chattelref09_Leap.f (k:Nat) (a0:Int):Option (Bool):=if a0 < 1 then (chattelref09_Leap.j0 k a0 true) else (chattelref09_Leap.j0 k a0 (decide (a0 > 9999)))
def chattelref09_Days.j0:Nat→Int→Int→Bool→Option (Int)
  | 0,_,_,_=>none
  | k + 1,x0,x1,x19=>if x19=true then (some 0) else (if x1=2 then ((chattelref09_Leap.f k x0).bind fun t125=>(if t125=true then (some 29) else (some 28))) else (if x1=4 then (some 30) else (if x1=6 then (some 30) else (if x1=9 then (some 30) else (if x1=11 then (some 30) else (some 31))))))
def chattelref09_Days.f (k:Nat) (a0:Int) (a1:Int):Option (Int):=if a0 < 1 then (chattelref09_Days.j0 k a0 a1 true) else (if a0 > 9999 then (chattelref09_Days.j0 k a0 a1 true) else (if a1 < 1 then (chattelref09_Days.j0 k a0 a1 true) else (chattelref09_Days.j0 k a0 a1 (decide (a1 > 12)))))
def chattelref09_Make.j0:Nat→Int→Int→Int→Int→Option (Int×Int×Int)
  | 0,_,_,_,_=>none
  | k + 1,x5,x127000,x127001,x127002=>if (Int.tmod x127001 12) < 0 then ((chattelref09_Days.f k (wrap64 (x5 + 1)) (wrap64 ((wrap64 ((Int.tmod x127001 12) + 12)) + 1))).bind fun t128=>(if t128=0 then (none) else (if (Int.tmod x127002 t128) < 0 then (some (wrap64 (x5 + 1),wrap64 ((wrap64 ((Int.tmod x127001 12) + 12)) + 1),wrap64 ((wrap64 ((Int.tmod x127002 t128) + t128)) + 1))) else (some (wrap64 (x5 + 1),wrap64 ((wrap64 ((Int.tmod x127001 12) + 12)) + 1),wrap64 ((Int.tmod x127002 t128) + 1)))))) else ((chattelref09_Days.f k (wrap64 (x5 + 1)) (wrap64 ((Int.tmod x127001 12) + 1))).bind fun t129=>(if t129=0 then (none) else (if (Int.tmod x127002 t129) < 0 then (some (wrap64 (x5 + 1),wrap64 ((Int.tmod x127001 12) + 1),wrap64 ((wrap64 ((Int.tmod x127002 t129) + t129)) + 1))) else (some (wrap64 (x5 + 1),wrap64 ((Int.tmod x127001 12) + 1),wrap64 ((Int.tmod x127002 t129) + 1))))))
def chattelref09_Make.f (k:Nat) (a0_0:Int) (a0_1:Int) (a0_2:Int) (a1:Int):Option (Int×Int×Int):=if a1=0 then (none) else (if (Int.tmod a0_0 a1) < 0 then (chattelref09_Make.j0 k (wrap64 ((Int.tmod a0_0 a1) + a1)) a0_0 a0_1 a0_2) else (chattelref09_Make.j0 k (Int.tmod a0_0 a1) a0_0 a0_1 a0_2))
def chattellaw12_Time_make.l0:Nat→List (S28)→List Int→Int→Int→Int→Int→Int→Int→Int→Int→Option (Int×Int×Int×Int×Int×Int×(List (S28)))
  | 0,_,_,_,_,_,_,_,_,_,_=>none
  | k + 1,x8,x31,x32,x33,x137000,x137001,x137002,x142000,x142001,x142002=>if x33 < x32 then (if 0≤x33 then (if x33 < (x31.length:Int) then ((month_AddDays.f k x137000 x137001 x137002 (Int.tmod (wrap64 (rd x31 x33)) 2200)).bind fun bt144=>(if bt144.2.2.2=0 then (if x8.length < 5864062014805 then (chattellaw12_Time_make.l0 k (x8 ++ [(⟨bt144.1,bt144.2.1,bt144.2.2.1⟩:S28)]) x31 x32 (wrap64 (x33 + 1)) x137000 x137001 x137002 x142000 x142001 x142002) else (none)) else (chattellaw12_Time_make.l0 k x8 x31 x32 (wrap64 (x33 + 1)) x137000 x137001 x137002 x142000 x142001 x142002))) else (none)) else (none)) else (some (x137000,x137001,x137002,x142000,x142001,x142002,x8))
def chattellaw12_Time_make.f (k:Nat) (a0_0:Int) (a0_1:Int) (a0_2:Int) (a0_3:Int) (l0_4:List Int) (l0_5:List Int) (a0_6:Int):Option (Int×Int×Int×Int×Int×Int×(List (S28))):=(chattelref09_Make.f k a0_0 a0_1 a0_2 9900).bind fun bt133=>((month_AddDays.f k bt133.1 bt133.2.1 bt133.2.2 (wrap64 (Int.tmod a0_3 2000))).bind fun bt137=>(if 0≤(mn (l0_4.length:Int) 12) then (if (mn (l0_4.length:Int) 12)≤(l0_4.length:Int) then (chattellaw12_Time_make.l0 k ([]:List (S28)) (l0_4.take ((mn (l0_4.length:Int) 12):Int).toNat) ((l0_4.take ((mn (l0_4.length:Int) 12):Int).toNat).length:Int) 0 bt133.1 bt133.2.1 bt133.2.2 bt137.1 bt137.2.1 bt137.2.2.1) else (none)) else (none)))
def cmp_Or_int.l0:Nat→Int→List Int→Int→Int→Option (Int)
  | 0,_,_,_,_=>none
  | k + 1,x3,x6,x7,x8=>if x8 < x7 then (if 0≤x8 then (if x8 < (x6.length:Int) then (if (rd x6 x8)=x3 then (cmp_Or_int.l0 k x3 x6 x7 (wrap64 (x8 + 1))) else (some (rd x6 x8))) else (none)) else (none)) else (some x3)
def cmp_Or_int.f (k:Nat) (l0:List Int):Option (Int):=cmp_Or_int.l0 k 0 l0 (l0.length:Int) 0
theorem cmp_Or_int.mono_l : ∀ k,(∀ y0 y1 y2 y3,LeO (cmp_Or_int.l0 k y0 y1 y2 y3) (cmp_Or_int.l0 (k + 1) y0 y1 y2 y3))
  | 0=>fun _ _ _ _ r h=>by simp [cmp_Or_int.l0] at h
  | k + 1=>by
    have ih0:=cmp_Or_int.mono_l k
    · intro y0 y1 y2 y3
      unfold cmp_Or_int.l0
      repeat' first
      | (with_reducible exact ih0 _ _ _ _)
      | (with_reducible exact LeO.refl _)
      | (with_reducible exact LeO.none _)
      | (with_reducible refine LeO.ite ?_ ?_)
      | (with_reducible refine LeO.bind ?_ (fun _=>?_))
      | exact ih0 _ _ _ _
      | exact LeO.none _
      | refine LeO.ite ?_ ?_
      | refine LeO.bind ?_ (fun _=>?_)
theorem cmp_Or_int.mono : ∀ a0 k,LeO (cmp_Or_int.f k a0) (cmp_Or_int.f (k + 1) a0):=by
  intro a0 k
  have ih0:=cmp_Or_int.mono_l k
  unfold cmp_Or_int.f
  repeat' first
      | (with_reducible exact ih0 _ _ _ _)
      | (with_reducible exact LeO.refl _)
      | (with_reducible exact LeO.none _)
      | (with_reducible refine LeO.ite ?_ ?_)
      | (with_reducible refine LeO.bind ?_ (fun _=>?_))
      | exact ih0 _ _ _ _
      | exact LeO.none _
      | refine LeO.ite ?_ ?_
      | refine LeO.bind ?_ (fun _=>?_)
def cmp_isNaN_int.f (a0:Int):Option (Bool):=some (a0 != a0)
def cmp_Compare_int.f (a0:Int) (a1:Int):Option (Int):=(cmp_isNaN_int.f a0).bind fun t153=>((cmp_isNaN_int.f a1).bind fun t154=>(if t153=true then (if t154=true then (some 0) else (some (-1))) else (if t154=true then (some 1) else (if a0 < a1 then (some (-1)) else (if a0 > a1 then (some 1) else (some 0))))))
def date_Cmp.f (k:Nat) (a0_0:Int) (a0_1:Int) (a0_2:Int) (a1_0:Int) (a1_1:Int) (a1_2:Int):Option (Int):=(cmp_Compare_int.f a0_0 a1_0).bind fun t157=>((cmp_Compare_int.f a0_1 a1_1).bind fun t158=>((cmp_Compare_int.f a0_2 a1_2).bind fun t159=>((cmp_Or_int.f k (([t157,t158,t159]:List Int))).bind fun t163=>(some t163))))
theorem date_Cmp.mono : ∀ a0 a1 a2 a3 a4 a5 k,LeO (date_Cmp.f k a0 a1 a2 a3 a4 a5) (date_Cmp.f (k + 1) a0 a1 a2 a3 a4 a5):=by
  intro a0 a1 a2 a3 a4 a5 k
  unfold date_Cmp.f
  repeat' first
      | (with_reducible exact cmp_Or_int.mono _ _)
      | (with_reducible exact LeO.refl _)
      | (with_reducible exact LeO.none _)
      | (with_reducible refine LeO.ite ?_ ?_)
      | (with_reducible refine LeO.bind ?_ (fun _=>?_))
      | exact cmp_Or_int.mono _ _
      | exact LeO.none _
      | refine LeO.ite ?_ ?_
      | refine LeO.bind ?_ (fun _=>?_)
def api_Date_27.f (l0:List (S28)):Option ((List (S28))):=(some (([]:List (S28)):List (S28))).bind fun y164=>(if y164.length + l0.length < 5864062014805 then (some (y164 ++ l0)) else (none))
def split_wrong.f (k:Nat) (a0_0:Int) (a0_1:Int) (a0_2:Int):Option (Bool):=(date_Check.f k a0_0 a0_1 a0_2).bind fun t171=>(some (t171 != 0))
def bits_Len64.j0:Nat→Int→Int→Option (Int)
  | 0,_,_=>none
  | k + 1,x0,x2=>if x0 ≥ 65536 then (if (x0 / 65536) ≥ 256 then (if 0≤(((x0 / 65536) / 256) % 256) then (if (((x0 / 65536) / 256) % 256) < 256 then (some (wrap64 ((wrap64 ((wrap64 (x2 + 16)) + 8)) + (wrap64 (bt (⟨#[0,1,2,2,3,3,3,3,4,4,4,4,4,4,4,4,5,5,5,5,5,5,5,5,5,5,5,5,5,5,5,5,6,6,6,6,6,6,6,6,6,6,6,6,6,6,6,6,6,6,6,6,6,6,6,6,6,6,6,6,6,6,6,6,7,7,7,7,7,7,7,7,7,7,7,7,7,7,7,7,7,7,7,7,7,7,7,7,7,7,7,7,7,7,7,7,7,7,7,7,7,7,7,7,7,7,7,7,7,7,7,7,7,7,7,7,7,7,7,7,7,7,7,7,7,7,7,7,8,8,8,8,8,8,8,8,8,8,8,8,8,8,8,8,8,8,8,8,8,8,8,8,8,8,8,8,8,8,8,8,8,8,8,8,8,8,8,8,8,8,8,8,8,8,8,8,8,8,8,8,8,8,8,8,8,8,8,8,8,8,8,8,8,8,8,8,8,8,8,8,8,8,8,8,8,8,8,8,8,8,8,8,8,8,8,8,8,8,8,8,8,8,8,8,8,8,8,8,8,8,8,8,8,8,8,8,8,8,8,8,8,8,8,8,8,8,8,8,8,8,8,8,8,8,8,8]⟩:ByteArray) (((x0 / 65536) / 256) % 256)))))) else (none)) else (none)) else (if 0≤((x0 / 65536) % 256) then (if ((x0 / 65536) % 256) < 256 then (some (wrap64 ((wrap64 (x2 + 16)) + (wrap64 (bt (⟨#[0,1,2,2,3,3,3,3,4,4,4,4,4,4,4,4,5,5,5,5,5,5,5,5,5,5,5,5,5,5,5,5,6,6,6,6,6,6,6,6,6,6,6,6,6,6,6,6,6,6,6,6,6,6,6,6,6,6,6,6,6,6,6,6,7,7,7,7,7,7,7,7,7,7,7,7,7,7,7,7,7,7,7,7,7,7,7,7,7,7,7,7,7,7,7,7,7,7,7,7,7,7,7,7,7,7,7,7,7,7,7,7,7,7,7,7,7,7,7,7,7,7,7,7,7,7,7,7,8,8,8,8,8,8,8,8,8,8,8,8,8,8,8,8,8,8,8,8,8,8,8,8,8,8,8,8,8,8,8,8,8,8,8,8,8,8,8,8,8,8,8,8,8,8,8,8,8,8,8,8,8,8,8,8,8,8,8,8,8,8,8,8,8,8,8,8,8,8,8,8,8,8,8,8,8,8,8,8,8,8,8,8,8,8,8,8,8,8,8,8,8,8,8,8,8,8,8,8,8,8,8,8,8,8,8,8,8,8,8,8,8,8,8,8,8,8,8,8,8,8,8,8,8,8,8,8]⟩:ByteArray) ((x0 / 65536) % 256)))))) else (none)) else (none))) else (if x0 ≥ 256 then (if 0≤((x0 / 256) % 256) then (if ((x0 / 256) % 256) < 256 then (some (wrap64 ((wrap64 (x2 + 8)) + (wrap64 (bt (⟨#[0,1,2,2,3,3,3,3,4,4,4,4,4,4,4,4,5,5,5,5,5,5,5,5,5,5,5,5,5,5,5,5,6,6,6,6,6,6,6,6,6,6,6,6,6,6,6,6,6,6,6,6,6,6,6,6,6,6,6,6,6,6,6,6,7,7,7,7,7,7,7,7,7,7,7,7,7,7,7,7,7,7,7,7,7,7,7,7,7,7,7,7,7,7,7,7,7,7,7,7,7,7,7,7,7,7,7,7,7,7,7,7,7,7,7,7,7,7,7,7,7,7,7,7,7,7,7,7,8,8,8,8,8,8,8,8,8,8,8,8,8,8,8,8,8,8,8,8,8,8,8,8,8,8,8,8,8,8,8,8,8,8,8,8,8,8,8,8,8,8,8,8,8,8,8,8,8,8,8,8,8,8,8,8,8,8,8,8,8,8,8,8,8,8,8,8,8,8,8,8,8,8,8,8,8,8,8,8,8,8,8,8,8,8,8,8,8,8,8,8,8,8,8,8,8,8,8,8,8,8,8,8,8,8,8,8,8,8,8,8,8,8,8,8,8,8,8,8,8,8,8,8,8,8,8,8]⟩:ByteArray) ((x0 / 256) % 256)))))) else (none)) else (none)) else (if 0≤((x0) % 256) then (if ((x0) % 256) < 256 then (some (wrap64 (x2 + (wrap64 (bt (⟨#[0,1,2,2,3,3,3,3,4,4,4,4,4,4,4,4,5,5,5,5,5,5,5,5,5,5,5,5,5,5,5,5,6,6,6,6,6,6,6,6,6,6,6,6,6,6,6,6,6,6,6,6,6,6,6,6,6,6,6,6,6,6,6,6,7,7,7,7,7,7,7,7,7,7,7,7,7,7,7,7,7,7,7,7,7,7,7,7,7,7,7,7,7,7,7,7,7,7,7,7,7,7,7,7,7,7,7,7,7,7,7,7,7,7,7,7,7,7,7,7,7,7,7,7,7,7,7,7,8,8,8,8,8,8,8,8,8,8,8,8,8,8,8,8,8,8,8,8,8,8,8,8,8,8,8,8,8,8,8,8,8,8,8,8,8,8,8,8,8,8,8,8,8,8,8,8,8,8,8,8,8,8,8,8,8,8,8,8,8,8,8,8,8,8,8,8,8,8,8,8,8,8,8,8,8,8,8,8,8,8,8,8,8,8,8,8,8,8,8,8,8,8,8,8,8,8,8,8,8,8,8,8,8,8,8,8,8,8,8,8,8,8,8,8,8,8,8,8,8,8,8,8,8,8,8,8]⟩:ByteArray) ((x0) % 256)))))) else (none)) else (none)))
def bits_Len64.f (k:Nat) (a0:Int):Option (Int):=if a0 ≥ 4294967296 then (bits_Len64.j0 k (a0 / 4294967296) 32) else (bits_Len64.j0 k a0 0)
theorem bits_Len64.mono_l : ∀ k,(∀ y0 y1,LeO (bits_Len64.j0 k y0 y1) (bits_Len64.j0 (k + 1) y0 y1))
  | 0=>fun _ _ r h=>by simp [bits_Len64.j0] at h
  | k + 1=>by
    have ih0:=bits_Len64.mono_l k
    · intro y0 y1
      unfold bits_Len64.j0
      repeat' first
      | (with_reducible exact ih0 _ _)
      | (with_reducible exact LeO.refl _)
      | (with_reducible exact LeO.none _)
      | (with_reducible refine LeO.ite ?_ ?_)
      | (with_reducible refine LeO.bind ?_ (fun _=>?_))
      | exact ih0 _ _
      | exact LeO.none _
      | refine LeO.ite ?_ ?_
      | refine LeO.bind ?_ (fun _=>?_)
theorem bits_Len64.mono : ∀ a0 k,LeO (bits_Len64.f k a0) (bits_Len64.f (k + 1) a0):=by
  intro a0 k
  have ih0:=bits_Len64.mono_l k
  unfold bits_Len64.f
  repeat' first
      | (with_reducible exact ih0 _ _)
      | (with_reducible exact LeO.refl _)
      | (with_reducible exact LeO.none _)
      | (with_reducible refine LeO.ite ?_ ?_)
      | (with_reducible refine LeO.bind ?_ (fun _=>?_))
      | exact ih0 _ _
      | exact LeO.none _
      | refine LeO.ite ?_ ?_
      | refine LeO.bind ?_ (fun _=>?_)
def toD (x:S28):D3:=(x.f0,x.f1,x.f2)
def ofP (x:D3×D3):S55:=⟨⟨x.1.1,x.1.2.1,x.1.2.2⟩,⟨x.2.1,x.2.2.1,x.2.2.2⟩⟩
def split_Parts.f (a0_0 a0_1 a0_2 a1_0 a1_1 a1_2:Int) (l2:List S28):Option (List S55×Int) :=
  if l2.length≤1000000000000 then some ((partsD wrD (a0_0,a0_1,a0_2) (a1_0,a1_1,a1_2) (l2.map toD)).1.map ofP,(partsD wrD (a0_0,a0_1,a0_2) (a1_0,a1_1,a1_2) (l2.map toD)).2) else none
def nat_Nat_Zero.f (l0_0:List Int):Option (Bool):=some ((l0_0.length:Int) == 0)
def whole_Of.f (l0_0:List Int) (a1:Bool):Option (List Int×Bool):=if a1=true then ((nat_Nat_Zero.f l0_0).bind fun t191=>(some (l0_0,!t191))) else (some (l0_0,false))
def nat_trimmed.l0:Nat→List Int→Int→Option (List Int)
  | 0,_,_=>none
  | k + 1,x0,x3=>if x3 > 0 then (if 0≤(wrap64 (x3 - 1)) then (if (wrap64 (x3 - 1)) < (x0.length:Int) then (if (rd x0 (wrap64 (x3 - 1)))=0 then (nat_trimmed.l0 k x0 (wrap64 (x3 - 1))) else (if 0≤x3 then (if x3≤(x0.length:Int) then (some (x0.take (x3:Int).toNat)) else (none)) else (none))) else (none)) else (none)) else (if 0≤x3 then (if x3≤(x0.length:Int) then (some (x0.take (x3:Int).toNat)) else (none)) else (none))
def nat_trimmed.f (k:Nat) (l0:List Int):Option (List Int):=nat_trimmed.l0 k l0 (l0.length:Int)
theorem nat_trimmed.mono_l : ∀ k,(∀ y0 y1,LeO (nat_trimmed.l0 k y0 y1) (nat_trimmed.l0 (k + 1) y0 y1))
  | 0=>fun _ _ r h=>by simp [nat_trimmed.l0] at h
  | k + 1=>by
    have ih0:=nat_trimmed.mono_l k
    · intro y0 y1
      unfold nat_trimmed.l0
      repeat' first
      | (with_reducible exact ih0 _ _)
      | (with_reducible exact LeO.refl _)
      | (with_reducible exact LeO.none _)
      | (with_reducible refine LeO.ite ?_ ?_)
      | (with_reducible refine LeO.bind ?_ (fun _=>?_))
      | exact ih0 _ _
      | exact LeO.none _
      | refine LeO.ite ?_ ?_
      | refine LeO.bind ?_ (fun _=>?_)
theorem nat_trimmed.mono : ∀ a0 k,LeO (nat_trimmed.f k a0) (nat_trimmed.f (k + 1) a0):=by
  intro a0 k
  have ih0:=nat_trimmed.mono_l k
  unfold nat_trimmed.f
  repeat' first
      | (with_reducible exact ih0 _ _)
      | (with_reducible exact LeO.refl _)
      | (with_reducible exact LeO.none _)
      | (with_reducible refine LeO.ite ?_ ?_)
      | (with_reducible refine LeO.bind ?_ (fun _=>?_))
      | exact ih0 _ _
      | exact LeO.none _
      | refine LeO.ite ?_ ?_
      | refine LeO.bind ?_ (fun _=>?_)
def slices_Clone_uint64_uint64.f (l0:List Int):Option (List Int):=(some (([]:List Int):List Int)).bind fun y204=>(if y204.length + l0.length < 17592186044416 then (some (y204 ++ l0)) else (none))
def nat_Of.f (k:Nat) (l0:List Int):Option (List Int):=(slices_Clone_uint64_uint64.f l0).bind fun t211=>((nat_trimmed.f k t211).bind fun t214=>(some t214))
theorem nat_Of.mono : ∀ a0 k,LeO (nat_Of.f k a0) (nat_Of.f (k + 1) a0):=by
  intro a0 k
  unfold nat_Of.f
  repeat' first
      | (with_reducible exact nat_trimmed.mono _ _)
      | (with_reducible exact LeO.refl _)
      | (with_reducible exact LeO.none _)
      | (with_reducible refine LeO.ite ?_ ?_)
      | (with_reducible refine LeO.bind ?_ (fun _=>?_))
      | exact nat_trimmed.mono _ _
      | exact LeO.none _
      | refine LeO.ite ?_ ?_
      | refine LeO.bind ?_ (fun _=>?_)
def whole_From.f (k:Nat) (a0:Int):Option (List Int×Bool):=if a0 < 0 then ((nat_Of.f k (([IntKind.u64.wrap (-(IntKind.u64.wrap (a0)))]:List Int))).bind fun t221=>((whole_Of.f t221 true).bind fun bt224=>(some (bt224.1,bt224.2)))) else ((nat_Of.f k (([IntKind.u64.wrap (a0)]:List Int))).bind fun t231=>((whole_Of.f t231 false).bind fun bt234=>(some (bt234.1,bt234.2))))
theorem whole_From.mono : ∀ a0 k,LeO (whole_From.f k a0) (whole_From.f (k + 1) a0):=by
  intro a0 k
  unfold whole_From.f
  repeat' first
      | (with_reducible exact nat_Of.mono _ _)
      | (with_reducible exact LeO.refl _)
      | (with_reducible exact LeO.none _)
      | (with_reducible refine LeO.ite ?_ ?_)
      | (with_reducible refine LeO.bind ?_ (fun _=>?_))
      | exact nat_Of.mono _ _
      | exact LeO.none _
      | refine LeO.ite ?_ ?_
      | refine LeO.bind ?_ (fun _=>?_)
def frac_From.f (l0_0:List Int) (a0_1:Bool):Option (List Int×Bool×List Int):=some (l0_0,a0_1,([]:List Int))
def count_Basis_good.f (a0:Int):Option (Bool):=if a0 ≥ 0 then (some (decide (a0 < 3))) else (some false)
def whole_Int_Sign.f (l0_0:List Int) (a0_1:Bool):Option (Int):=(nat_Nat_Zero.f l0_0).bind fun t241=>(if t241=true then (some 0) else (if a0_1=true then (some (-1)) else (some 1)))
def whole_Int_Neg.f (l0_0:List Int) (a0_1:Bool):Option (List Int×Bool):=(whole_Of.f l0_0 (!a0_1)).bind fun bt244=>(some (bt244.1,bt244.2))
def whole_Int_Abs.f (l0_0:List Int) (a0_1:Bool):Option (List Int):=some l0_0
def nat_Nat_Limbs.f (l0_0:List Int):Option (List Int):=(slices_Clone_uint64_uint64.f l0_0).bind fun t251=>(some t251)
def cmp_isNaN_uint64.f (a0:Int):Option (Bool):=some (a0 != a0)
def cmp_Compare_uint64.f (a0:Int) (a1:Int):Option (Int):=(cmp_isNaN_uint64.f a0).bind fun t254=>((cmp_isNaN_uint64.f a1).bind fun t255=>(if t254=true then (if t255=true then (some 0) else (some (-1))) else (if t255=true then (some 1) else (if a0 < a1 then (some (-1)) else (if a0 > a1 then (some 1) else (some 0))))))
def nat_Nat_Cmp.l0:Nat→Int→List Int→List Int→Option (Int)
  | 0,_,_,_=>none
  | k + 1,x6,x257000,x258000=>if x6 ≥ 0 then (if 0≤x6 then (if x6 < (x257000.length:Int) then (if x6 < (x258000.length:Int) then ((cmp_Compare_uint64.f (rd x257000 x6) (rd x258000 x6)).bind fun t261=>(if t261=0 then (nat_Nat_Cmp.l0 k (wrap64 (x6 - 1)) x257000 x258000) else (some t261))) else (none)) else (none)) else (none)) else (some 0)
def nat_Nat_Cmp.f (k:Nat) (l0_0:List Int) (l1_0:List Int):Option (Int):=(cmp_Compare_int.f (l0_0.length:Int) (l1_0.length:Int)).bind fun t258=>(if t258=0 then (nat_Nat_Cmp.l0 k (wrap64 ((l0_0.length:Int) - 1)) l0_0 l1_0) else (some t258))
theorem nat_Nat_Cmp.mono_l : ∀ k,(∀ y0 y1 y2,LeO (nat_Nat_Cmp.l0 k y0 y1 y2) (nat_Nat_Cmp.l0 (k + 1) y0 y1 y2))
  | 0=>fun _ _ _ r h=>by simp [nat_Nat_Cmp.l0] at h
  | k + 1=>by
    have ih0:=nat_Nat_Cmp.mono_l k
    · intro y0 y1 y2
      unfold nat_Nat_Cmp.l0
      repeat' first
      | (with_reducible exact ih0 _ _ _)
      | (with_reducible exact LeO.refl _)
      | (with_reducible exact LeO.none _)
      | (with_reducible refine LeO.ite ?_ ?_)
      | (with_reducible refine LeO.bind ?_ (fun _=>?_))
      | exact ih0 _ _ _
      | exact LeO.none _
      | refine LeO.ite ?_ ?_
      | refine LeO.bind ?_ (fun _=>?_)
theorem nat_Nat_Cmp.mono : ∀ a0 a1 k,LeO (nat_Nat_Cmp.f k a0 a1) (nat_Nat_Cmp.f (k + 1) a0 a1):=by
  intro a0 a1 k
  have ih0:=nat_Nat_Cmp.mono_l k
  unfold nat_Nat_Cmp.f
  repeat' first
      | (with_reducible exact ih0 _ _ _)
      | (with_reducible exact LeO.refl _)
      | (with_reducible exact LeO.none _)
      | (with_reducible refine LeO.ite ?_ ?_)
      | (with_reducible refine LeO.bind ?_ (fun _=>?_))
      | exact ih0 _ _ _
      | exact LeO.none _
      | refine LeO.ite ?_ ?_
      | refine LeO.bind ?_ (fun _=>?_)
def bits_LeadingZeros64.f (k:Nat) (a0:Int):Option (Int):=(bits_Len64.f k a0).bind fun t262=>(some (wrap64 (64 - t262)))
theorem bits_LeadingZeros64.mono : ∀ a0 k,LeO (bits_LeadingZeros64.f k a0) (bits_LeadingZeros64.f (k + 1) a0):=by
  intro a0 k
  unfold bits_LeadingZeros64.f
  repeat' first
      | (with_reducible exact bits_Len64.mono _ _)
      | (with_reducible exact LeO.refl _)
      | (with_reducible exact LeO.none _)
      | (with_reducible refine LeO.ite ?_ ?_)
      | (with_reducible refine LeO.bind ?_ (fun _=>?_))
      | exact bits_Len64.mono _ _
      | exact LeO.none _
      | refine LeO.ite ?_ ?_
      | refine LeO.bind ?_ (fun _=>?_)
mutual
def bits_Div64.j2:Nat→Int→Int→Int→Int→Int→Int→Int→Int→Option (Int×Int)
  | 0,_,_,_,_,_,_,_,_=>none
  | k + 1,x2,x8,x9,x10,x11,x13,x14,x15=>if x9=0 then (none) else (bits_Div64.l1 k x2 x8 x9 x10 x14 x15 (IntKind.u64.wrap ((IntKind.u64.wrap ((IntKind.u64.wrap ((IntKind.u64.wrap (x11 * 4294967296)) + x13)) - (IntKind.u64.wrap (x15 * x2)))) - (IntKind.u64.wrap ((IntKind.u64.wrap (Int.tdiv (IntKind.u64.wrap ((IntKind.u64.wrap ((IntKind.u64.wrap (x11 * 4294967296)) + x13)) - (IntKind.u64.wrap (x15 * x2)))) x9)) * x9)))) (IntKind.u64.wrap ((IntKind.u64.wrap ((IntKind.u64.wrap (x11 * 4294967296)) + x13)) - (IntKind.u64.wrap (x15 * x2)))) (IntKind.u64.wrap (Int.tdiv (IntKind.u64.wrap ((IntKind.u64.wrap ((IntKind.u64.wrap (x11 * 4294967296)) + x13)) - (IntKind.u64.wrap (x15 * x2)))) x9)))
def bits_Div64.l1:Nat→Int→Int→Int→Int→Int→Int→Int→Int→Int→Option (Int×Int)
  | 0,_,_,_,_,_,_,_,_,_=>none
  | k + 1,x2,x8,x9,x10,x14,x15,x16,x17,x18=>if x18 ≥ 4294967296 then (bits_Div64.j4 k x2 x8 x9 x10 x14 x15 x16 x17 x18 true) else (bits_Div64.j4 k x2 x8 x9 x10 x14 x15 x16 x17 x18 (decide ((IntKind.u64.wrap (x18 * x10)) > (IntKind.u64.wrap ((IntKind.u64.wrap (4294967296 * x16)) + x14)))))
def bits_Div64.j4:Nat→Int→Int→Int→Int→Int→Int→Int→Int→Int→Bool→Option (Int×Int)
  | 0,_,_,_,_,_,_,_,_,_,_=>none
  | k + 1,x2,x8,x9,x10,x14,x15,x16,x17,x18,x113=>if x113=true then (if (IntKind.u64.wrap (x16 + x9)) ≥ 4294967296 then (if 0≤x8 then (some (IntKind.u64.wrap ((IntKind.u64.wrap (x15 * 4294967296)) + (IntKind.u64.wrap (x18 - 1))),shr .u64 (IntKind.u64.wrap ((IntKind.u64.wrap ((IntKind.u64.wrap (x17 * 4294967296)) + x14)) - (IntKind.u64.wrap ((IntKind.u64.wrap (x18 - 1)) * x2)))) x8)) else (none)) else (bits_Div64.l1 k x2 x8 x9 x10 x14 x15 (IntKind.u64.wrap (x16 + x9)) x17 (IntKind.u64.wrap (x18 - 1)))) else (if 0≤x8 then (some (IntKind.u64.wrap ((IntKind.u64.wrap (x15 * 4294967296)) + x18),shr .u64 (IntKind.u64.wrap ((IntKind.u64.wrap ((IntKind.u64.wrap (x17 * 4294967296)) + x14)) - (IntKind.u64.wrap (x18 * x2)))) x8)) else (none))
def bits_Div64.l0:Nat→Int→Int→Int→Int→Int→Int→Int→Int→Int→Option (Int×Int)
  | 0,_,_,_,_,_,_,_,_,_=>none
  | k + 1,x2,x8,x9,x10,x11,x13,x14,x15,x16=>if x15 ≥ 4294967296 then (bits_Div64.j1 k x2 x8 x9 x10 x11 x13 x14 x15 x16 true) else (bits_Div64.j1 k x2 x8 x9 x10 x11 x13 x14 x15 x16 (decide ((IntKind.u64.wrap (x15 * x10)) > (IntKind.u64.wrap ((IntKind.u64.wrap (4294967296 * x16)) + x13)))))
def bits_Div64.j1:Nat→Int→Int→Int→Int→Int→Int→Int→Int→Int→Bool→Option (Int×Int)
  | 0,_,_,_,_,_,_,_,_,_,_=>none
  | k + 1,x2,x8,x9,x10,x11,x13,x14,x15,x16,x78=>if x78=true then (if (IntKind.u64.wrap (x16 + x9)) ≥ 4294967296 then (bits_Div64.j2 k x2 x8 x9 x10 x11 x13 x14 (IntKind.u64.wrap (x15 - 1))) else (bits_Div64.l0 k x2 x8 x9 x10 x11 x13 x14 (IntKind.u64.wrap (x15 - 1)) (IntKind.u64.wrap (x16 + x9)))) else (bits_Div64.j2 k x2 x8 x9 x10 x11 x13 x14 x15)
end
def bits_Div64.f (k:Nat) (a0:Int) (a1:Int) (a2:Int):Option (Int×Int):=if a2=0 then (none) else (if a2≤a0 then (none) else (if a0=0 then (some (IntKind.u64.wrap (Int.tdiv a1 a2),Int.tmod a1 a2)) else ((bits_LeadingZeros64.f k a2).bind fun t263=>(if 0≤(IntKind.u64.wrap (t263)) then (if 0≤(IntKind.u64.wrap (64 - (IntKind.u64.wrap (t263)))) then (if ((shl .u64 a2 (IntKind.u64.wrap (t263))) / 4294967296)=0 then (none) else (bits_Div64.l0 k (shl .u64 a2 (IntKind.u64.wrap (t263))) (IntKind.u64.wrap (t263)) ((shl .u64 a2 (IntKind.u64.wrap (t263))) / 4294967296) (Go.bits .and .u64 (shl .u64 a2 (IntKind.u64.wrap (t263))) 4294967295) (Go.bits .or .u64 (shl .u64 a0 (IntKind.u64.wrap (t263))) (shr .u64 a1 (IntKind.u64.wrap (64 - (IntKind.u64.wrap (t263)))))) ((shl .u64 a1 (IntKind.u64.wrap (t263))) / 4294967296) (Go.bits .and .u64 (shl .u64 a1 (IntKind.u64.wrap (t263))) 4294967295) (IntKind.u64.wrap (Int.tdiv (Go.bits .or .u64 (shl .u64 a0 (IntKind.u64.wrap (t263))) (shr .u64 a1 (IntKind.u64.wrap (64 - (IntKind.u64.wrap (t263)))))) ((shl .u64 a2 (IntKind.u64.wrap (t263))) / 4294967296))) (IntKind.u64.wrap ((Go.bits .or .u64 (shl .u64 a0 (IntKind.u64.wrap (t263))) (shr .u64 a1 (IntKind.u64.wrap (64 - (IntKind.u64.wrap (t263)))))) - (IntKind.u64.wrap ((IntKind.u64.wrap (Int.tdiv (Go.bits .or .u64 (shl .u64 a0 (IntKind.u64.wrap (t263))) (shr .u64 a1 (IntKind.u64.wrap (64 - (IntKind.u64.wrap (t263)))))) ((shl .u64 a2 (IntKind.u64.wrap (t263))) / 4294967296))) * ((shl .u64 a2 (IntKind.u64.wrap (t263))) / 4294967296))))))) else (none)) else (none)))))
theorem bits_Div64.mono_l : ∀ k,(∀ y0 y1 y2 y3 y4 y5 y6 y7,LeO (bits_Div64.j2 k y0 y1 y2 y3 y4 y5 y6 y7) (bits_Div64.j2 (k + 1) y0 y1 y2 y3 y4 y5 y6 y7))∧(∀ y0 y1 y2 y3 y4 y5 y6 y7 y8,LeO (bits_Div64.l1 k y0 y1 y2 y3 y4 y5 y6 y7 y8) (bits_Div64.l1 (k + 1) y0 y1 y2 y3 y4 y5 y6 y7 y8))∧(∀ y0 y1 y2 y3 y4 y5 y6 y7 y8 y9,LeO (bits_Div64.j4 k y0 y1 y2 y3 y4 y5 y6 y7 y8 y9) (bits_Div64.j4 (k + 1) y0 y1 y2 y3 y4 y5 y6 y7 y8 y9))∧(∀ y0 y1 y2 y3 y4 y5 y6 y7 y8,LeO (bits_Div64.l0 k y0 y1 y2 y3 y4 y5 y6 y7 y8) (bits_Div64.l0 (k + 1) y0 y1 y2 y3 y4 y5 y6 y7 y8))∧(∀ y0 y1 y2 y3 y4 y5 y6 y7 y8 y9,LeO (bits_Div64.j1 k y0 y1 y2 y3 y4 y5 y6 y7 y8 y9) (bits_Div64.j1 (k + 1) y0 y1 y2 y3 y4 y5 y6 y7 y8 y9))
  | 0=>⟨fun _ _ _ _ _ _ _ _ r h=>by simp [bits_Div64.j2] at h,fun _ _ _ _ _ _ _ _ _ r h=>by simp [bits_Div64.l1] at h,fun _ _ _ _ _ _ _ _ _ _ r h=>by simp [bits_Div64.j4] at h,fun _ _ _ _ _ _ _ _ _ r h=>by simp [bits_Div64.l0] at h,fun _ _ _ _ _ _ _ _ _ _ r h=>by simp [bits_Div64.j1] at h⟩
  | k + 1=>by
    obtain ⟨ih0,ih1,ih2,ih3,ih4⟩:=bits_Div64.mono_l k
    refine ⟨?_,?_,?_,?_,?_⟩
    · intro y0 y1 y2 y3 y4 y5 y6 y7
      unfold bits_Div64.j2
      repeat' first
      | (with_reducible exact ih0 _ _ _ _ _ _ _ _)
      | (with_reducible exact ih1 _ _ _ _ _ _ _ _ _)
      | (with_reducible exact ih2 _ _ _ _ _ _ _ _ _ _)
      | (with_reducible exact ih3 _ _ _ _ _ _ _ _ _)
      | (with_reducible exact ih4 _ _ _ _ _ _ _ _ _ _)
      | (with_reducible exact bits_LeadingZeros64.mono _ _)
      | (with_reducible exact LeO.refl _)
      | (with_reducible exact LeO.none _)
      | (with_reducible refine LeO.ite ?_ ?_)
      | (with_reducible refine LeO.bind ?_ (fun _=>?_))
      | exact ih0 _ _ _ _ _ _ _ _
      | exact ih1 _ _ _ _ _ _ _ _ _
      | exact ih2 _ _ _ _ _ _ _ _ _ _
      | exact ih3 _ _ _ _ _ _ _ _ _
      | exact ih4 _ _ _ _ _ _ _ _ _ _
      | exact bits_LeadingZeros64.mono _ _
      | exact LeO.none _
      | refine LeO.ite ?_ ?_
      | refine LeO.bind ?_ (fun _=>?_)
    · intro y0 y1 y2 y3 y4 y5 y6 y7 y8
      unfold bits_Div64.l1
      repeat' first
      | (with_reducible exact ih0 _ _ _ _ _ _ _ _)
      | (with_reducible exact ih1 _ _ _ _ _ _ _ _ _)
      | (with_reducible exact ih2 _ _ _ _ _ _ _ _ _ _)
      | (with_reducible exact ih3 _ _ _ _ _ _ _ _ _)
      | (with_reducible exact ih4 _ _ _ _ _ _ _ _ _ _)
      | (with_reducible exact bits_LeadingZeros64.mono _ _)
      | (with_reducible exact LeO.refl _)
      | (with_reducible exact LeO.none _)
      | (with_reducible refine LeO.ite ?_ ?_)
      | (with_reducible refine LeO.bind ?_ (fun _=>?_))
      | exact ih0 _ _ _ _ _ _ _ _
      | exact ih1 _ _ _ _ _ _ _ _ _
      | exact ih2 _ _ _ _ _ _ _ _ _ _
      | exact ih3 _ _ _ _ _ _ _ _ _
      | exact ih4 _ _ _ _ _ _ _ _ _ _
      | exact bits_LeadingZeros64.mono _ _
      | exact LeO.none _
      | refine LeO.ite ?_ ?_
      | refine LeO.bind ?_ (fun _=>?_)
    · intro y0 y1 y2 y3 y4 y5 y6 y7 y8 y9
      unfold bits_Div64.j4
      repeat' first
      | (with_reducible exact ih0 _ _ _ _ _ _ _ _)
      | (with_reducible exact ih1 _ _ _ _ _ _ _ _ _)
      | (with_reducible exact ih2 _ _ _ _ _ _ _ _ _ _)
      | (with_reducible exact ih3 _ _ _ _ _ _ _ _ _)
      | (with_reducible exact ih4 _ _ _ _ _ _ _ _ _ _)
      | (with_reducible exact bits_LeadingZeros64.mono _ _)
      | (with_reducible exact LeO.refl _)
      | (with_reducible exact LeO.none _)
      | (with_reducible refine LeO.ite ?_ ?_)
      | (with_reducible refine LeO.bind ?_ (fun _=>?_))
      | exact ih0 _ _ _ _ _ _ _ _
      | exact ih1 _ _ _ _ _ _ _ _ _
      | exact ih2 _ _ _ _ _ _ _ _ _ _
      | exact ih3 _ _ _ _ _ _ _ _ _
      | exact ih4 _ _ _ _ _ _ _ _ _ _
      | exact bits_LeadingZeros64.mono _ _
      | exact LeO.none _
      | refine LeO.ite ?_ ?_
      | refine LeO.bind ?_ (fun _=>?_)
    · intro y0 y1 y2 y3 y4 y5 y6 y7 y8
      unfold bits_Div64.l0
      repeat' first
      | (with_reducible exact ih0 _ _ _ _ _ _ _ _)
      | (with_reducible exact ih1 _ _ _ _ _ _ _ _ _)
      | (with_reducible exact ih2 _ _ _ _ _ _ _ _ _ _)
      | (with_reducible exact ih3 _ _ _ _ _ _ _ _ _)
      | (with_reducible exact ih4 _ _ _ _ _ _ _ _ _ _)
      | (with_reducible exact bits_LeadingZeros64.mono _ _)
      | (with_reducible exact LeO.refl _)
      | (with_reducible exact LeO.none _)
      | (with_reducible refine LeO.ite ?_ ?_)
      | (with_reducible refine LeO.bind ?_ (fun _=>?_))
      | exact ih0 _ _ _ _ _ _ _ _
      | exact ih1 _ _ _ _ _ _ _ _ _
      | exact ih2 _ _ _ _ _ _ _ _ _ _
      | exact ih3 _ _ _ _ _ _ _ _ _
      | exact ih4 _ _ _ _ _ _ _ _ _ _
      | exact bits_LeadingZeros64.mono _ _
      | exact LeO.none _
      | refine LeO.ite ?_ ?_
      | refine LeO.bind ?_ (fun _=>?_)
    · intro y0 y1 y2 y3 y4 y5 y6 y7 y8 y9
      unfold bits_Div64.j1
      repeat' first
      | (with_reducible exact ih0 _ _ _ _ _ _ _ _)
      | (with_reducible exact ih1 _ _ _ _ _ _ _ _ _)
      | (with_reducible exact ih2 _ _ _ _ _ _ _ _ _ _)
      | (with_reducible exact ih3 _ _ _ _ _ _ _ _ _)
      | (with_reducible exact ih4 _ _ _ _ _ _ _ _ _ _)
      | (with_reducible exact bits_LeadingZeros64.mono _ _)
      | (with_reducible exact LeO.refl _)
      | (with_reducible exact LeO.none _)
      | (with_reducible refine LeO.ite ?_ ?_)
      | (with_reducible refine LeO.bind ?_ (fun _=>?_))
      | exact ih0 _ _ _ _ _ _ _ _
      | exact ih1 _ _ _ _ _ _ _ _ _
      | exact ih2 _ _ _ _ _ _ _ _ _ _
      | exact ih3 _ _ _ _ _ _ _ _ _
      | exact ih4 _ _ _ _ _ _ _ _ _ _
      | exact bits_LeadingZeros64.mono _ _
      | exact LeO.none _
      | refine LeO.ite ?_ ?_
      | refine LeO.bind ?_ (fun _=>?_)
theorem bits_Div64.mono : ∀ a0 a1 a2 k,LeO (bits_Div64.f k a0 a1 a2) (bits_Div64.f (k + 1) a0 a1 a2):=by
  intro a0 a1 a2 k
  obtain ⟨ih0,ih1,ih2,ih3,ih4⟩:=bits_Div64.mono_l k
  unfold bits_Div64.f
  repeat' first
      | (with_reducible exact ih0 _ _ _ _ _ _ _ _)
      | (with_reducible exact ih1 _ _ _ _ _ _ _ _ _)
      | (with_reducible exact ih2 _ _ _ _ _ _ _ _ _ _)
      | (with_reducible exact ih3 _ _ _ _ _ _ _ _ _)
      | (with_reducible exact ih4 _ _ _ _ _ _ _ _ _ _)
      | (with_reducible exact bits_LeadingZeros64.mono _ _)
      | (with_reducible exact LeO.refl _)
      | (with_reducible exact LeO.none _)
      | (with_reducible refine LeO.ite ?_ ?_)
      | (with_reducible refine LeO.bind ?_ (fun _=>?_))
      | exact ih0 _ _ _ _ _ _ _ _
      | exact ih1 _ _ _ _ _ _ _ _ _
      | exact ih2 _ _ _ _ _ _ _ _ _ _
      | exact ih3 _ _ _ _ _ _ _ _ _
      | exact ih4 _ _ _ _ _ _ _ _ _ _
      | exact bits_LeadingZeros64.mono _ _
      | exact LeO.none _
      | refine LeO.ite ?_ ?_
      | refine LeO.bind ?_ (fun _=>?_)
def quot_by.l0:Nat→List Int→Int→List Int→Int→Int→Option (List Int×Int)
  | 0,_,_,_,_,_=>none
  | k + 1,x0,x1,x6,x7,x8=>if x8 ≥ 0 then (if 0≤x8 then (if x8 < (x0.length:Int) then ((bits_Div64.f k x7 (rd x0 x8) x1).bind fun bt268=>(if x8 < (x6.length:Int) then (quot_by.l0 k x0 x1 (x6.set (x8:Int).toNat bt268.1) bt268.2 (wrap64 (x8 - 1))) else (none))) else (none)) else (none)) else (some (x6,x7))
def quot_by.f (k:Nat) (l0:List Int) (a1:Int):Option (List Int×Int):=if 0≤(l0.length:Int) then (if ((l0.length:Int):Int).toNat≤35184372088832 then (quot_by.l0 k l0 a1 (List.replicate ((l0.length:Int):Int).toNat 0) 0 (wrap64 ((l0.length:Int) - 1))) else (none)) else (none)
theorem quot_by.mono_l : ∀ k,(∀ y0 y1 y2 y3 y4,LeO (quot_by.l0 k y0 y1 y2 y3 y4) (quot_by.l0 (k + 1) y0 y1 y2 y3 y4))
  | 0=>fun _ _ _ _ _ r h=>by simp [quot_by.l0] at h
  | k + 1=>by
    have ih0:=quot_by.mono_l k
    · intro y0 y1 y2 y3 y4
      unfold quot_by.l0
      repeat' first
      | (with_reducible exact ih0 _ _ _ _ _)
      | (with_reducible exact bits_Div64.mono _ _ _ _)
      | (with_reducible exact LeO.refl _)
      | (with_reducible exact LeO.none _)
      | (with_reducible refine LeO.ite ?_ ?_)
      | (with_reducible refine LeO.bind ?_ (fun _=>?_))
      | exact ih0 _ _ _ _ _
      | exact bits_Div64.mono _ _ _ _
      | exact LeO.none _
      | refine LeO.ite ?_ ?_
      | refine LeO.bind ?_ (fun _=>?_)
theorem quot_by.mono : ∀ a0 a1 k,LeO (quot_by.f k a0 a1) (quot_by.f (k + 1) a0 a1):=by
  intro a0 a1 k
  have ih0:=quot_by.mono_l k
  unfold quot_by.f
  repeat' first
      | (with_reducible exact ih0 _ _ _ _ _)
      | (with_reducible exact bits_Div64.mono _ _ _ _)
      | (with_reducible exact LeO.refl _)
      | (with_reducible exact LeO.none _)
      | (with_reducible refine LeO.ite ?_ ?_)
      | (with_reducible refine LeO.bind ?_ (fun _=>?_))
      | exact ih0 _ _ _ _ _
      | exact bits_Div64.mono _ _ _ _
      | exact LeO.none _
      | refine LeO.ite ?_ ?_
      | refine LeO.bind ?_ (fun _=>?_)
def quot_moved.l0:Nat→Int→List Int→List Int→Int→Int→Option (List Int)
  | 0,_,_,_,_,_=>none
  | k + 1,x1,x5,x12,x13,x14=>if x14 < x13 then (if 0≤x14 then (if x14 < (x12.length:Int) then (if x14 < (x5.length:Int) then (if 0≤x1 then (if 0≤(IntKind.u64.wrap (64 - x1)) then (if 0≤(wrap64 (x14 + 1)) then (if (wrap64 (x14 + 1)) < (x5.length:Int) then (quot_moved.l0 k x1 ((x5.set (x14:Int).toNat (Go.bits .or .u64 (rd x5 x14) (shl .u64 (rd x12 x14) x1))).set ((wrap64 (x14 + 1)):Int).toNat (shr .u64 (rd x12 x14) (IntKind.u64.wrap (64 - x1)))) x12 x13 (wrap64 (x14 + 1))) else (none)) else (none)) else (none)) else (none)) else (none)) else (none)) else (none)) else (some x5)
def quot_moved.f (k:Nat) (l0:List Int) (a1:Int):Option (List Int):=if 0≤(wrap64 ((l0.length:Int) + 1)) then (if (wrap64 ((l0.length:Int) + 1):Int).toNat≤35184372088832 then (quot_moved.l0 k a1 (List.replicate (wrap64 ((l0.length:Int) + 1):Int).toNat 0) l0 (l0.length:Int) 0) else (none)) else (none)
theorem quot_moved.mono_l : ∀ k,(∀ y0 y1 y2 y3 y4,LeO (quot_moved.l0 k y0 y1 y2 y3 y4) (quot_moved.l0 (k + 1) y0 y1 y2 y3 y4))
  | 0=>fun _ _ _ _ _ r h=>by simp [quot_moved.l0] at h
  | k + 1=>by
    have ih0:=quot_moved.mono_l k
    · intro y0 y1 y2 y3 y4
      unfold quot_moved.l0
      repeat' first
      | (with_reducible exact ih0 _ _ _ _ _)
      | (with_reducible exact LeO.refl _)
      | (with_reducible exact LeO.none _)
      | (with_reducible refine LeO.ite ?_ ?_)
      | (with_reducible refine LeO.bind ?_ (fun _=>?_))
      | exact ih0 _ _ _ _ _
      | exact LeO.none _
      | refine LeO.ite ?_ ?_
      | refine LeO.bind ?_ (fun _=>?_)
theorem quot_moved.mono : ∀ a0 a1 k,LeO (quot_moved.f k a0 a1) (quot_moved.f (k + 1) a0 a1):=by
  intro a0 a1 k
  have ih0:=quot_moved.mono_l k
  unfold quot_moved.f
  repeat' first
      | (with_reducible exact ih0 _ _ _ _ _)
      | (with_reducible exact LeO.refl _)
      | (with_reducible exact LeO.none _)
      | (with_reducible refine LeO.ite ?_ ?_)
      | (with_reducible refine LeO.bind ?_ (fun _=>?_))
      | exact ih0 _ _ _ _ _
      | exact LeO.none _
      | refine LeO.ite ?_ ?_
      | refine LeO.bind ?_ (fun _=>?_)
def bits_Mul64.f (a0:Int) (a1:Int):Option (Int×Int):=some (IntKind.u64.wrap ((IntKind.u64.wrap ((IntKind.u64.wrap ((a0 / 4294967296) * (a1 / 4294967296))) + ((IntKind.u64.wrap ((IntKind.u64.wrap ((a0 / 4294967296) * (Go.bits .and .u64 a1 4294967295))) + ((IntKind.u64.wrap ((Go.bits .and .u64 a0 4294967295) * (Go.bits .and .u64 a1 4294967295))) / 4294967296))) / 4294967296))) + ((IntKind.u64.wrap ((Go.bits .and .u64 (IntKind.u64.wrap ((IntKind.u64.wrap ((a0 / 4294967296) * (Go.bits .and .u64 a1 4294967295))) + ((IntKind.u64.wrap ((Go.bits .and .u64 a0 4294967295) * (Go.bits .and .u64 a1 4294967295))) / 4294967296))) 4294967295) + (IntKind.u64.wrap ((Go.bits .and .u64 a0 4294967295) * (a1 / 4294967296))))) / 4294967296)),IntKind.u64.wrap (a0 * a1))
mutual
def quot_guess.l0:Nat→List Int→Int→Int→Int→Int→Option (Int)
  | 0,_,_,_,_,_=>none
  | k + 1,x1,x5,x8,x9,x10=>if 0≤(wrap64 (x5 - 2)) then (if (wrap64 (x5 - 2)) < (x1.length:Int) then ((bits_Mul64.f x9 (rd x1 (wrap64 (x5 - 2)))).bind fun bt286=>(if bt286.1 < x10 then (quot_guess.j1 k x1 x5 x8 x9 x10 true) else (if bt286.1=x10 then (quot_guess.j1 k x1 x5 x8 x9 x10 (decide (bt286.2≤x8))) else (quot_guess.j1 k x1 x5 x8 x9 x10 false)))) else (none)) else (none)
def quot_guess.j1:Nat→List Int→Int→Int→Int→Int→Bool→Option (Int)
  | 0,_,_,_,_,_,_=>none
  | k + 1,x1,x5,x8,x9,x10,x71=>if x71=true then (some x9) else (if 0≤(wrap64 (x5 - 1)) then (if (wrap64 (x5 - 1)) < (x1.length:Int) then (if (add64c x10 (rd x1 (wrap64 (x5 - 1))) 0)=0 then (quot_guess.l0 k x1 x5 x8 (IntKind.u64.wrap (x9 - 1)) (add64s x10 (rd x1 (wrap64 (x5 - 1))) 0)) else (some (IntKind.u64.wrap (x9 - 1)))) else (none)) else (none))
end
def quot_guess.f (k:Nat) (l0:List Int) (l1:List Int):Option (Int):=if 0≤(l1.length:Int) then (if (l1.length:Int) < (l0.length:Int) then (if 0≤(wrap64 ((l1.length:Int) - 1)) then (if (wrap64 ((l1.length:Int) - 1)) < (l0.length:Int) then (if 0≤(wrap64 ((l1.length:Int) - 2)) then (if (wrap64 ((l1.length:Int) - 2)) < (l0.length:Int) then (if (wrap64 ((l1.length:Int) - 1)) < (l1.length:Int) then (if (rd l0 (l1.length:Int)) ≥ (rd l1 (wrap64 ((l1.length:Int) - 1))) then (some 18446744073709551615) else ((bits_Div64.f k (rd l0 (l1.length:Int)) (rd l0 (wrap64 ((l1.length:Int) - 1))) (rd l1 (wrap64 ((l1.length:Int) - 1)))).bind fun bt283=>(quot_guess.l0 k l1 (l1.length:Int) (rd l0 (wrap64 ((l1.length:Int) - 2))) bt283.1 bt283.2))) else (none)) else (none)) else (none)) else (none)) else (none)) else (none)) else (none)
theorem quot_guess.mono_l : ∀ k,(∀ y0 y1 y2 y3 y4,LeO (quot_guess.l0 k y0 y1 y2 y3 y4) (quot_guess.l0 (k + 1) y0 y1 y2 y3 y4))∧(∀ y0 y1 y2 y3 y4 y5,LeO (quot_guess.j1 k y0 y1 y2 y3 y4 y5) (quot_guess.j1 (k + 1) y0 y1 y2 y3 y4 y5))
  | 0=>⟨fun _ _ _ _ _ r h=>by simp [quot_guess.l0] at h,fun _ _ _ _ _ _ r h=>by simp [quot_guess.j1] at h⟩
  | k + 1=>by
    obtain ⟨ih0,ih1⟩:=quot_guess.mono_l k
    refine ⟨?_,?_⟩
    · intro y0 y1 y2 y3 y4
      unfold quot_guess.l0
      repeat' first
      | (with_reducible exact ih0 _ _ _ _ _)
      | (with_reducible exact ih1 _ _ _ _ _ _)
      | (with_reducible exact bits_Div64.mono _ _ _ _)
      | (with_reducible exact LeO.refl _)
      | (with_reducible exact LeO.none _)
      | (with_reducible refine LeO.ite ?_ ?_)
      | (with_reducible refine LeO.bind ?_ (fun _=>?_))
      | exact ih0 _ _ _ _ _
      | exact ih1 _ _ _ _ _ _
      | exact bits_Div64.mono _ _ _ _
      | exact LeO.none _
      | refine LeO.ite ?_ ?_
      | refine LeO.bind ?_ (fun _=>?_)
    · intro y0 y1 y2 y3 y4 y5
      unfold quot_guess.j1
      repeat' first
      | (with_reducible exact ih0 _ _ _ _ _)
      | (with_reducible exact ih1 _ _ _ _ _ _)
      | (with_reducible exact bits_Div64.mono _ _ _ _)
      | (with_reducible exact LeO.refl _)
      | (with_reducible exact LeO.none _)
      | (with_reducible refine LeO.ite ?_ ?_)
      | (with_reducible refine LeO.bind ?_ (fun _=>?_))
      | exact ih0 _ _ _ _ _
      | exact ih1 _ _ _ _ _ _
      | exact bits_Div64.mono _ _ _ _
      | exact LeO.none _
      | refine LeO.ite ?_ ?_
      | refine LeO.bind ?_ (fun _=>?_)
theorem quot_guess.mono : ∀ a0 a1 k,LeO (quot_guess.f k a0 a1) (quot_guess.f (k + 1) a0 a1):=by
  intro a0 a1 k
  obtain ⟨ih0,ih1⟩:=quot_guess.mono_l k
  unfold quot_guess.f
  repeat' first
      | (with_reducible exact ih0 _ _ _ _ _)
      | (with_reducible exact ih1 _ _ _ _ _ _)
      | (with_reducible exact bits_Div64.mono _ _ _ _)
      | (with_reducible exact LeO.refl _)
      | (with_reducible exact LeO.none _)
      | (with_reducible refine LeO.ite ?_ ?_)
      | (with_reducible refine LeO.bind ?_ (fun _=>?_))
      | exact ih0 _ _ _ _ _
      | exact ih1 _ _ _ _ _ _
      | exact bits_Div64.mono _ _ _ _
      | exact LeO.none _
      | refine LeO.ite ?_ ?_
      | refine LeO.bind ?_ (fun _=>?_)
def quot_guessW.f (k:Nat) (l0:List Int) (lo_ hi_:Int) (l1:List Int):Option (Int):=if 0≤lo_∧lo_ < hi_∧hi_≤(l0.length:Int) then quot_guess.f k ((l0.take hi_.toNat).drop lo_.toNat) l1 else none
theorem quot_guessW.mono : ∀ a0 a1 a2 a3 k,LeO (quot_guessW.f k a0 a1 a2 a3) (quot_guessW.f (k + 1) a0 a1 a2 a3):=by
  intro a0 a1 a2 a3 k
  unfold quot_guessW.f
  refine LeO.ite ?_ (LeO.none _)
  exact quot_guess.mono _ _ _
def quot_less.l0:Nat→List Int→List Int→Int→Int→Int→List Int→Int→Int→Option (Int×List Int)
  | 0,_,_,_,_,_,_,_,_=>none
  | k + 1,x0,x1,x2,x7,x8,x14,x15,x16=>if x16 < x15 then (if 0≤x16 then (if x16 < (x14.length:Int) then ((bits_Mul64.f (rd x14 x16) x2).bind fun bt290=>(if x16 < (x0.length:Int) then (if x8≤1 then (quot_less.l0 k (x0.set (x16:Int).toNat (sub64d (rd x0 x16) (add64s bt290.2 x7 0) x8)) x1 x2 (IntKind.u64.wrap (bt290.1 + (add64c bt290.2 x7 0))) (sub64b (rd x0 x16) (add64s bt290.2 x7 0) x8) x14 x15 (wrap64 (x16 + 1))) else (none)) else (none))) else (none)) else (none)) else (if 0≤(x1.length:Int) then (if (x1.length:Int) < (x0.length:Int) then (if x8≤1 then (some (sub64b (rd x0 (x1.length:Int)) x7 x8,(x0.set ((x1.length:Int):Int).toNat (sub64d (rd x0 (x1.length:Int)) x7 x8)))) else (none)) else (none)) else (none))
def quot_less.f (k:Nat) (l0:List Int) (l1:List Int) (a2:Int):Option (Int×List Int):=quot_less.l0 k l0 l1 a2 0 0 l1 (l1.length:Int) 0
theorem quot_less.mono_l : ∀ k,(∀ y0 y1 y2 y3 y4 y5 y6 y7,LeO (quot_less.l0 k y0 y1 y2 y3 y4 y5 y6 y7) (quot_less.l0 (k + 1) y0 y1 y2 y3 y4 y5 y6 y7))
  | 0=>fun _ _ _ _ _ _ _ _ r h=>by simp [quot_less.l0] at h
  | k + 1=>by
    have ih0:=quot_less.mono_l k
    · intro y0 y1 y2 y3 y4 y5 y6 y7
      unfold quot_less.l0
      repeat' first
      | (with_reducible exact ih0 _ _ _ _ _ _ _ _)
      | (with_reducible exact LeO.refl _)
      | (with_reducible exact LeO.none _)
      | (with_reducible refine LeO.ite ?_ ?_)
      | (with_reducible refine LeO.bind ?_ (fun _=>?_))
      | exact ih0 _ _ _ _ _ _ _ _
      | exact LeO.none _
      | refine LeO.ite ?_ ?_
      | refine LeO.bind ?_ (fun _=>?_)
theorem quot_less.mono : ∀ a0 a1 a2 k,LeO (quot_less.f k a0 a1 a2) (quot_less.f (k + 1) a0 a1 a2):=by
  intro a0 a1 a2 k
  have ih0:=quot_less.mono_l k
  unfold quot_less.f
  repeat' first
      | (with_reducible exact ih0 _ _ _ _ _ _ _ _)
      | (with_reducible exact LeO.refl _)
      | (with_reducible exact LeO.none _)
      | (with_reducible refine LeO.ite ?_ ?_)
      | (with_reducible refine LeO.bind ?_ (fun _=>?_))
      | exact ih0 _ _ _ _ _ _ _ _
      | exact LeO.none _
      | refine LeO.ite ?_ ?_
      | refine LeO.bind ?_ (fun _=>?_)
def quot_lessW.f (k:Nat) (l0:List Int) (lo_ hi_:Int) (l1:List Int) (a2:Int):Option (Int×List Int):=if 0≤lo_∧lo_ < hi_∧hi_≤(l0.length:Int) then (quot_less.f k ((l0.take hi_.toNat).drop lo_.toNat) l1 a2).map (fun r_=>(r_.1,l0.take lo_.toNat ++ r_.2 ++ l0.drop hi_.toNat)) else none
theorem quot_lessW.mono : ∀ a0 a1 a2 a3 a4 k,LeO (quot_lessW.f k a0 a1 a2 a3 a4) (quot_lessW.f (k + 1) a0 a1 a2 a3 a4):=by
  intro a0 a1 a2 a3 a4 k
  unfold quot_lessW.f
  refine LeO.ite ?_ (LeO.none _)
  intro r hr
  obtain ⟨r',h1,h2⟩:=Option.map_eq_some_iff.mp hr
  exact Option.map_eq_some_iff.mpr ⟨r',quot_less.mono _ _ _  k r' h1,h2⟩
def quot_back.l0:Nat→List Int→List Int→Int→List Int→Int→Int→Option (List Int)
  | 0,_,_,_,_,_,_=>none
  | k + 1,x0,x1,x4,x7,x8,x9=>if x9 < x8 then (if 0≤x9 then (if x9 < (x7.length:Int) then (if x9 < (x0.length:Int) then (if x4≤1 then (quot_back.l0 k (x0.set (x9:Int).toNat (add64s (rd x0 x9) (rd x7 x9) x4)) x1 (add64c (rd x0 x9) (rd x7 x9) x4) x7 x8 (wrap64 (x9 + 1))) else (none)) else (none)) else (none)) else (none)) else (if 0≤(x1.length:Int) then (if (x1.length:Int) < (x0.length:Int) then (some (x0.set ((x1.length:Int):Int).toNat (IntKind.u64.wrap ((rd x0 (x1.length:Int)) + x4)))) else (none)) else (none))
def quot_back.f (k:Nat) (l0:List Int) (l1:List Int):Option (List Int):=quot_back.l0 k l0 l1 0 l1 (l1.length:Int) 0
theorem quot_back.mono_l : ∀ k,(∀ y0 y1 y2 y3 y4 y5,LeO (quot_back.l0 k y0 y1 y2 y3 y4 y5) (quot_back.l0 (k + 1) y0 y1 y2 y3 y4 y5))
  | 0=>fun _ _ _ _ _ _ r h=>by simp [quot_back.l0] at h
  | k + 1=>by
    have ih0:=quot_back.mono_l k
    · intro y0 y1 y2 y3 y4 y5
      unfold quot_back.l0
      repeat' first
      | (with_reducible exact ih0 _ _ _ _ _ _)
      | (with_reducible exact LeO.refl _)
      | (with_reducible exact LeO.none _)
      | (with_reducible refine LeO.ite ?_ ?_)
      | (with_reducible refine LeO.bind ?_ (fun _=>?_))
      | exact ih0 _ _ _ _ _ _
      | exact LeO.none _
      | refine LeO.ite ?_ ?_
      | refine LeO.bind ?_ (fun _=>?_)
theorem quot_back.mono : ∀ a0 a1 k,LeO (quot_back.f k a0 a1) (quot_back.f (k + 1) a0 a1):=by
  intro a0 a1 k
  have ih0:=quot_back.mono_l k
  unfold quot_back.f
  repeat' first
      | (with_reducible exact ih0 _ _ _ _ _ _)
      | (with_reducible exact LeO.refl _)
      | (with_reducible exact LeO.none _)
      | (with_reducible refine LeO.ite ?_ ?_)
      | (with_reducible refine LeO.bind ?_ (fun _=>?_))
      | exact ih0 _ _ _ _ _ _
      | exact LeO.none _
      | refine LeO.ite ?_ ?_
      | refine LeO.bind ?_ (fun _=>?_)
def quot_backW.f (k:Nat) (l0:List Int) (lo_ hi_:Int) (l1:List Int):Option (List Int):=if 0≤lo_∧lo_ < hi_∧hi_≤(l0.length:Int) then (quot_back.f k ((l0.take hi_.toNat).drop lo_.toNat) l1).map (fun r_=>l0.take lo_.toNat ++ r_ ++ l0.drop hi_.toNat) else none
theorem quot_backW.mono : ∀ a0 a1 a2 a3 k,LeO (quot_backW.f k a0 a1 a2 a3) (quot_backW.f (k + 1) a0 a1 a2 a3):=by
  intro a0 a1 a2 a3 k
  unfold quot_backW.f
  refine LeO.ite ?_ (LeO.none _)
  intro r hr
  obtain ⟨r',h1,h2⟩:=Option.map_eq_some_iff.mp hr
  exact Option.map_eq_some_iff.mpr ⟨r',quot_back.mono _ _  k r' h1,h2⟩
def quot_wrong.f (a0:Int):Option (Bool):=if a0 < 0 then (some true) else (some (decide (a0 > 262144)))
def quot_Shr.l0:Nat→List Int→Int→Int→Int→Option (List Int×Int)
  | 0,_,_,_,_=>none
  | k + 1,x6,x7,x25,x26=>if x26 < x25 then (if 0≤x26 then (if x26 < (x6.length:Int) then (if 0≤x7 then ((some (x6.set (x26:Int).toNat (shr .u64 (rd x6 x26) x7):List Int)).bind fun y311=>(if (wrap64 (x26 + 1)) < (x6.length:Int) then (if 0≤(wrap64 (x26 + 1)) then (if 0≤(IntKind.u64.wrap (64 - x7)) then (quot_Shr.l0 k (y311.set (x26:Int).toNat (Go.bits .or .u64 (rd y311 x26) (shl .u64 (rd y311 (wrap64 (x26 + 1))) (IntKind.u64.wrap (64 - x7))))) x7 x25 (wrap64 (x26 + 1))) else (none)) else (none)) else (quot_Shr.l0 k y311 x7 x25 (wrap64 (x26 + 1))))) else (none)) else (none)) else (none)) else ((nat_Of.f k x6).bind fun t315=>(some (t315,0)))
def quot_Shr.f (k:Nat) (l0_0:List Int) (a1:Int):Option (List Int×Int):=(quot_wrong.f a1).bind fun t303=>(if t303=true then (some (([]:List Int),2)) else ((nat_Nat_Limbs.f l0_0).bind fun t304=>(if 0≤(mn (wrap64 (Int.tdiv a1 64)) (t304.length:Int)) then (if (mn (wrap64 (Int.tdiv a1 64)) (t304.length:Int))≤(t304.length:Int) then ((some (t304.drop ((mn (wrap64 (Int.tdiv a1 64)) (t304.length:Int)):Int).toNat:List Int)).bind fun y307=>(quot_Shr.l0 k y307 (IntKind.u64.wrap (Int.tmod a1 64)) (y307.length:Int) 0)) else (none)) else (none))))
theorem quot_Shr.mono_l : ∀ k,(∀ y0 y1 y2 y3,LeO (quot_Shr.l0 k y0 y1 y2 y3) (quot_Shr.l0 (k + 1) y0 y1 y2 y3))
  | 0=>fun _ _ _ _ r h=>by simp [quot_Shr.l0] at h
  | k + 1=>by
    have ih0:=quot_Shr.mono_l k
    · intro y0 y1 y2 y3
      unfold quot_Shr.l0
      repeat' first
      | (with_reducible exact ih0 _ _ _ _)
      | (with_reducible exact nat_Of.mono _ _)
      | (with_reducible exact LeO.refl _)
      | (with_reducible exact LeO.none _)
      | (with_reducible refine LeO.ite ?_ ?_)
      | (with_reducible refine LeO.bind ?_ (fun _=>?_))
      | exact ih0 _ _ _ _
      | exact nat_Of.mono _ _
      | exact LeO.none _
      | refine LeO.ite ?_ ?_
      | refine LeO.bind ?_ (fun _=>?_)
theorem quot_Shr.mono : ∀ a0 a1 k,LeO (quot_Shr.f k a0 a1) (quot_Shr.f (k + 1) a0 a1):=by
  intro a0 a1 k
  have ih0:=quot_Shr.mono_l k
  unfold quot_Shr.f
  repeat' first
      | (with_reducible exact ih0 _ _ _ _)
      | (with_reducible exact nat_Of.mono _ _)
      | (with_reducible exact LeO.refl _)
      | (with_reducible exact LeO.none _)
      | (with_reducible refine LeO.ite ?_ ?_)
      | (with_reducible refine LeO.bind ?_ (fun _=>?_))
      | exact ih0 _ _ _ _
      | exact nat_Of.mono _ _
      | exact LeO.none _
      | refine LeO.ite ?_ ?_
      | refine LeO.bind ?_ (fun _=>?_)
mutual
def quot_long.l0:Nat→List Int→List Int→Int→List Int→Int→Option (List Int×List Int)
  | 0,_,_,_,_,_=>none
  | k + 1,x0,x1,x6,x7,x8=>if x8 ≥ 0 then (if 0≤x8 then (if x8 < (wrap64 ((wrap64 (x8 + (x1.length:Int))) + 1)) then (if (wrap64 ((wrap64 (x8 + (x1.length:Int))) + 1))≤(x0.length:Int) then ((quot_guessW.f k x0 x8 (wrap64 ((wrap64 (x8 + (x1.length:Int))) + 1)) x1).bind fun t343=>((quot_lessW.f k x0 x8 (wrap64 ((wrap64 (x8 + (x1.length:Int))) + 1)) x1 t343).bind fun bt344=>(quot_long.l1 k bt344.2 x1 x6 x7 x8 t343 bt344.1))) else (none)) else (none)) else (none)) else ((nat_Of.f k x0).bind fun t332=>((quot_Shr.f k t332 (wrap64 (x6))).bind fun bt335=>((nat_Nat_Limbs.f bt335.1).bind fun t340=>(some (x7,t340)))))
def quot_long.l1:Nat→List Int→List Int→Int→List Int→Int→Int→Int→Option (List Int×List Int)
  | 0,_,_,_,_,_,_,_=>none
  | k + 1,x0,x1,x6,x7,x8,x10,x11=>if x11=0 then (if 0≤x8 then (if x8 < (x7.length:Int) then (quot_long.l0 k x0 x1 x6 (x7.set (x8:Int).toNat x10) (wrap64 (x8 - 1))) else (none)) else (none)) else ((quot_backW.f k x0 x8 (wrap64 ((wrap64 (x8 + (x1.length:Int))) + 1)) x1).bind fun t347=>(if 0≤x8 then (if 0≤(x1.length:Int) then (if (x1.length:Int) < (wrap64 ((wrap64 (x8 + (x1.length:Int))) + 1)) - x8 then (if 0≤((x1.length:Int) + x8) then (if ((x1.length:Int) + x8) < (x0.length:Int) then (if (rd t347 ((x1.length:Int) + x8))=0 then (quot_long.l1 k t347 x1 x6 x7 x8 (IntKind.u64.wrap (x10 - 1)) 0) else (quot_long.l1 k t347 x1 x6 x7 x8 (IntKind.u64.wrap (x10 - 1)) x11)) else (none)) else (none)) else (none)) else (none)) else (none)))
end
def quot_long.f (k:Nat) (l0:List Int) (l1:List Int):Option (List Int×List Int):=if 0≤(wrap64 ((l1.length:Int) - 1)) then (if (wrap64 ((l1.length:Int) - 1)) < (l1.length:Int) then ((bits_LeadingZeros64.f k (rd l1 (wrap64 ((l1.length:Int) - 1)))).bind fun t319=>((quot_moved.f k l0 (IntKind.u64.wrap (t319))).bind fun t320=>((quot_moved.f k l1 (IntKind.u64.wrap (t319))).bind fun t323=>(if 0≤(l1.length:Int) then (if (l1.length:Int)≤(t323.length:Int) then ((some (t323.take ((l1.length:Int):Int).toNat:List Int)).bind fun y326=>(if 0≤(wrap64 ((t320.length:Int) - (y326.length:Int))) then (if (wrap64 ((t320.length:Int) - (y326.length:Int)):Int).toNat≤35184372088832 then ((some (List.replicate (wrap64 ((t320.length:Int) - (y326.length:Int)):Int).toNat 0:List Int)).bind fun y329=>(quot_long.l0 k t320 y326 (IntKind.u64.wrap (t319)) y329 (wrap64 ((y329.length:Int) - 1)))) else (none)) else (none))) else (none)) else (none))))) else (none)) else (none)
theorem quot_long.mono_l : ∀ k,(∀ y0 y1 y2 y3 y4,LeO (quot_long.l0 k y0 y1 y2 y3 y4) (quot_long.l0 (k + 1) y0 y1 y2 y3 y4))∧(∀ y0 y1 y2 y3 y4 y5 y6,LeO (quot_long.l1 k y0 y1 y2 y3 y4 y5 y6) (quot_long.l1 (k + 1) y0 y1 y2 y3 y4 y5 y6))
  | 0=>⟨fun _ _ _ _ _ r h=>by simp [quot_long.l0] at h,fun _ _ _ _ _ _ _ r h=>by simp [quot_long.l1] at h⟩
  | k + 1=>by
    obtain ⟨ih0,ih1⟩:=quot_long.mono_l k
    refine ⟨?_,?_⟩
    · intro y0 y1 y2 y3 y4
      unfold quot_long.l0
      repeat' first
      | (with_reducible exact ih0 _ _ _ _ _)
      | (with_reducible exact ih1 _ _ _ _ _ _ _)
      | (with_reducible exact bits_LeadingZeros64.mono _ _)
      | (with_reducible exact nat_Of.mono _ _)
      | (with_reducible exact quot_Shr.mono _ _ _)
      | (with_reducible exact quot_backW.mono _ _ _ _ _)
      | (with_reducible exact quot_guessW.mono _ _ _ _ _)
      | (with_reducible exact quot_lessW.mono _ _ _ _ _ _)
      | (with_reducible exact quot_moved.mono _ _ _)
      | (with_reducible exact LeO.refl _)
      | (with_reducible exact LeO.none _)
      | (with_reducible refine LeO.ite ?_ ?_)
      | (with_reducible refine LeO.bind ?_ (fun _=>?_))
      | exact ih0 _ _ _ _ _
      | exact ih1 _ _ _ _ _ _ _
      | exact bits_LeadingZeros64.mono _ _
      | exact nat_Of.mono _ _
      | exact quot_Shr.mono _ _ _
      | exact quot_backW.mono _ _ _ _ _
      | exact quot_guessW.mono _ _ _ _ _
      | exact quot_lessW.mono _ _ _ _ _ _
      | exact quot_moved.mono _ _ _
      | exact LeO.none _
      | refine LeO.ite ?_ ?_
      | refine LeO.bind ?_ (fun _=>?_)
    · intro y0 y1 y2 y3 y4 y5 y6
      unfold quot_long.l1
      repeat' first
      | (with_reducible exact ih0 _ _ _ _ _)
      | (with_reducible exact ih1 _ _ _ _ _ _ _)
      | (with_reducible exact bits_LeadingZeros64.mono _ _)
      | (with_reducible exact nat_Of.mono _ _)
      | (with_reducible exact quot_Shr.mono _ _ _)
      | (with_reducible exact quot_backW.mono _ _ _ _ _)
      | (with_reducible exact quot_guessW.mono _ _ _ _ _)
      | (with_reducible exact quot_lessW.mono _ _ _ _ _ _)
      | (with_reducible exact quot_moved.mono _ _ _)
      | (with_reducible exact LeO.refl _)
      | (with_reducible exact LeO.none _)
      | (with_reducible refine LeO.ite ?_ ?_)
      | (with_reducible refine LeO.bind ?_ (fun _=>?_))
      | exact ih0 _ _ _ _ _
      | exact ih1 _ _ _ _ _ _ _
      | exact bits_LeadingZeros64.mono _ _
      | exact nat_Of.mono _ _
      | exact quot_Shr.mono _ _ _
      | exact quot_backW.mono _ _ _ _ _
      | exact quot_guessW.mono _ _ _ _ _
      | exact quot_lessW.mono _ _ _ _ _ _
      | exact quot_moved.mono _ _ _
      | exact LeO.none _
      | refine LeO.ite ?_ ?_
      | refine LeO.bind ?_ (fun _=>?_)
theorem quot_long.mono : ∀ a0 a1 k,LeO (quot_long.f k a0 a1) (quot_long.f (k + 1) a0 a1):=by
  intro a0 a1 k
  obtain ⟨ih0,ih1⟩:=quot_long.mono_l k
  unfold quot_long.f
  repeat' first
      | (with_reducible exact ih0 _ _ _ _ _)
      | (with_reducible exact ih1 _ _ _ _ _ _ _)
      | (with_reducible exact bits_LeadingZeros64.mono _ _)
      | (with_reducible exact nat_Of.mono _ _)
      | (with_reducible exact quot_Shr.mono _ _ _)
      | (with_reducible exact quot_backW.mono _ _ _ _ _)
      | (with_reducible exact quot_guessW.mono _ _ _ _ _)
      | (with_reducible exact quot_lessW.mono _ _ _ _ _ _)
      | (with_reducible exact quot_moved.mono _ _ _)
      | (with_reducible exact LeO.refl _)
      | (with_reducible exact LeO.none _)
      | (with_reducible refine LeO.ite ?_ ?_)
      | (with_reducible refine LeO.bind ?_ (fun _=>?_))
      | exact ih0 _ _ _ _ _
      | exact ih1 _ _ _ _ _ _ _
      | exact bits_LeadingZeros64.mono _ _
      | exact nat_Of.mono _ _
      | exact quot_Shr.mono _ _ _
      | exact quot_backW.mono _ _ _ _ _
      | exact quot_guessW.mono _ _ _ _ _
      | exact quot_lessW.mono _ _ _ _ _ _
      | exact quot_moved.mono _ _ _
      | exact LeO.none _
      | refine LeO.ite ?_ ?_
      | refine LeO.bind ?_ (fun _=>?_)
def quot_Div.f (k:Nat) (l0_0:List Int) (l1_0:List Int):Option (List Int×List Int×Int):=(nat_Nat_Zero.f l1_0).bind fun t353=>(if t353=true then (some (([]:List Int),([]:List Int),8)) else ((nat_Nat_Cmp.f k l0_0 l1_0).bind fun t354=>(if t354 < 0 then (some (([]:List Int),l0_0,0)) else ((nat_Nat_Limbs.f l0_0).bind fun t355=>((nat_Nat_Limbs.f l1_0).bind fun t358=>(if (t358.length:Int)=1 then (if 0 < (t358.length:Int) then ((quot_by.f k t355 (rd t358 0)).bind fun bt362=>((nat_Of.f k bt362.1).bind fun t366=>((nat_Of.f k (([bt362.2]:List Int))).bind fun t372=>(some (t366,t372,0))))) else (none)) else ((quot_long.f k t355 t358).bind fun bt375=>((nat_Of.f k bt375.1).bind fun t381=>((nat_Of.f k bt375.2).bind fun t384=>(some (t381,t384,0)))))))))))
theorem quot_Div.mono : ∀ a0 a1 k,LeO (quot_Div.f k a0 a1) (quot_Div.f (k + 1) a0 a1):=by
  intro a0 a1 k
  unfold quot_Div.f
  repeat' first
      | (with_reducible exact nat_Nat_Cmp.mono _ _ _)
      | (with_reducible exact nat_Of.mono _ _)
      | (with_reducible exact quot_by.mono _ _ _)
      | (with_reducible exact quot_long.mono _ _ _)
      | (with_reducible exact LeO.refl _)
      | (with_reducible exact LeO.none _)
      | (with_reducible refine LeO.ite ?_ ?_)
      | (with_reducible refine LeO.bind ?_ (fun _=>?_))
      | exact nat_Nat_Cmp.mono _ _ _
      | exact nat_Of.mono _ _
      | exact quot_by.mono _ _ _
      | exact quot_long.mono _ _ _
      | exact LeO.none _
      | refine LeO.ite ?_ ?_
      | refine LeO.bind ?_ (fun _=>?_)
def quot_Gcd.l0:Nat→List Int→List Int→Option (List Int)
  | 0,_,_=>none
  | k + 1,x388000,x389000=>(nat_Nat_Zero.f x389000).bind fun t390=>(if t390=true then (some x388000) else ((quot_Div.f k x388000 x389000).bind fun bt391=>(quot_Gcd.l0 k x389000 bt391.2.1)))
def quot_Gcd.f (k:Nat) (l0_0:List Int) (l1_0:List Int):Option (List Int):=quot_Gcd.l0 k l0_0 l1_0
theorem quot_Gcd.mono_l : ∀ k,(∀ y0 y1,LeO (quot_Gcd.l0 k y0 y1) (quot_Gcd.l0 (k + 1) y0 y1))
  | 0=>fun _ _ r h=>by simp [quot_Gcd.l0] at h
  | k + 1=>by
    have ih0:=quot_Gcd.mono_l k
    · intro y0 y1
      unfold quot_Gcd.l0
      repeat' first
      | (with_reducible exact ih0 _ _)
      | (with_reducible exact quot_Div.mono _ _ _)
      | (with_reducible exact LeO.refl _)
      | (with_reducible exact LeO.none _)
      | (with_reducible refine LeO.ite ?_ ?_)
      | (with_reducible refine LeO.bind ?_ (fun _=>?_))
      | exact ih0 _ _
      | exact quot_Div.mono _ _ _
      | exact LeO.none _
      | refine LeO.ite ?_ ?_
      | refine LeO.bind ?_ (fun _=>?_)
theorem quot_Gcd.mono : ∀ a0 a1 k,LeO (quot_Gcd.f k a0 a1) (quot_Gcd.f (k + 1) a0 a1):=by
  intro a0 a1 k
  have ih0:=quot_Gcd.mono_l k
  unfold quot_Gcd.f
  repeat' first
      | (with_reducible exact ih0 _ _)
      | (with_reducible exact quot_Div.mono _ _ _)
      | (with_reducible exact LeO.refl _)
      | (with_reducible exact LeO.none _)
      | (with_reducible refine LeO.ite ?_ ?_)
      | (with_reducible refine LeO.bind ?_ (fun _=>?_))
      | exact ih0 _ _
      | exact quot_Div.mono _ _ _
      | exact LeO.none _
      | refine LeO.ite ?_ ?_
      | refine LeO.bind ?_ (fun _=>?_)
def nat_Nat_limb.f (l0_0:List Int) (a1:Int):Option (Int):=if a1 ≥ (l0_0.length:Int) then (some 0) else (if 0≤a1 then (if a1 < (l0_0.length:Int) then (some (rd l0_0 a1)) else (none)) else (none))
def nat_Nat_Sub.l0:Nat→List Int→Int→Int→Int→List Int→List Int→Option (List Int×Bool)
  | 0,_,_,_,_,_,_=>none
  | k + 1,x6,x7,x19,x20,x403000,x404000=>if x20 < x19 then (if 0≤x20 then (if x20 < (x403000.length:Int) then ((nat_Nat_limb.f x404000 x20).bind fun t410=>(if x7≤1 then (if x20 < (x6.length:Int) then (nat_Nat_Sub.l0 k (x6.set (x20:Int).toNat (sub64d (rd x403000 x20) t410 x7)) (sub64b (rd x403000 x20) t410 x7) x19 (wrap64 (x20 + 1)) x403000 x404000) else (none)) else (none))) else (none)) else (none)) else ((nat_trimmed.f k x6).bind fun t412=>(some (t412,true)))
def nat_Nat_Sub.f (k:Nat) (l0_0:List Int) (l1_0:List Int):Option (List Int×Bool):=(nat_Nat_Cmp.f k l0_0 l1_0).bind fun t405=>(if t405 < 0 then (some (([]:List Int),false)) else (if 0≤(l0_0.length:Int) then (if ((l0_0.length:Int):Int).toNat≤35184372088832 then ((some (List.replicate ((l0_0.length:Int):Int).toNat 0:List Int)).bind fun y406=>(nat_Nat_Sub.l0 k y406 0 (y406.length:Int) 0 l0_0 l1_0)) else (none)) else (none)))
theorem nat_Nat_Sub.mono_l : ∀ k,(∀ y0 y1 y2 y3 y4 y5,LeO (nat_Nat_Sub.l0 k y0 y1 y2 y3 y4 y5) (nat_Nat_Sub.l0 (k + 1) y0 y1 y2 y3 y4 y5))
  | 0=>fun _ _ _ _ _ _ r h=>by simp [nat_Nat_Sub.l0] at h
  | k + 1=>by
    have ih0:=nat_Nat_Sub.mono_l k
    · intro y0 y1 y2 y3 y4 y5
      unfold nat_Nat_Sub.l0
      repeat' first
      | (with_reducible exact ih0 _ _ _ _ _ _)
      | (with_reducible exact nat_Nat_Cmp.mono _ _ _)
      | (with_reducible exact nat_trimmed.mono _ _)
      | (with_reducible exact LeO.refl _)
      | (with_reducible exact LeO.none _)
      | (with_reducible refine LeO.ite ?_ ?_)
      | (with_reducible refine LeO.bind ?_ (fun _=>?_))
      | exact ih0 _ _ _ _ _ _
      | exact nat_Nat_Cmp.mono _ _ _
      | exact nat_trimmed.mono _ _
      | exact LeO.none _
      | refine LeO.ite ?_ ?_
      | refine LeO.bind ?_ (fun _=>?_)
theorem nat_Nat_Sub.mono : ∀ a0 a1 k,LeO (nat_Nat_Sub.f k a0 a1) (nat_Nat_Sub.f (k + 1) a0 a1):=by
  intro a0 a1 k
  have ih0:=nat_Nat_Sub.mono_l k
  unfold nat_Nat_Sub.f
  repeat' first
      | (with_reducible exact ih0 _ _ _ _ _ _)
      | (with_reducible exact nat_Nat_Cmp.mono _ _ _)
      | (with_reducible exact nat_trimmed.mono _ _)
      | (with_reducible exact LeO.refl _)
      | (with_reducible exact LeO.none _)
      | (with_reducible refine LeO.ite ?_ ?_)
      | (with_reducible refine LeO.bind ?_ (fun _=>?_))
      | exact ih0 _ _ _ _ _ _
      | exact nat_Nat_Cmp.mono _ _ _
      | exact nat_trimmed.mono _ _
      | exact LeO.none _
      | refine LeO.ite ?_ ?_
      | refine LeO.bind ?_ (fun _=>?_)
def frac_made.f (k:Nat) (l0_0:List Int) (a0_1:Bool) (l1_0:List Int):Option (List Int×Bool×List Int):=(whole_Int_Abs.f l0_0 a0_1).bind fun t418=>((quot_Gcd.f k t418 l1_0).bind fun t421=>((whole_Int_Abs.f l0_0 a0_1).bind fun t425=>((quot_Div.f k t425 t421).bind fun bt428=>((quot_Div.f k l1_0 t421).bind fun bt437=>((nat_Of.f k (([1]:List Int))).bind fun t449=>((nat_Nat_Sub.f k bt437.1 t449).bind fun bt452=>((whole_Int_Sign.f l0_0 a0_1).bind fun t457=>((whole_Of.f bt428.1 (decide (t457 < 0))).bind fun bt458=>(some (bt458.1,bt458.2,bt452.1))))))))))
theorem frac_made.mono : ∀ a0 a1 a2 k,LeO (frac_made.f k a0 a1 a2) (frac_made.f (k + 1) a0 a1 a2):=by
  intro a0 a1 a2 k
  unfold frac_made.f
  repeat' first
      | (with_reducible exact nat_Nat_Sub.mono _ _ _)
      | (with_reducible exact nat_Of.mono _ _)
      | (with_reducible exact quot_Div.mono _ _ _)
      | (with_reducible exact quot_Gcd.mono _ _ _)
      | (with_reducible exact LeO.refl _)
      | (with_reducible exact LeO.none _)
      | (with_reducible refine LeO.ite ?_ ?_)
      | (with_reducible refine LeO.bind ?_ (fun _=>?_))
      | exact nat_Nat_Sub.mono _ _ _
      | exact nat_Of.mono _ _
      | exact quot_Div.mono _ _ _
      | exact quot_Gcd.mono _ _ _
      | exact LeO.none _
      | refine LeO.ite ?_ ?_
      | refine LeO.bind ?_ (fun _=>?_)
def frac_Of.f (k:Nat) (l0_0:List Int) (a0_1:Bool) (l1_0:List Int) (a1_1:Bool):Option (List Int×Bool×List Int×Int):=(whole_Int_Sign.f l1_0 a1_1).bind fun t465=>(if t465=0 then (some (([]:List Int),false,([]:List Int),8)) else (if t465=(-1) then ((whole_Int_Neg.f l0_0 a0_1).bind fun bt466=>((whole_Int_Abs.f l1_0 a1_1).bind fun t470=>((frac_made.f k bt466.1 bt466.2 t470).bind fun bt473=>(some (bt473.1,bt473.2.1,bt473.2.2,0))))) else ((whole_Int_Abs.f l1_0 a1_1).bind fun t480=>((frac_made.f k l0_0 a0_1 t480).bind fun bt483=>(some (bt483.1,bt483.2.1,bt483.2.2,0))))))
theorem frac_Of.mono : ∀ a0 a1 a2 a3 k,LeO (frac_Of.f k a0 a1 a2 a3) (frac_Of.f (k + 1) a0 a1 a2 a3):=by
  intro a0 a1 a2 a3 k
  unfold frac_Of.f
  repeat' first
      | (with_reducible exact frac_made.mono _ _ _ _)
      | (with_reducible exact LeO.refl _)
      | (with_reducible exact LeO.none _)
      | (with_reducible refine LeO.ite ?_ ?_)
      | (with_reducible refine LeO.bind ?_ (fun _=>?_))
      | exact frac_made.mono _ _ _ _
      | exact LeO.none _
      | refine LeO.ite ?_ ?_
      | refine LeO.bind ?_ (fun _=>?_)
def count_part.f (k:Nat) (a0:Int) (a1:Int):Option (List Int×Bool×List Int):=(whole_From.f k a0).bind fun bt491=>((whole_From.f k a1).bind fun bt495=>((frac_Of.f k bt491.1 bt491.2 bt495.1 bt495.2).bind fun bt499=>(some (bt499.1,bt499.2.1,bt499.2.2.1))))
theorem count_part.mono : ∀ a0 a1 k,LeO (count_part.f k a0 a1) (count_part.f (k + 1) a0 a1):=by
  intro a0 a1 k
  unfold count_part.f
  repeat' first
      | (with_reducible exact frac_Of.mono _ _ _ _ _)
      | (with_reducible exact whole_From.mono _ _)
      | (with_reducible exact LeO.refl _)
      | (with_reducible exact LeO.none _)
      | (with_reducible refine LeO.ite ?_ ?_)
      | (with_reducible refine LeO.bind ?_ (fun _=>?_))
      | exact frac_Of.mono _ _ _ _ _
      | exact whole_From.mono _ _
      | exact LeO.none _
      | refine LeO.ite ?_ ?_
      | refine LeO.bind ?_ (fun _=>?_)
def count_thirty.f (k:Nat) (a0_0:Int) (a0_1:Int) (a0_2:Int) (a1_0:Int) (a1_1:Int) (a1_2:Int):Option (List Int×Bool×List Int):=if a0_2 > 30 then (if a1_2 > 30 then (if 30=30 then ((count_part.f k (wrap64 ((wrap64 ((wrap64 ((wrap64 (360 * (wrap64 (a1_0 - a0_0)))) + (wrap64 (30 * (wrap64 (a1_1 - a0_1)))))) + 30)) - 30)) 360).bind fun bt511=>(some (bt511.1,bt511.2.1,bt511.2.2))) else ((count_part.f k (wrap64 ((wrap64 ((wrap64 ((wrap64 (360 * (wrap64 (a1_0 - a0_0)))) + (wrap64 (30 * (wrap64 (a1_1 - a0_1)))))) + a1_2)) - 30)) 360).bind fun bt518=>(some (bt518.1,bt518.2.1,bt518.2.2)))) else ((count_part.f k (wrap64 ((wrap64 ((wrap64 ((wrap64 (360 * (wrap64 (a1_0 - a0_0)))) + (wrap64 (30 * (wrap64 (a1_1 - a0_1)))))) + a1_2)) - 30)) 360).bind fun bt525=>(some (bt525.1,bt525.2.1,bt525.2.2)))) else (if a1_2 > 30 then (if a0_2=30 then ((count_part.f k (wrap64 ((wrap64 ((wrap64 ((wrap64 (360 * (wrap64 (a1_0 - a0_0)))) + (wrap64 (30 * (wrap64 (a1_1 - a0_1)))))) + 30)) - a0_2)) 360).bind fun bt532=>(some (bt532.1,bt532.2.1,bt532.2.2))) else ((count_part.f k (wrap64 ((wrap64 ((wrap64 ((wrap64 (360 * (wrap64 (a1_0 - a0_0)))) + (wrap64 (30 * (wrap64 (a1_1 - a0_1)))))) + a1_2)) - a0_2)) 360).bind fun bt539=>(some (bt539.1,bt539.2.1,bt539.2.2)))) else ((count_part.f k (wrap64 ((wrap64 ((wrap64 ((wrap64 (360 * (wrap64 (a1_0 - a0_0)))) + (wrap64 (30 * (wrap64 (a1_1 - a0_1)))))) + a1_2)) - a0_2)) 360).bind fun bt546=>(some (bt546.1,bt546.2.1,bt546.2.2))))
theorem count_thirty.mono : ∀ a0 a1 a2 a3 a4 a5 k,LeO (count_thirty.f k a0 a1 a2 a3 a4 a5) (count_thirty.f (k + 1) a0 a1 a2 a3 a4 a5):=by
  intro a0 a1 a2 a3 a4 a5 k
  unfold count_thirty.f
  repeat' first
      | (with_reducible exact count_part.mono _ _ _)
      | (with_reducible exact LeO.refl _)
      | (with_reducible exact LeO.none _)
      | (with_reducible refine LeO.ite ?_ ?_)
      | (with_reducible refine LeO.bind ?_ (fun _=>?_))
      | exact count_part.mono _ _ _
      | exact LeO.none _
      | refine LeO.ite ?_ ?_
      | refine LeO.bind ?_ (fun _=>?_)
def month_Between.f (k:Nat) (a0_0:Int) (a0_1:Int) (a0_2:Int) (a1_0:Int) (a1_1:Int) (a1_2:Int):Option (Int×Int):=(date_Number.f k a0_0 a0_1 a0_2).bind fun bt555=>(if bt555.2=0 then ((date_Number.f k a1_0 a1_1 a1_2).bind fun bt557=>(if bt557.2=0 then (some (wrap64 (bt557.1 - bt555.1),0)) else (some (0,bt557.2)))) else (some (0,bt555.2)))
theorem month_Between.mono : ∀ a0 a1 a2 a3 a4 a5 k,LeO (month_Between.f k a0 a1 a2 a3 a4 a5) (month_Between.f (k + 1) a0 a1 a2 a3 a4 a5):=by
  intro a0 a1 a2 a3 a4 a5 k
  unfold month_Between.f
  repeat' first
      | (with_reducible exact date_Number.mono _ _ _ _)
      | (with_reducible exact LeO.refl _)
      | (with_reducible exact LeO.none _)
      | (with_reducible refine LeO.ite ?_ ?_)
      | (with_reducible refine LeO.bind ?_ (fun _=>?_))
      | exact date_Number.mono _ _ _ _
      | exact LeO.none _
      | refine LeO.ite ?_ ?_
      | refine LeO.bind ?_ (fun _=>?_)
def count_days.f (k:Nat) (a0_0:Int) (a0_1:Int) (a0_2:Int) (a1_0:Int) (a1_1:Int) (a1_2:Int):Option (Int):=(month_Between.f k a0_0 a0_1 a0_2 a1_0 a1_1 a1_2).bind fun bt561=>(some bt561.1)
theorem count_days.mono : ∀ a0 a1 a2 a3 a4 a5 k,LeO (count_days.f k a0 a1 a2 a3 a4 a5) (count_days.f (k + 1) a0 a1 a2 a3 a4 a5):=by
  intro a0 a1 a2 a3 a4 a5 k
  unfold count_days.f
  repeat' first
      | (with_reducible exact month_Between.mono _ _ _ _ _ _ _)
      | (with_reducible exact LeO.refl _)
      | (with_reducible exact LeO.none _)
      | (with_reducible refine LeO.ite ?_ ?_)
      | (with_reducible refine LeO.bind ?_ (fun _=>?_))
      | exact month_Between.mono _ _ _ _ _ _ _
      | exact LeO.none _
      | refine LeO.ite ?_ ?_
      | refine LeO.bind ?_ (fun _=>?_)
def nat_Nat_Add.l0:Nat→List Int→Int→Int→Int→List Int→List Int→Option (List Int)
  | 0,_,_,_,_,_,_=>none
  | k + 1,x5,x6,x18,x19,x564000,x565000=>if x19 < x18 then ((nat_Nat_limb.f x564000 x19).bind fun t569=>((nat_Nat_limb.f x565000 x19).bind fun t570=>(if x6≤1 then (if 0≤x19 then (if x19 < (x5.length:Int) then (nat_Nat_Add.l0 k (x5.set (x19:Int).toNat (add64s t569 t570 x6)) (add64c t569 t570 x6) x18 (wrap64 (x19 + 1)) x564000 x565000) else (none)) else (none)) else (none)))) else ((nat_trimmed.f k x5).bind fun t572=>(some t572))
def nat_Nat_Add.f (k:Nat) (l0_0:List Int) (l1_0:List Int):Option (List Int):=if 0≤(wrap64 ((mx (l0_0.length:Int) (l1_0.length:Int)) + 1)) then (if (wrap64 ((mx (l0_0.length:Int) (l1_0.length:Int)) + 1):Int).toNat≤35184372088832 then ((some (List.replicate (wrap64 ((mx (l0_0.length:Int) (l1_0.length:Int)) + 1):Int).toNat 0:List Int)).bind fun y566=>(nat_Nat_Add.l0 k y566 0 (y566.length:Int) 0 l0_0 l1_0)) else (none)) else (none)
theorem nat_Nat_Add.mono_l : ∀ k,(∀ y0 y1 y2 y3 y4 y5,LeO (nat_Nat_Add.l0 k y0 y1 y2 y3 y4 y5) (nat_Nat_Add.l0 (k + 1) y0 y1 y2 y3 y4 y5))
  | 0=>fun _ _ _ _ _ _ r h=>by simp [nat_Nat_Add.l0] at h
  | k + 1=>by
    have ih0:=nat_Nat_Add.mono_l k
    · intro y0 y1 y2 y3 y4 y5
      unfold nat_Nat_Add.l0
      repeat' first
      | (with_reducible exact ih0 _ _ _ _ _ _)
      | (with_reducible exact nat_trimmed.mono _ _)
      | (with_reducible exact LeO.refl _)
      | (with_reducible exact LeO.none _)
      | (with_reducible refine LeO.ite ?_ ?_)
      | (with_reducible refine LeO.bind ?_ (fun _=>?_))
      | exact ih0 _ _ _ _ _ _
      | exact nat_trimmed.mono _ _
      | exact LeO.none _
      | refine LeO.ite ?_ ?_
      | refine LeO.bind ?_ (fun _=>?_)
theorem nat_Nat_Add.mono : ∀ a0 a1 k,LeO (nat_Nat_Add.f k a0 a1) (nat_Nat_Add.f (k + 1) a0 a1):=by
  intro a0 a1 k
  have ih0:=nat_Nat_Add.mono_l k
  unfold nat_Nat_Add.f
  repeat' first
      | (with_reducible exact ih0 _ _ _ _ _ _)
      | (with_reducible exact nat_trimmed.mono _ _)
      | (with_reducible exact LeO.refl _)
      | (with_reducible exact LeO.none _)
      | (with_reducible refine LeO.ite ?_ ?_)
      | (with_reducible refine LeO.bind ?_ (fun _=>?_))
      | exact ih0 _ _ _ _ _ _
      | exact nat_trimmed.mono _ _
      | exact LeO.none _
      | refine LeO.ite ?_ ?_
      | refine LeO.bind ?_ (fun _=>?_)
def frac_Frac_Den.f (k:Nat) (l0_0:List Int) (a0_1:Bool) (l0_2:List Int):Option (List Int):=(nat_Of.f k (([1]:List Int))).bind fun t580=>((nat_Nat_Add.f k l0_2 t580).bind fun t583=>(some t583))
theorem frac_Frac_Den.mono : ∀ a0 a1 a2 k,LeO (frac_Frac_Den.f k a0 a1 a2) (frac_Frac_Den.f (k + 1) a0 a1 a2):=by
  intro a0 a1 a2 k
  unfold frac_Frac_Den.f
  repeat' first
      | (with_reducible exact nat_Nat_Add.mono _ _ _)
      | (with_reducible exact nat_Of.mono _ _)
      | (with_reducible exact LeO.refl _)
      | (with_reducible exact LeO.none _)
      | (with_reducible refine LeO.ite ?_ ?_)
      | (with_reducible refine LeO.bind ?_ (fun _=>?_))
      | exact nat_Nat_Add.mono _ _ _
      | exact nat_Of.mono _ _
      | exact LeO.none _
      | refine LeO.ite ?_ ?_
      | refine LeO.bind ?_ (fun _=>?_)
def nat_Nat_row.l0:Nat→Int→List Int→Int→List Int→Int→Int→List Int→Option (List Int)
  | 0,_,_,_,_,_,_,_=>none
  | k + 1,x1,x2,x6,x13,x14,x15,x587000=>if x15 < x14 then (if 0≤x15 then (if x15 < (x13.length:Int) then ((bits_Mul64.f x1 (rd x13 x15)).bind fun bt588=>(if x15 < (x2.length:Int) then (nat_Nat_row.l0 k x1 (x2.set (x15:Int).toNat (add64s (rd x2 x15) (add64s bt588.2 x6 0) 0)) (IntKind.u64.wrap ((IntKind.u64.wrap (bt588.1 + (add64c bt588.2 x6 0))) + (add64c (rd x2 x15) (add64s bt588.2 x6 0) 0))) x13 x14 (wrap64 (x15 + 1)) x587000) else (none))) else (none)) else (none)) else (if 0≤(x587000.length:Int) then (if (x587000.length:Int) < (x2.length:Int) then (some (x2.set ((x587000.length:Int):Int).toNat (IntKind.u64.wrap ((rd x2 (x587000.length:Int)) + x6)))) else (none)) else (none))
def nat_Nat_row.f (k:Nat) (l0_0:List Int) (a1:Int) (l2:List Int):Option (List Int):=nat_Nat_row.l0 k a1 l2 0 l0_0 (l0_0.length:Int) 0 l0_0
theorem nat_Nat_row.mono_l : ∀ k,(∀ y0 y1 y2 y3 y4 y5 y6,LeO (nat_Nat_row.l0 k y0 y1 y2 y3 y4 y5 y6) (nat_Nat_row.l0 (k + 1) y0 y1 y2 y3 y4 y5 y6))
  | 0=>fun _ _ _ _ _ _ _ r h=>by simp [nat_Nat_row.l0] at h
  | k + 1=>by
    have ih0:=nat_Nat_row.mono_l k
    · intro y0 y1 y2 y3 y4 y5 y6
      unfold nat_Nat_row.l0
      repeat' first
      | (with_reducible exact ih0 _ _ _ _ _ _ _)
      | (with_reducible exact LeO.refl _)
      | (with_reducible exact LeO.none _)
      | (with_reducible refine LeO.ite ?_ ?_)
      | (with_reducible refine LeO.bind ?_ (fun _=>?_))
      | exact ih0 _ _ _ _ _ _ _
      | exact LeO.none _
      | refine LeO.ite ?_ ?_
      | refine LeO.bind ?_ (fun _=>?_)
theorem nat_Nat_row.mono : ∀ a0 a1 a2 k,LeO (nat_Nat_row.f k a0 a1 a2) (nat_Nat_row.f (k + 1) a0 a1 a2):=by
  intro a0 a1 a2 k
  have ih0:=nat_Nat_row.mono_l k
  unfold nat_Nat_row.f
  repeat' first
      | (with_reducible exact ih0 _ _ _ _ _ _ _)
      | (with_reducible exact LeO.refl _)
      | (with_reducible exact LeO.none _)
      | (with_reducible refine LeO.ite ?_ ?_)
      | (with_reducible refine LeO.bind ?_ (fun _=>?_))
      | exact ih0 _ _ _ _ _ _ _
      | exact LeO.none _
      | refine LeO.ite ?_ ?_
      | refine LeO.bind ?_ (fun _=>?_)
def nat_Nat_rowW.f (k:Nat) (l0_0:List Int) (a1:Int) (l2:List Int) (lo_ hi_:Int):Option (List Int):=if 0≤lo_∧lo_ < hi_∧hi_≤(l2.length:Int) then (nat_Nat_row.f k l0_0 a1 ((l2.take hi_.toNat).drop lo_.toNat)).map (fun r_=>l2.take lo_.toNat ++ r_ ++ l2.drop hi_.toNat) else none
theorem nat_Nat_rowW.mono : ∀ a0 a1 a2 a3 a4 k,LeO (nat_Nat_rowW.f k a0 a1 a2 a3 a4) (nat_Nat_rowW.f (k + 1) a0 a1 a2 a3 a4):=by
  intro a0 a1 a2 a3 a4 k
  unfold nat_Nat_rowW.f
  refine LeO.ite ?_ (LeO.none _)
  intro r hr
  obtain ⟨r',h1,h2⟩:=Option.map_eq_some_iff.mp hr
  exact Option.map_eq_some_iff.mpr ⟨r',nat_Nat_row.mono _ _ _  k r' h1,h2⟩
def nat_Nat_Mul.l0:Nat→List Int→List Int→Int→Int→List Int→Option (List Int)
  | 0,_,_,_,_,_=>none
  | k + 1,x5,x18,x19,x20,x595000=>if x20 < x19 then (if 0≤x20 then (if x20 < (x18.length:Int) then (if x20 < (x5.length:Int) then ((nat_Nat_rowW.f k x595000 (rd x18 x20) x5 x20 (x5.length:Int)).bind fun t601=>(nat_Nat_Mul.l0 k t601 x18 x19 (wrap64 (x20 + 1)) x595000)) else (none)) else (none)) else (none)) else ((nat_trimmed.f k x5).bind fun t602=>(some t602))
def nat_Nat_Mul.f (k:Nat) (l0_0:List Int) (l1_0:List Int):Option (List Int):=if 0≤(wrap64 ((wrap64 ((l0_0.length:Int) + (l1_0.length:Int))) + 1)) then (if (wrap64 ((wrap64 ((l0_0.length:Int) + (l1_0.length:Int))) + 1):Int).toNat≤35184372088832 then (nat_Nat_Mul.l0 k (List.replicate (wrap64 ((wrap64 ((l0_0.length:Int) + (l1_0.length:Int))) + 1):Int).toNat 0) l1_0 (l1_0.length:Int) 0 l0_0) else (none)) else (none)
theorem nat_Nat_Mul.mono_l : ∀ k,(∀ y0 y1 y2 y3 y4,LeO (nat_Nat_Mul.l0 k y0 y1 y2 y3 y4) (nat_Nat_Mul.l0 (k + 1) y0 y1 y2 y3 y4))
  | 0=>fun _ _ _ _ _ r h=>by simp [nat_Nat_Mul.l0] at h
  | k + 1=>by
    have ih0:=nat_Nat_Mul.mono_l k
    · intro y0 y1 y2 y3 y4
      unfold nat_Nat_Mul.l0
      repeat' first
      | (with_reducible exact ih0 _ _ _ _ _)
      | (with_reducible exact nat_Nat_rowW.mono _ _ _ _ _ _)
      | (with_reducible exact nat_trimmed.mono _ _)
      | (with_reducible exact LeO.refl _)
      | (with_reducible exact LeO.none _)
      | (with_reducible refine LeO.ite ?_ ?_)
      | (with_reducible refine LeO.bind ?_ (fun _=>?_))
      | exact ih0 _ _ _ _ _
      | exact nat_Nat_rowW.mono _ _ _ _ _ _
      | exact nat_trimmed.mono _ _
      | exact LeO.none _
      | refine LeO.ite ?_ ?_
      | refine LeO.bind ?_ (fun _=>?_)
theorem nat_Nat_Mul.mono : ∀ a0 a1 k,LeO (nat_Nat_Mul.f k a0 a1) (nat_Nat_Mul.f (k + 1) a0 a1):=by
  intro a0 a1 k
  have ih0:=nat_Nat_Mul.mono_l k
  unfold nat_Nat_Mul.f
  repeat' first
      | (with_reducible exact ih0 _ _ _ _ _)
      | (with_reducible exact nat_Nat_rowW.mono _ _ _ _ _ _)
      | (with_reducible exact nat_trimmed.mono _ _)
      | (with_reducible exact LeO.refl _)
      | (with_reducible exact LeO.none _)
      | (with_reducible refine LeO.ite ?_ ?_)
      | (with_reducible refine LeO.bind ?_ (fun _=>?_))
      | exact ih0 _ _ _ _ _
      | exact nat_Nat_rowW.mono _ _ _ _ _ _
      | exact nat_trimmed.mono _ _
      | exact LeO.none _
      | refine LeO.ite ?_ ?_
      | refine LeO.bind ?_ (fun _=>?_)
def whole_Int_Mul.f (k:Nat) (l0_0:List Int) (a0_1:Bool) (l1_0:List Int) (a1_1:Bool):Option (List Int×Bool):=(nat_Nat_Mul.f k l0_0 l1_0).bind fun t608=>((whole_Of.f t608 (a0_1 != a1_1)).bind fun bt611=>(some (bt611.1,bt611.2)))
theorem whole_Int_Mul.mono : ∀ a0 a1 a2 a3 k,LeO (whole_Int_Mul.f k a0 a1 a2 a3) (whole_Int_Mul.f (k + 1) a0 a1 a2 a3):=by
  intro a0 a1 a2 a3 k
  unfold whole_Int_Mul.f
  repeat' first
      | (with_reducible exact nat_Nat_Mul.mono _ _ _)
      | (with_reducible exact LeO.refl _)
      | (with_reducible exact LeO.none _)
      | (with_reducible refine LeO.ite ?_ ?_)
      | (with_reducible refine LeO.bind ?_ (fun _=>?_))
      | exact nat_Nat_Mul.mono _ _ _
      | exact LeO.none _
      | refine LeO.ite ?_ ?_
      | refine LeO.bind ?_ (fun _=>?_)
def frac_Frac_den.f (k:Nat) (l0_0:List Int) (a0_1:Bool) (l0_2:List Int):Option (List Int×Bool):=(frac_Frac_Den.f k l0_0 a0_1 l0_2).bind fun t617=>((whole_Of.f t617 false).bind fun bt620=>(some (bt620.1,bt620.2)))
theorem frac_Frac_den.mono : ∀ a0 a1 a2 k,LeO (frac_Frac_den.f k a0 a1 a2) (frac_Frac_den.f (k + 1) a0 a1 a2):=by
  intro a0 a1 a2 k
  unfold frac_Frac_den.f
  repeat' first
      | (with_reducible exact frac_Frac_Den.mono _ _ _ _)
      | (with_reducible exact LeO.refl _)
      | (with_reducible exact LeO.none _)
      | (with_reducible refine LeO.ite ?_ ?_)
      | (with_reducible refine LeO.bind ?_ (fun _=>?_))
      | exact frac_Frac_Den.mono _ _ _ _
      | exact LeO.none _
      | refine LeO.ite ?_ ?_
      | refine LeO.bind ?_ (fun _=>?_)
def whole_Int_Add.f (k:Nat) (l0_0:List Int) (a0_1:Bool) (l1_0:List Int) (a1_1:Bool):Option (List Int×Bool):=if (a0_1 == a1_1)=true then ((nat_Nat_Add.f k l0_0 l1_0).bind fun t627=>((whole_Of.f t627 a0_1).bind fun bt630=>(some (bt630.1,bt630.2)))) else ((nat_Nat_Sub.f k l0_0 l1_0).bind fun bt634=>(if bt634.2=true then ((whole_Of.f bt634.1 a0_1).bind fun bt639=>(some (bt639.1,bt639.2))) else ((nat_Nat_Sub.f k l1_0 l0_0).bind fun bt643=>((whole_Of.f bt643.1 a1_1).bind fun bt648=>(some (bt648.1,bt648.2))))))
theorem whole_Int_Add.mono : ∀ a0 a1 a2 a3 k,LeO (whole_Int_Add.f k a0 a1 a2 a3) (whole_Int_Add.f (k + 1) a0 a1 a2 a3):=by
  intro a0 a1 a2 a3 k
  unfold whole_Int_Add.f
  repeat' first
      | (with_reducible exact nat_Nat_Add.mono _ _ _)
      | (with_reducible exact nat_Nat_Sub.mono _ _ _)
      | (with_reducible exact LeO.refl _)
      | (with_reducible exact LeO.none _)
      | (with_reducible refine LeO.ite ?_ ?_)
      | (with_reducible refine LeO.bind ?_ (fun _=>?_))
      | exact nat_Nat_Add.mono _ _ _
      | exact nat_Nat_Sub.mono _ _ _
      | exact LeO.none _
      | refine LeO.ite ?_ ?_
      | refine LeO.bind ?_ (fun _=>?_)
def frac_Frac_Add.f (k:Nat) (l0_0:List Int) (a0_1:Bool) (l0_2:List Int) (l1_0:List Int) (a1_1:Bool) (l1_2:List Int):Option (List Int×Bool×List Int):=(frac_Frac_den.f k l1_0 a1_1 l1_2).bind fun bt655=>((whole_Int_Mul.f k l0_0 a0_1 bt655.1 bt655.2).bind fun bt659=>((frac_Frac_den.f k l0_0 a0_1 l0_2).bind fun bt663=>((whole_Int_Mul.f k l1_0 a1_1 bt663.1 bt663.2).bind fun bt667=>((whole_Int_Add.f k bt659.1 bt659.2 bt667.1 bt667.2).bind fun bt671=>((frac_Frac_Den.f k l0_0 a0_1 l0_2).bind fun t675=>((frac_Frac_Den.f k l1_0 a1_1 l1_2).bind fun t678=>((nat_Nat_Mul.f k t675 t678).bind fun t681=>((frac_made.f k bt671.1 bt671.2 t681).bind fun bt684=>(some (bt684.1,bt684.2.1,bt684.2.2))))))))))
theorem frac_Frac_Add.mono : ∀ a0 a1 a2 a3 a4 a5 k,LeO (frac_Frac_Add.f k a0 a1 a2 a3 a4 a5) (frac_Frac_Add.f (k + 1) a0 a1 a2 a3 a4 a5):=by
  intro a0 a1 a2 a3 a4 a5 k
  unfold frac_Frac_Add.f
  repeat' first
      | (with_reducible exact frac_Frac_Den.mono _ _ _ _)
      | (with_reducible exact frac_Frac_den.mono _ _ _ _)
      | (with_reducible exact frac_made.mono _ _ _ _)
      | (with_reducible exact nat_Nat_Mul.mono _ _ _)
      | (with_reducible exact whole_Int_Add.mono _ _ _ _ _)
      | (with_reducible exact whole_Int_Mul.mono _ _ _ _ _)
      | (with_reducible exact LeO.refl _)
      | (with_reducible exact LeO.none _)
      | (with_reducible refine LeO.ite ?_ ?_)
      | (with_reducible refine LeO.bind ?_ (fun _=>?_))
      | exact frac_Frac_Den.mono _ _ _ _
      | exact frac_Frac_den.mono _ _ _ _
      | exact frac_made.mono _ _ _ _
      | exact nat_Nat_Mul.mono _ _ _
      | exact whole_Int_Add.mono _ _ _ _ _
      | exact whole_Int_Mul.mono _ _ _ _ _
      | exact LeO.none _
      | refine LeO.ite ?_ ?_
      | refine LeO.bind ?_ (fun _=>?_)
def count_year.f (a0:Int):Option (Int):=(date_Leap.f a0).bind fun t691=>(if t691=true then (some 366) else (some 365))
def count_actual.f (k:Nat) (a0_0:Int) (a0_1:Int) (a0_2:Int) (a1_0:Int) (a1_1:Int) (a1_2:Int):Option (List Int×Bool×List Int):=if a0_0=a1_0 then ((count_days.f k a0_0 a0_1 a0_2 a1_0 a1_1 a1_2).bind fun t695=>((count_year.f a0_0).bind fun t696=>((count_part.f k t695 t696).bind fun bt697=>(some (bt697.1,bt697.2.1,bt697.2.2))))) else ((count_days.f k a0_0 a0_1 a0_2 a0_0 12 31).bind fun t704=>((count_days.f k a1_0 1 1 a1_0 a1_1 a1_2).bind fun t705=>((count_year.f a0_0).bind fun t706=>((count_part.f k (wrap64 (t704 + 1)) t706).bind fun bt707=>((count_part.f k (wrap64 ((wrap64 (a1_0 - a0_0)) - 1)) 1).bind fun bt714=>((frac_Frac_Add.f k bt707.1 bt707.2.1 bt707.2.2 bt714.1 bt714.2.1 bt714.2.2).bind fun bt721=>((count_year.f a1_0).bind fun t728=>((count_part.f k t705 t728).bind fun bt729=>((frac_Frac_Add.f k bt721.1 bt721.2.1 bt721.2.2 bt729.1 bt729.2.1 bt729.2.2).bind fun bt736=>(some (bt736.1,bt736.2.1,bt736.2.2)))))))))))
theorem count_actual.mono : ∀ a0 a1 a2 a3 a4 a5 k,LeO (count_actual.f k a0 a1 a2 a3 a4 a5) (count_actual.f (k + 1) a0 a1 a2 a3 a4 a5):=by
  intro a0 a1 a2 a3 a4 a5 k
  unfold count_actual.f
  repeat' first
      | (with_reducible exact count_days.mono _ _ _ _ _ _ _)
      | (with_reducible exact count_part.mono _ _ _)
      | (with_reducible exact frac_Frac_Add.mono _ _ _ _ _ _ _)
      | (with_reducible exact LeO.refl _)
      | (with_reducible exact LeO.none _)
      | (with_reducible refine LeO.ite ?_ ?_)
      | (with_reducible refine LeO.bind ?_ (fun _=>?_))
      | exact count_days.mono _ _ _ _ _ _ _
      | exact count_part.mono _ _ _
      | exact frac_Frac_Add.mono _ _ _ _ _ _ _
      | exact LeO.none _
      | refine LeO.ite ?_ ?_
      | refine LeO.bind ?_ (fun _=>?_)
def count_Year.j0:Nat→Int→Bool→Int→Int→Int→Int→Int→Int→Option (List Int×Bool×List Int×Int)
  | 0,_,_,_,_,_,_,_,_=>none
  | k + 1,x0,x13,x744000,x744001,x744002,x745000,x745001,x745002=>if x13=true then (some (([]:List Int),false,([]:List Int),11)) else ((date_Cmp.f k x744000 x744001 x744002 x745000 x745001 x745002).bind fun t749=>(if t749 > 0 then (some (([]:List Int),false,([]:List Int),12)) else (if x0=0 then ((count_thirty.f k x744000 x744001 x744002 x745000 x745001 x745002).bind fun bt750=>(some (bt750.1,bt750.2.1,bt750.2.2,0))) else (if x0=1 then ((count_days.f k x744000 x744001 x744002 x745000 x745001 x745002).bind fun t757=>((count_part.f k t757 365).bind fun bt758=>(some (bt758.1,bt758.2.1,bt758.2.2,0)))) else ((count_actual.f k x744000 x744001 x744002 x745000 x745001 x745002).bind fun bt765=>(some (bt765.1,bt765.2.1,bt765.2.2,0)))))))
def count_Year.f (k:Nat) (a0:Int) (a1_0:Int) (a1_1:Int) (a1_2:Int) (a2_0:Int) (a2_1:Int) (a2_2:Int):Option (List Int×Bool×List Int×Int):=(count_Basis_good.f a0).bind fun t746=>(if t746=true then ((date_Check.f k a1_0 a1_1 a1_2).bind fun t747=>(if t747=0 then ((date_Check.f k a2_0 a2_1 a2_2).bind fun t748=>(count_Year.j0 k a0 (t748 != 0) a1_0 a1_1 a1_2 a2_0 a2_1 a2_2)) else (count_Year.j0 k a0 true a1_0 a1_1 a1_2 a2_0 a2_1 a2_2))) else (some (([]:List Int),false,([]:List Int),2)))
theorem count_Year.mono_l : ∀ k,(∀ y0 y1 y2 y3 y4 y5 y6 y7,LeO (count_Year.j0 k y0 y1 y2 y3 y4 y5 y6 y7) (count_Year.j0 (k + 1) y0 y1 y2 y3 y4 y5 y6 y7))
  | 0=>fun _ _ _ _ _ _ _ _ r h=>by simp [count_Year.j0] at h
  | k + 1=>by
    have ih0:=count_Year.mono_l k
    · intro y0 y1 y2 y3 y4 y5 y6 y7
      unfold count_Year.j0
      repeat' first
      | (with_reducible exact ih0 _ _ _ _ _ _ _ _)
      | (with_reducible exact count_actual.mono _ _ _ _ _ _ _)
      | (with_reducible exact count_days.mono _ _ _ _ _ _ _)
      | (with_reducible exact count_part.mono _ _ _)
      | (with_reducible exact count_thirty.mono _ _ _ _ _ _ _)
      | (with_reducible exact date_Check.mono _ _ _ _)
      | (with_reducible exact date_Cmp.mono _ _ _ _ _ _ _)
      | (with_reducible exact LeO.refl _)
      | (with_reducible exact LeO.none _)
      | (with_reducible refine LeO.ite ?_ ?_)
      | (with_reducible refine LeO.bind ?_ (fun _=>?_))
      | exact ih0 _ _ _ _ _ _ _ _
      | exact count_actual.mono _ _ _ _ _ _ _
      | exact count_days.mono _ _ _ _ _ _ _
      | exact count_part.mono _ _ _
      | exact count_thirty.mono _ _ _ _ _ _ _
      | exact date_Check.mono _ _ _ _
      | exact date_Cmp.mono _ _ _ _ _ _ _
      | exact LeO.none _
      | refine LeO.ite ?_ ?_
      | refine LeO.bind ?_ (fun _=>?_)
theorem count_Year.mono : ∀ a0 a1 a2 a3 a4 a5 a6 k,LeO (count_Year.f k a0 a1 a2 a3 a4 a5 a6) (count_Year.f (k + 1) a0 a1 a2 a3 a4 a5 a6):=by
  intro a0 a1 a2 a3 a4 a5 a6 k
  have ih0:=count_Year.mono_l k
  unfold count_Year.f
  repeat' first
      | (with_reducible exact ih0 _ _ _ _ _ _ _ _)
      | (with_reducible exact count_actual.mono _ _ _ _ _ _ _)
      | (with_reducible exact count_days.mono _ _ _ _ _ _ _)
      | (with_reducible exact count_part.mono _ _ _)
      | (with_reducible exact count_thirty.mono _ _ _ _ _ _ _)
      | (with_reducible exact date_Check.mono _ _ _ _)
      | (with_reducible exact date_Cmp.mono _ _ _ _ _ _ _)
      | (with_reducible exact LeO.refl _)
      | (with_reducible exact LeO.none _)
      | (with_reducible refine LeO.ite ?_ ?_)
      | (with_reducible refine LeO.bind ?_ (fun _=>?_))
      | exact ih0 _ _ _ _ _ _ _ _
      | exact count_actual.mono _ _ _ _ _ _ _
      | exact count_days.mono _ _ _ _ _ _ _
      | exact count_part.mono _ _ _
      | exact count_thirty.mono _ _ _ _ _ _ _
      | exact date_Check.mono _ _ _ _
      | exact date_Cmp.mono _ _ _ _ _ _ _
      | exact LeO.none _
      | refine LeO.ite ?_ ?_
      | refine LeO.bind ?_ (fun _=>?_)
def frac_Frac_Mul.f (k:Nat) (l0_0:List Int) (a0_1:Bool) (l0_2:List Int) (l1_0:List Int) (a1_1:Bool) (l1_2:List Int):Option (List Int×Bool×List Int):=(whole_Int_Mul.f k l0_0 a0_1 l1_0 a1_1).bind fun bt775=>((frac_Frac_Den.f k l0_0 a0_1 l0_2).bind fun t779=>((frac_Frac_Den.f k l1_0 a1_1 l1_2).bind fun t782=>((nat_Nat_Mul.f k t779 t782).bind fun t785=>((frac_made.f k bt775.1 bt775.2 t785).bind fun bt788=>(some (bt788.1,bt788.2.1,bt788.2.2))))))
theorem frac_Frac_Mul.mono : ∀ a0 a1 a2 a3 a4 a5 k,LeO (frac_Frac_Mul.f k a0 a1 a2 a3 a4 a5) (frac_Frac_Mul.f (k + 1) a0 a1 a2 a3 a4 a5):=by
  intro a0 a1 a2 a3 a4 a5 k
  unfold frac_Frac_Mul.f
  repeat' first
      | (with_reducible exact frac_Frac_Den.mono _ _ _ _)
      | (with_reducible exact frac_made.mono _ _ _ _)
      | (with_reducible exact nat_Nat_Mul.mono _ _ _)
      | (with_reducible exact whole_Int_Mul.mono _ _ _ _ _)
      | (with_reducible exact LeO.refl _)
      | (with_reducible exact LeO.none _)
      | (with_reducible refine LeO.ite ?_ ?_)
      | (with_reducible refine LeO.bind ?_ (fun _=>?_))
      | exact frac_Frac_Den.mono _ _ _ _
      | exact frac_made.mono _ _ _ _
      | exact nat_Nat_Mul.mono _ _ _
      | exact whole_Int_Mul.mono _ _ _ _ _
      | exact LeO.none _
      | refine LeO.ite ?_ ?_
      | refine LeO.bind ?_ (fun _=>?_)
def split_Weighted.l0:Nat→Int→List (S49)→List (S55)→Int→Int→List Int→Bool→List Int→Option (List Int×Bool×List Int×Int)
  | 0,_,_,_,_,_,_,_,_=>none
  | k + 1,x0,x2,x19,x20,x21,x797000,x797001,x797002=>if x21 < x20 then (if 0≤x21 then (if x21 < (x19.length:Int) then ((count_Year.f k x0 ((rd_T55 x19 x21).f0.f0) ((rd_T55 x19 x21).f0.f1) ((rd_T55 x19 x21).f0.f2) ((rd_T55 x19 x21).f1.f0) ((rd_T55 x19 x21).f1.f1) ((rd_T55 x19 x21).f1.f2)).bind fun bt799=>(if bt799.2.2.2=0 then (if x21 < (x2.length:Int) then ((frac_Frac_Mul.f k bt799.1 bt799.2.1 bt799.2.2.1 ((rd_T49 x2 x21).f0.f0.f0) ((rd_T49 x2 x21).f0.f1) ((rd_T49 x2 x21).f1.f0)).bind fun bt809=>((frac_Frac_Add.f k x797000 x797001 x797002 bt809.1 bt809.2.1 bt809.2.2).bind fun bt816=>(split_Weighted.l0 k x0 x2 x19 x20 (wrap64 (x21 + 1)) bt816.1 bt816.2.1 bt816.2.2))) else (none)) else (some (([]:List Int),false,([]:List Int),bt799.2.2.2)))) else (none)) else (none)) else (some (x797000,x797001,x797002,0))
def split_Weighted.f (k:Nat) (a0:Int) (l1:List (S55)) (l2:List (S49)):Option (List Int×Bool×List Int×Int):=if (l2.length:Int)=(l1.length:Int) then (split_Weighted.l0 k a0 l2 l1 (l1.length:Int) 0 ([]:List Int) false ([]:List Int)) else (some (([]:List Int),false,([]:List Int),2))
theorem split_Weighted.mono_l : ∀ k,(∀ y0 y1 y2 y3 y4 y5 y6 y7,LeO (split_Weighted.l0 k y0 y1 y2 y3 y4 y5 y6 y7) (split_Weighted.l0 (k + 1) y0 y1 y2 y3 y4 y5 y6 y7))
  | 0=>fun _ _ _ _ _ _ _ _ r h=>by simp [split_Weighted.l0] at h
  | k + 1=>by
    have ih0:=split_Weighted.mono_l k
    · intro y0 y1 y2 y3 y4 y5 y6 y7
      unfold split_Weighted.l0
      repeat' first
      | (with_reducible exact ih0 _ _ _ _ _ _ _ _)
      | (with_reducible exact count_Year.mono _ _ _ _ _ _ _ _)
      | (with_reducible exact frac_Frac_Add.mono _ _ _ _ _ _ _)
      | (with_reducible exact frac_Frac_Mul.mono _ _ _ _ _ _ _)
      | (with_reducible exact LeO.refl _)
      | (with_reducible exact LeO.none _)
      | (with_reducible refine LeO.ite ?_ ?_)
      | (with_reducible refine LeO.bind ?_ (fun _=>?_))
      | exact ih0 _ _ _ _ _ _ _ _
      | exact count_Year.mono _ _ _ _ _ _ _ _
      | exact frac_Frac_Add.mono _ _ _ _ _ _ _
      | exact frac_Frac_Mul.mono _ _ _ _ _ _ _
      | exact LeO.none _
      | refine LeO.ite ?_ ?_
      | refine LeO.bind ?_ (fun _=>?_)
theorem split_Weighted.mono : ∀ a0 a1 a2 k,LeO (split_Weighted.f k a0 a1 a2) (split_Weighted.f (k + 1) a0 a1 a2):=by
  intro a0 a1 a2 k
  have ih0:=split_Weighted.mono_l k
  unfold split_Weighted.f
  repeat' first
      | (with_reducible exact ih0 _ _ _ _ _ _ _ _)
      | (with_reducible exact count_Year.mono _ _ _ _ _ _ _ _)
      | (with_reducible exact frac_Frac_Add.mono _ _ _ _ _ _ _)
      | (with_reducible exact frac_Frac_Mul.mono _ _ _ _ _ _ _)
      | (with_reducible exact LeO.refl _)
      | (with_reducible exact LeO.none _)
      | (with_reducible refine LeO.ite ?_ ?_)
      | (with_reducible refine LeO.bind ?_ (fun _=>?_))
      | exact ih0 _ _ _ _ _ _ _ _
      | exact count_Year.mono _ _ _ _ _ _ _ _
      | exact frac_Frac_Add.mono _ _ _ _ _ _ _
      | exact frac_Frac_Mul.mono _ _ _ _ _ _ _
      | exact LeO.none _
      | refine LeO.ite ?_ ?_
      | refine LeO.bind ?_ (fun _=>?_)
def bits_Mul32.f (a0:Int) (a1:Int):Option (Int×Int):=some (((IntKind.u64.wrap ((IntKind.u64.wrap (a0)) * (IntKind.u64.wrap (a1)))) / 4294967296) % 4294967296,(IntKind.u64.wrap ((IntKind.u64.wrap (a0)) * (IntKind.u64.wrap (a1)))) % 4294967296)
def bits_Mul.f (a0:Int) (a1:Int):Option (Int×Int):=(bits_Mul64.f a0 a1).bind fun bt823=>(some (bt823.1,bt823.2))
def frac_Frac.f (l0:List S49) (a1:Int):Option (List S49) :=
  if l0.length=1∧0≤a1∧a1≤4096 then some (List.replicate a1.toNat (rd_T49 l0 0)) else none
def split_Years.f (k:Nat) (a0:Int) (l1:List (S55)):Option (List Int×Bool×List Int×Int):=(whole_From.f k 1).bind fun bt826=>((frac_From.f bt826.1 bt826.2).bind fun bt830=>((frac_Frac.f (([(⟨(⟨(⟨bt830.1⟩:S45),bt830.2.1⟩:S47),(⟨bt830.2.2⟩:S45)⟩:S49)]:List (S49))) (l1.length:Int)).bind fun t840=>((split_Weighted.f k a0 l1 t840).bind fun bt843=>(some (bt843.1,bt843.2.1,bt843.2.2.1,bt843.2.2.2)))))
theorem split_Years.mono : ∀ a0 a1 k,LeO (split_Years.f k a0 a1) (split_Years.f (k + 1) a0 a1):=by
  intro a0 a1 k
  unfold split_Years.f
  repeat' first
      | (with_reducible exact split_Weighted.mono _ _ _ _)
      | (with_reducible exact whole_From.mono _ _)
      | (with_reducible exact LeO.refl _)
      | (with_reducible exact LeO.none _)
      | (with_reducible refine LeO.ite ?_ ?_)
      | (with_reducible refine LeO.bind ?_ (fun _=>?_))
      | exact split_Weighted.mono _ _ _ _
      | exact whole_From.mono _ _
      | exact LeO.none _
      | refine LeO.ite ?_ ?_
      | refine LeO.bind ?_ (fun _=>?_)
def digits_small.l0:Nat→Int→Int→List Int→Option (List Int)
  | 0,_,_,_=>none
  | k + 1,n,m,acc=>if 0 < n∨(acc.length:Int) < m then (if acc.length < 20 then digits_small.l0 k (n / 10) m ((48 + n % 10) :: acc) else none) else some acc
def digits_small.f (a0 a1:Int):Option ByteArray:=if 0≤a0∧a0 < 18446744073709551616 then (digits_small.l0 21 a0 a1 []).map strOfNums else none
def digits_small.cells (acc:List Int):Array Value:=((List.replicate (20 - acc.length) (Value.int .u8 0)) ++ acc.map (Value.int .u8)).toArray
def digits_joined.go (l:List ByteArray) (n:Nat):List UInt8:=((l.drop n).reverse.map fun b=>b.data.toList).flatten
def digits_joined.f (l:List ByteArray):Option ByteArray:=if l.length < 4611686018427387904∧(digits_joined.go l 0).length≤140737488355328 then some ⟨(digits_joined.go l 0).toArray⟩ else none
theorem digits_joined.told {l:List ByteArray} {r:ByteArray} (h:digits_joined.f l=some r):l.length < 4611686018427387904∧(digits_joined.go l 0).length≤140737488355328∧r=⟨(digits_joined.go l 0).toArray⟩:=by
  unfold digits_joined.f at h
  split at h
  · next c=>exact ⟨c.1,c.2,(Option.some.inj h).symm⟩
  · cases h
theorem digits_joined.end_ (l:List ByteArray):digits_joined.go l l.length = []:=by simp [digits_joined.go]
theorem digits_joined.step (l:List ByteArray) (n:Nat) (h:n < l.length):digits_joined.go l n=digits_joined.go l (n + 1) ++ (rdOf ByteArray.empty l (n:Int)).data.toList:=by
  unfold digits_joined.go rdOf
  rw [List.drop_eq_getElem_cons h,List.reverse_cons,List.map_append,List.flatten_append,Int.toNat_natCast,List.getD_eq_getElem?_getD,List.getElem?_eq_getElem h]
  simp
theorem digits_joined.mono_len (l:List ByteArray) (n:Nat):(digits_joined.go l n).length≤(digits_joined.go l 0).length:=by
  induction n with
  | zero=>exact Nat.le_refl _
  | succ n ih =>
    rcases Nat.lt_or_ge n l.length with h|h
    · have:=digits_joined.step l n h
      rw [this,List.length_append] at ih
      omega
    · unfold digits_joined.go
      rw [List.drop_eq_nil_of_le (by omega)]
      simp
theorem digits_joined.fits {l:List ByteArray} {n:Nat} (h:n < l.length) (hb:(digits_joined.go l 0).length≤140737488355328):(digits_joined.go l (n + 1)).length + (rdOf ByteArray.empty l (n:Int)).size≤140737488355328:=by
  have h1:=digits_joined.mono_len l n
  rw [digits_joined.step l n h,List.length_append] at h1
  have h2:(rdOf ByteArray.empty l (n:Int)).data.toList.length=(rdOf ByteArray.empty l (n:Int)).size:=rfl
  omega
mutual
def digits_Print.l0:Nat→List ByteArray→List Int→Option (ByteArray)
  | 0,_,_=>none
  | k + 1,x3,x852000=>(nat_Nat_Zero.f x852000).bind fun t853=>(if t853=true then ((digits_joined.f x3).bind fun t854=>(some t854)) else ((nat_Of.f k (([1000000000000000000]:List Int))).bind fun t858=>((quot_Div.f k x852000 t858).bind fun bt861=>((nat_Nat_Limbs.f bt861.2.1).bind fun t870=>(digits_Print.l1 k x3 0 t870 (t870.length:Int) 0 bt861.1)))))
def digits_Print.l1:Nat→List ByteArray→Int→List Int→Int→Int→List Int→Option (ByteArray)
  | 0,_,_,_,_,_,_=>none
  | k + 1,x3,x7,x27,x28,x29,x869000=>if x29 < x28 then (if 0≤x29 then (if x29 < (x27.length:Int) then (digits_Print.l1 k x3 (rd x27 x29) x27 x28 (wrap64 (x29 + 1)) x869000) else (none)) else (none)) else ((nat_Nat_Zero.f x869000).bind fun t874=>(if t874=true then ((digits_small.f x7 1).bind fun t875=>(if x3.length < 8796093022208 then (digits_Print.l0 k (x3 ++ [t875]) x869000) else (none))) else ((digits_small.f x7 18).bind fun t879=>(if x3.length < 8796093022208 then (digits_Print.l0 k (x3 ++ [t879]) x869000) else (none)))))
end
def digits_Print.f (k:Nat) (l0_0:List Int):Option (ByteArray):=(nat_Nat_Zero.f l0_0).bind fun t852=>(if t852=true then (some (⟨#[48]⟩:ByteArray)) else (digits_Print.l0 k ([]:List ByteArray) l0_0))
theorem digits_Print.mono_l : ∀ k,(∀ y0 y1,LeO (digits_Print.l0 k y0 y1) (digits_Print.l0 (k + 1) y0 y1))∧(∀ y0 y1 y2 y3 y4 y5,LeO (digits_Print.l1 k y0 y1 y2 y3 y4 y5) (digits_Print.l1 (k + 1) y0 y1 y2 y3 y4 y5))
  | 0=>⟨fun _ _ r h=>by simp [digits_Print.l0] at h,fun _ _ _ _ _ _ r h=>by simp [digits_Print.l1] at h⟩
  | k + 1=>by
    obtain ⟨ih0,ih1⟩:=digits_Print.mono_l k
    refine ⟨?_,?_⟩
    · intro y0 y1
      unfold digits_Print.l0
      repeat' first
      | (with_reducible exact ih0 _ _)
      | (with_reducible exact ih1 _ _ _ _ _ _)
      | (with_reducible exact nat_Of.mono _ _)
      | (with_reducible exact quot_Div.mono _ _ _)
      | (with_reducible exact LeO.refl _)
      | (with_reducible exact LeO.none _)
      | (with_reducible refine LeO.ite ?_ ?_)
      | (with_reducible refine LeO.bind ?_ (fun _=>?_))
      | exact ih0 _ _
      | exact ih1 _ _ _ _ _ _
      | exact nat_Of.mono _ _
      | exact quot_Div.mono _ _ _
      | exact LeO.none _
      | refine LeO.ite ?_ ?_
      | refine LeO.bind ?_ (fun _=>?_)
    · intro y0 y1 y2 y3 y4 y5
      unfold digits_Print.l1
      repeat' first
      | (with_reducible exact ih0 _ _)
      | (with_reducible exact ih1 _ _ _ _ _ _)
      | (with_reducible exact nat_Of.mono _ _)
      | (with_reducible exact quot_Div.mono _ _ _)
      | (with_reducible exact LeO.refl _)
      | (with_reducible exact LeO.none _)
      | (with_reducible refine LeO.ite ?_ ?_)
      | (with_reducible refine LeO.bind ?_ (fun _=>?_))
      | exact ih0 _ _
      | exact ih1 _ _ _ _ _ _
      | exact nat_Of.mono _ _
      | exact quot_Div.mono _ _ _
      | exact LeO.none _
      | refine LeO.ite ?_ ?_
      | refine LeO.bind ?_ (fun _=>?_)
theorem digits_Print.mono : ∀ a0 k,LeO (digits_Print.f k a0) (digits_Print.f (k + 1) a0):=by
  intro a0 k
  obtain ⟨ih0,ih1⟩:=digits_Print.mono_l k
  unfold digits_Print.f
  repeat' first
      | (with_reducible exact ih0 _ _)
      | (with_reducible exact ih1 _ _ _ _ _ _)
      | (with_reducible exact nat_Of.mono _ _)
      | (with_reducible exact quot_Div.mono _ _ _)
      | (with_reducible exact LeO.refl _)
      | (with_reducible exact LeO.none _)
      | (with_reducible refine LeO.ite ?_ ?_)
      | (with_reducible refine LeO.bind ?_ (fun _=>?_))
      | exact ih0 _ _
      | exact ih1 _ _ _ _ _ _
      | exact nat_Of.mono _ _
      | exact quot_Div.mono _ _ _
      | exact LeO.none _
      | refine LeO.ite ?_ ?_
      | refine LeO.bind ?_ (fun _=>?_)
def whole_Int_Print.f (k:Nat) (l0_0:List Int) (a0_1:Bool):Option (ByteArray):=if a0_1=true then ((digits_Print.f k l0_0).bind fun t884=>(if 1 + t884.size≤9223372036854775807 then (some ((⟨#[45]⟩:ByteArray) ++ t884)) else (none))) else ((digits_Print.f k l0_0).bind fun t885=>(some t885))
theorem whole_Int_Print.mono : ∀ a0 a1 k,LeO (whole_Int_Print.f k a0 a1) (whole_Int_Print.f (k + 1) a0 a1):=by
  intro a0 a1 k
  unfold whole_Int_Print.f
  repeat' first
      | (with_reducible exact digits_Print.mono _ _)
      | (with_reducible exact LeO.refl _)
      | (with_reducible exact LeO.none _)
      | (with_reducible refine LeO.ite ?_ ?_)
      | (with_reducible refine LeO.bind ?_ (fun _=>?_))
      | exact digits_Print.mono _ _
      | exact LeO.none _
      | refine LeO.ite ?_ ?_
      | refine LeO.bind ?_ (fun _=>?_)
def frac_Frac_Print.f (k:Nat) (l0_0:List Int) (a0_1:Bool) (l0_2:List Int):Option (ByteArray):=(nat_Nat_Zero.f l0_2).bind fun t887=>(if t887=true then ((whole_Int_Print.f k l0_0 a0_1).bind fun t888=>(some t888)) else ((whole_Int_Print.f k l0_0 a0_1).bind fun t889=>(if t889.size + 1≤9223372036854775807 then ((frac_Frac_Den.f k l0_0 a0_1 l0_2).bind fun t890=>((digits_Print.f k t890).bind fun t893=>(if (t889 ++ (⟨#[47]⟩:ByteArray)).size + t893.size≤9223372036854775807 then (some ((t889 ++ (⟨#[47]⟩:ByteArray)) ++ t893)) else (none)))) else (none))))
theorem frac_Frac_Print.mono : ∀ a0 a1 a2 k,LeO (frac_Frac_Print.f k a0 a1 a2) (frac_Frac_Print.f (k + 1) a0 a1 a2):=by
  intro a0 a1 a2 k
  unfold frac_Frac_Print.f
  repeat' first
      | (with_reducible exact digits_Print.mono _ _)
      | (with_reducible exact frac_Frac_Den.mono _ _ _ _)
      | (with_reducible exact whole_Int_Print.mono _ _ _)
      | (with_reducible exact LeO.refl _)
      | (with_reducible exact LeO.none _)
      | (with_reducible refine LeO.ite ?_ ?_)
      | (with_reducible refine LeO.bind ?_ (fun _=>?_))
      | exact digits_Print.mono _ _
      | exact frac_Frac_Den.mono _ _ _ _
      | exact whole_Int_Print.mono _ _ _
      | exact LeO.none _
      | refine LeO.ite ?_ ?_
      | refine LeO.bind ?_ (fun _=>?_)
def chattellaw12_wakes.f (k:Nat):Option (Bool):=(split_Parts.f 2024 1 1 2024 4 1 (([(⟨2025,1,1⟩:S28),(⟨2024,2,10⟩:S28)]:List (S28)))).bind fun bt900=>((split_Years.f k 1 bt900.1).bind fun bt904=>((split_Parts.f 2024 4 1 2024 1 1 ([]:List (S28))).bind fun bt913=>(if bt900.2=0 then (if (bt900.1.length:Int)=2 then (if 0 < (bt900.1.length:Int) then (if ((((rd_T55 bt900.1 0).f0.f0) == 2024 && (((rd_T55 bt900.1 0).f0.f1) == 1 && (((rd_T55 bt900.1 0).f0.f2) == 1))) && ((((rd_T55 bt900.1 0).f1.f0) == 2024 && (((rd_T55 bt900.1 0).f1.f1) == 2 && (((rd_T55 bt900.1 0).f1.f2) == 10)))))=true then (if 1 < (bt900.1.length:Int) then (if ((((rd_T55 bt900.1 1).f0.f0) == 2024 && (((rd_T55 bt900.1 1).f0.f1) == 2 && (((rd_T55 bt900.1 1).f0.f2) == 10))) && ((((rd_T55 bt900.1 1).f1.f0) == 2024 && (((rd_T55 bt900.1 1).f1.f1) == 4 && (((rd_T55 bt900.1 1).f1.f2) == 1)))))=true then ((frac_Frac_Print.f k bt904.1 bt904.2.1 bt904.2.2.1).bind fun t919=>(if t919.toList=([57,49,47,51,54,53]:List UInt8) then (if bt904.2.2.2=0 then (some (bt913.2 == 12)) else (some false)) else (some false))) else (some false)) else (none)) else (some false)) else (none)) else (some false)) else (some false))))
theorem chattellaw12_wakes.mono : ∀ k,LeO (chattellaw12_wakes.f k) (chattellaw12_wakes.f (k + 1)):=by
  intro  k
  unfold chattellaw12_wakes.f
  repeat' first
      | (with_reducible exact frac_Frac_Print.mono _ _ _ _)
      | (with_reducible exact split_Years.mono _ _ _)
      | (with_reducible exact LeO.refl _)
      | (with_reducible exact LeO.none _)
      | (with_reducible refine LeO.ite ?_ ?_)
      | (with_reducible refine LeO.bind ?_ (fun _=>?_))
      | exact frac_Frac_Print.mono _ _ _ _
      | exact split_Years.mono _ _ _
      | exact LeO.none _
      | refine LeO.ite ?_ ?_
      | refine LeO.bind ?_ (fun _=>?_)
def api_Date_28.l0:Nat→List (S28)→Int→Int→Option ((List (S28)))
  | 0,_,_,_=>none
  | k + 1,x0,x2,x3=>if x2 < x3 then (if 0≤x3 then (if x3 < (x0.length:Int) then (if 0≤x2 then (if x2 < (x0.length:Int) then (api_Date_28.l0 k ((x0.set (x2:Int).toNat (⟨(rd_T28 x0 x3).f0,(rd_T28 x0 x3).f1,(rd_T28 x0 x3).f2⟩:S28)).set (x3:Int).toNat (⟨(rd_T28 x0 x2).f0,(rd_T28 x0 x2).f1,(rd_T28 x0 x2).f2⟩:S28)) (wrap64 (x2 + 1)) (wrap64 (x3 - 1))) else (none)) else (none)) else (none)) else (none)) else (some x0)
def api_Date_28.f (k:Nat) (l0:List (S28)):Option ((List (S28))):=api_Date_28.l0 k l0 0 (wrap64 ((l0.length:Int) - 1))
def split_Part.l0:Nat→List (S55)→List (S55)→Int→Int→Option (Bool)
  | 0,_,_,_,_=>none
  | k + 1,x0,x1,x12,x13=>if x13 < x12 then (if 0≤x13 then (if x13 < (x0.length:Int) then (if x13 < (x1.length:Int) then (if ((!(((rd_T55 x0 x13).f0.f0) == ((rd_T55 x1 x13).f0.f0)) || (!(((rd_T55 x0 x13).f0.f1) == ((rd_T55 x1 x13).f0.f1)) || (!(((rd_T55 x0 x13).f0.f2) == ((rd_T55 x1 x13).f0.f2))))) || ((!(((rd_T55 x0 x13).f1.f0) == ((rd_T55 x1 x13).f1.f0)) || (!(((rd_T55 x0 x13).f1.f1) == ((rd_T55 x1 x13).f1.f1)) || (!(((rd_T55 x0 x13).f1.f2) == ((rd_T55 x1 x13).f1.f2)))))))=true then (some false) else (split_Part.l0 k x0 x1 x12 (wrap64 (x13 + 1)))) else (none)) else (none)) else (none)) else (some true)
def split_Part.f (k:Nat) (l0:List (S55)) (l1:List (S55)):Option (Bool):=if (l0.length:Int)=(l1.length:Int) then (split_Part.l0 k l0 l1 (l0.length:Int) 0) else (some false)
def chattellaw12_SplitOrder.f (k:Nat) (a0_0:Int) (a0_1:Int) (a0_2:Int) (a0_3:Int) (l0_4:List Int) (l0_5:List Int) (a0_6:Int) (a1:Int):Option (Bool):=(chattellaw12_Time_make.f k a0_0 a0_1 a0_2 a0_3 l0_4 l0_5 a0_6).bind fun bt1687=>((split_Parts.f bt1687.1 bt1687.2.1 bt1687.2.2.1 bt1687.2.2.2.1 bt1687.2.2.2.2.1 bt1687.2.2.2.2.2.1 bt1687.2.2.2.2.2.2).bind fun bt1698=>((api_Date_27.f bt1687.2.2.2.2.2.2).bind fun t1702=>((api_Date_28.f k t1702).bind fun t1705=>(if t1705.length + bt1687.2.2.2.2.2.2.length < 5864062014805 then ((split_Parts.f bt1687.1 bt1687.2.1 bt1687.2.2.1 bt1687.2.2.2.1 bt1687.2.2.2.2.1 bt1687.2.2.2.2.2.1 (t1705 ++ bt1687.2.2.2.2.2.2)).bind fun bt1709=>((month_Between.f k bt1687.1 bt1687.2.1 bt1687.2.2.1 bt1687.2.2.2.1 bt1687.2.2.2.2.1 bt1687.2.2.2.2.2.1).bind fun bt1713=>(if (wrap64 (bt1713.1 + 1))=0 then (none) else ((month_AddDays.f k bt1687.1 bt1687.2.1 bt1687.2.2.1 (Int.tmod (wrap64 (a1)) (wrap64 (bt1713.1 + 1)))).bind fun bt1715=>((split_Parts.f bt1687.1 bt1687.2.1 bt1687.2.2.1 bt1715.1 bt1715.2.1 bt1715.2.2.1 bt1687.2.2.2.2.2.2).bind fun bt1720=>((split_Parts.f bt1715.1 bt1715.2.1 bt1715.2.2.1 bt1687.2.2.2.1 bt1687.2.2.2.2.1 bt1687.2.2.2.2.2.1 bt1687.2.2.2.2.2.2).bind fun bt1724=>(if t1705.length < 5864062014805 then ((split_Parts.f bt1687.1 bt1687.2.1 bt1687.2.2.1 bt1687.2.2.2.1 bt1687.2.2.2.2.1 bt1687.2.2.2.2.2.1 (t1705 ++ [(⟨bt1715.1,bt1715.2.1,bt1715.2.2.1⟩:S28)])).bind fun bt1731=>((chattellaw12_wakes.f k).bind fun t1735=>(if t1735=true then (if bt1698.2=0 then (if bt1709.2=0 then (if bt1720.2=0 then (if bt1724.2=0 then (if bt1731.2=0 then ((split_Part.f k bt1698.1 bt1709.1).bind fun t1736=>(if t1736=true then (if bt1720.1.length + bt1724.1.length < 2932031007402 then ((split_Part.f k (bt1720.1 ++ bt1724.1) bt1731.1).bind fun t1740=>(some t1740)) else (none)) else (some false))) else (some false)) else (some false)) else (some false)) else (some false)) else (some false)) else (some false)))) else (none)))))))) else (none)))))
end Go.Proofs.YtakidmbnkkhojaaGreat.F
