import Derived.ArgAppend
import Derived.Below
import Derived.BigQuiet
import Derived.Deep.AppendLies
import Derived.Deep.CutBlock
import Derived.Deep.DeepCutAuto
import Derived.Deep.Draws
import Derived.Deep.LoopGhost
import Derived.Deep.OwnRows
import Derived.Deep.QuietTactic
import Derived.Deep.RegionHeld3
import Derived.KernelRfl
import Derived.Laws.BitsLemmas
import Derived.Laws.BytesArg
import Derived.Laws.IdiomCopy
import Derived.Laws.MakeOwn
import Derived.Laws.OwnMore
import Derived.Laws.Rows
import Derived.Laws.Slices
import Derived.Lib.AppendStr
import Derived.Lib.ConvBytes
import Derived.Maps.AppendAt
import Derived.OrdersHeld
import Derived.OwnWalk
import Derived.RowKit
import Derived.RowKit3
import Derived.Tactics
import Derived.Test.YtkoccekiojhidaaProg
import Derived.Test.YtkoccekiojhidaaC456WApart
import Derived.Test.YtkoccekiojhidaaC456WArr
import Derived.Test.YtkoccekiojhidaaC456WN
import Derived.Test.YtkoccekiojhidaaC456WWords
import Derived.Laws.StructEq
import Derived.Test.YtkoccekiojhidaaC456WFoot
import Derived.Test.YtkoccekiojhidaaC456WLast
import Derived.Test.YtkoccekiojhidaaC456WInv
import Derived.Test.YtkoccekiojhidaaC456WKept
import Derived.Test.YtkoccekiojhidaaC456WMore
import Derived.Test.YtkoccekiojhidaaC456WRepsOne
import Derived.Test.YtkoccekiojhidaaC456WShare
import Derived.Test.YtkoccekiojhidaaC456X
import Derived.WalkKit
import Derived.WideLaws
namespace Go.Proofs.Ytkoccekiojhidaa.F
open Go.RowKit Go.Proofs.YtkoccekiojhidaaW.PrintWords Go.Proofs.YtkoccekiojhidaaW.PrintLast Go.Proofs.YtkoccekiojhidaaW.PrintMore Go.Proofs.YtkoccekiojhidaaX
set_option linter.unusedVariables false
set_option linter.unusedSimpArgs false
structure S26 where
  f0:(List Int)
def nat_Nat_Zero.f (l0_0:List Int):Option (Bool):=some ((l0_0.length:Int) == 0)
def whole_Of.f (l0_0:List Int) (a1:Bool):Option (List Int×Bool):=if a1=true then ((nat_Nat_Zero.f l0_0).bind fun t104=>(some (l0_0,!t104))) else (some (l0_0,false))
def nat_trimmed.l0:Nat→List Int→Int→Option (List Int)
  | 0,_,_=>none
  | k + 1,x0,x3=>if x3 > 0 then (if 0≤(wrap64 (x3 - 1)) then (if (wrap64 (x3 - 1)) < (x0.length:Int) then (if (rd x0 (wrap64 (x3 - 1)))=0 then (nat_trimmed.l0 k x0 (wrap64 (x3 - 1))) else (if 0≤x3 then (if x3≤(x0.length:Int) then (some (x0.take (x3:Int).toNat)) else (none)) else (none))) else (none)) else (none)) else (if 0≤x3 then (if x3≤(x0.length:Int) then (some (x0.take (x3:Int).toNat)) else (none)) else (none))
def nat_trimmed.f (k:Nat) (l0:List Int):Option (List Int):=nat_trimmed.l0 k l0 (l0.length:Int)
theorem nat_trimmed.mono_l : ∀ k,(∀ y0 y1,LeO (nat_trimmed.l0 k y0 y1) (nat_trimmed.l0 (k + 1) y0 y1))
  | 0=>fun _ _ r h=>by simp [nat_trimmed.l0] at h
  | k + 1=>by
    have ih0:=nat_trimmed.mono_l k
    · intro y0 y1
      unfold nat_trimmed.l0
      repeat' first
      | (with_reducible exact ih0 _ _)
      | (with_reducible exact LeO.refl _)
      | (with_reducible exact LeO.none _)
      | (with_reducible refine LeO.ite ?_ ?_)
      | (with_reducible refine LeO.bind ?_ (fun _=>?_))
      | exact ih0 _ _
      | exact LeO.none _
      | refine LeO.ite ?_ ?_
      | refine LeO.bind ?_ (fun _=>?_)
theorem nat_trimmed.mono : ∀ a0 k,LeO (nat_trimmed.f k a0) (nat_trimmed.f (k + 1) a0):=by
  intro a0 k
  have ih0:=nat_trimmed.mono_l k
  unfold nat_trimmed.f
  repeat' first
      | (with_reducible exact ih0 _ _)
      | (with_reducible exact LeO.refl _)
      | (with_reducible exact LeO.none _)
      | (with_reducible refine LeO.ite ?_ ?_)
      | (with_reducible refine LeO.bind ?_ (fun _=>?_))
      | exact ih0 _ _
      | exact LeO.none _
      | refine LeO.ite ?_ ?_
      | refine LeO.bind ?_ (fun _=>?_)
def slices_Clone_uint64_uint64.f (l0:List Int):Option (List Int):=(some (([]:List Int):List Int)).bind fun y117=>(if y117.length + l0.length < 17592186044416 then (some (y117 ++ l0)) else (none))
def nat_Of.f (k:Nat) (l0:List Int):Option (List Int):=(slices_Clone_uint64_uint64.f l0).bind fun t124=>((nat_trimmed.f k t124).bind fun t127=>(some t127))
theorem nat_Of.mono : ∀ a0 k,LeO (nat_Of.f k a0) (nat_Of.f (k + 1) a0):=by
  intro a0 k
  unfold nat_Of.f
  repeat' first
      | (with_reducible exact nat_trimmed.mono _ _)
      | (with_reducible exact LeO.refl _)
      | (with_reducible exact LeO.none _)
      | (with_reducible refine LeO.ite ?_ ?_)
      | (with_reducible refine LeO.bind ?_ (fun _=>?_))
      | exact nat_trimmed.mono _ _
      | exact LeO.none _
      | refine LeO.ite ?_ ?_
      | refine LeO.bind ?_ (fun _=>?_)
def whole_Int_Sign.f (l0_0:List Int) (a0_1:Bool):Option (Int):=(nat_Nat_Zero.f l0_0).bind fun t131=>(if t131=true then (some 0) else (if a0_1=true then (some (-1)) else (some 1)))
def whole_Int_Abs.f (l0_0:List Int) (a0_1:Bool):Option (List Int):=some l0_0
def whole_Int_Neg.f (l0_0:List Int) (a0_1:Bool):Option (List Int×Bool):=(whole_Of.f l0_0 (!a0_1)).bind fun bt136=>(some (bt136.1,bt136.2))
def cmp_isNaN_int.f (a0:Int):Option (Bool):=some (a0 != a0)
def cmp_Compare_int.f (a0:Int) (a1:Int):Option (Int):=(cmp_isNaN_int.f a0).bind fun t140=>((cmp_isNaN_int.f a1).bind fun t141=>(if t140=true then (if t141=true then (some 0) else (some (-1))) else (if t141=true then (some 1) else (if a0 < a1 then (some (-1)) else (if a0 > a1 then (some 1) else (some 0))))))
def cmp_isNaN_uint64.f (a0:Int):Option (Bool):=some (a0 != a0)
def cmp_Compare_uint64.f (a0:Int) (a1:Int):Option (Int):=(cmp_isNaN_uint64.f a0).bind fun t142=>((cmp_isNaN_uint64.f a1).bind fun t143=>(if t142=true then (if t143=true then (some 0) else (some (-1))) else (if t143=true then (some 1) else (if a0 < a1 then (some (-1)) else (if a0 > a1 then (some 1) else (some 0))))))
def nat_Nat_Cmp.l0:Nat→Int→List Int→List Int→Option (Int)
  | 0,_,_,_=>none
  | k + 1,x6,x145000,x146000=>if x6 ≥ 0 then (if 0≤x6 then (if x6 < (x145000.length:Int) then (if x6 < (x146000.length:Int) then ((cmp_Compare_uint64.f (rd x145000 x6) (rd x146000 x6)).bind fun t149=>(if t149=0 then (nat_Nat_Cmp.l0 k (wrap64 (x6 - 1)) x145000 x146000) else (some t149))) else (none)) else (none)) else (none)) else (some 0)
def nat_Nat_Cmp.f (k:Nat) (l0_0:List Int) (l1_0:List Int):Option (Int):=(cmp_Compare_int.f (l0_0.length:Int) (l1_0.length:Int)).bind fun t146=>(if t146=0 then (nat_Nat_Cmp.l0 k (wrap64 ((l0_0.length:Int) - 1)) l0_0 l1_0) else (some t146))
theorem nat_Nat_Cmp.mono_l : ∀ k,(∀ y0 y1 y2,LeO (nat_Nat_Cmp.l0 k y0 y1 y2) (nat_Nat_Cmp.l0 (k + 1) y0 y1 y2))
  | 0=>fun _ _ _ r h=>by simp [nat_Nat_Cmp.l0] at h
  | k + 1=>by
    have ih0:=nat_Nat_Cmp.mono_l k
    · intro y0 y1 y2
      unfold nat_Nat_Cmp.l0
      repeat' first
      | (with_reducible exact ih0 _ _ _)
      | (with_reducible exact LeO.refl _)
      | (with_reducible exact LeO.none _)
      | (with_reducible refine LeO.ite ?_ ?_)
      | (with_reducible refine LeO.bind ?_ (fun _=>?_))
      | exact ih0 _ _ _
      | exact LeO.none _
      | refine LeO.ite ?_ ?_
      | refine LeO.bind ?_ (fun _=>?_)
theorem nat_Nat_Cmp.mono : ∀ a0 a1 k,LeO (nat_Nat_Cmp.f k a0 a1) (nat_Nat_Cmp.f (k + 1) a0 a1):=by
  intro a0 a1 k
  have ih0:=nat_Nat_Cmp.mono_l k
  unfold nat_Nat_Cmp.f
  repeat' first
      | (with_reducible exact ih0 _ _ _)
      | (with_reducible exact LeO.refl _)
      | (with_reducible exact LeO.none _)
      | (with_reducible refine LeO.ite ?_ ?_)
      | (with_reducible refine LeO.bind ?_ (fun _=>?_))
      | exact ih0 _ _ _
      | exact LeO.none _
      | refine LeO.ite ?_ ?_
      | refine LeO.bind ?_ (fun _=>?_)
def nat_Nat_Limbs.f (l0_0:List Int):Option (List Int):=(slices_Clone_uint64_uint64.f l0_0).bind fun t151=>(some t151)
def bits_Len64.j0:Nat→Int→Int→Option (Int)
  | 0,_,_=>none
  | k + 1,x0,x2=>if x0 ≥ 65536 then (if (x0 / 65536) ≥ 256 then (if 0≤(((x0 / 65536) / 256) % 256) then (if (((x0 / 65536) / 256) % 256) < 256 then (some (wrap64 ((wrap64 ((wrap64 (x2 + 16)) + 8)) + (wrap64 (bt (⟨#[0,1,2,2,3,3,3,3,4,4,4,4,4,4,4,4,5,5,5,5,5,5,5,5,5,5,5,5,5,5,5,5,6,6,6,6,6,6,6,6,6,6,6,6,6,6,6,6,6,6,6,6,6,6,6,6,6,6,6,6,6,6,6,6,7,7,7,7,7,7,7,7,7,7,7,7,7,7,7,7,7,7,7,7,7,7,7,7,7,7,7,7,7,7,7,7,7,7,7,7,7,7,7,7,7,7,7,7,7,7,7,7,7,7,7,7,7,7,7,7,7,7,7,7,7,7,7,7,8,8,8,8,8,8,8,8,8,8,8,8,8,8,8,8,8,8,8,8,8,8,8,8,8,8,8,8,8,8,8,8,8,8,8,8,8,8,8,8,8,8,8,8,8,8,8,8,8,8,8,8,8,8,8,8,8,8,8,8,8,8,8,8,8,8,8,8,8,8,8,8,8,8,8,8,8,8,8,8,8,8,8,8,8,8,8,8,8,8,8,8,8,8,8,8,8,8,8,8,8,8,8,8,8,8,8,8,8,8,8,8,8,8,8,8,8,8,8,8,8,8,8,8,8,8,8,8]⟩:ByteArray) (((x0 / 65536) / 256) % 256)))))) else (none)) else (none)) else (if 0≤((x0 / 65536) % 256) then (if ((x0 / 65536) % 256) < 256 then (some (wrap64 ((wrap64 (x2 + 16)) + (wrap64 (bt (⟨#[0,1,2,2,3,3,3,3,4,4,4,4,4,4,4,4,5,5,5,5,5,5,5,5,5,5,5,5,5,5,5,5,6,6,6,6,6,6,6,6,6,6,6,6,6,6,6,6,6,6,6,6,6,6,6,6,6,6,6,6,6,6,6,6,7,7,7,7,7,7,7,7,7,7,7,7,7,7,7,7,7,7,7,7,7,7,7,7,7,7,7,7,7,7,7,7,7,7,7,7,7,7,7,7,7,7,7,7,7,7,7,7,7,7,7,7,7,7,7,7,7,7,7,7,7,7,7,7,8,8,8,8,8,8,8,8,8,8,8,8,8,8,8,8,8,8,8,8,8,8,8,8,8,8,8,8,8,8,8,8,8,8,8,8,8,8,8,8,8,8,8,8,8,8,8,8,8,8,8,8,8,8,8,8,8,8,8,8,8,8,8,8,8,8,8,8,8,8,8,8,8,8,8,8,8,8,8,8,8,8,8,8,8,8,8,8,8,8,8,8,8,8,8,8,8,8,8,8,8,8,8,8,8,8,8,8,8,8,8,8,8,8,8,8,8,8,8,8,8,8,8,8,8,8,8,8]⟩:ByteArray) ((x0 / 65536) % 256)))))) else (none)) else (none))) else (if x0 ≥ 256 then (if 0≤((x0 / 256) % 256) then (if ((x0 / 256) % 256) < 256 then (some (wrap64 ((wrap64 (x2 + 8)) + (wrap64 (bt (⟨#[0,1,2,2,3,3,3,3,4,4,4,4,4,4,4,4,5,5,5,5,5,5,5,5,5,5,5,5,5,5,5,5,6,6,6,6,6,6,6,6,6,6,6,6,6,6,6,6,6,6,6,6,6,6,6,6,6,6,6,6,6,6,6,6,7,7,7,7,7,7,7,7,7,7,7,7,7,7,7,7,7,7,7,7,7,7,7,7,7,7,7,7,7,7,7,7,7,7,7,7,7,7,7,7,7,7,7,7,7,7,7,7,7,7,7,7,7,7,7,7,7,7,7,7,7,7,7,7,8,8,8,8,8,8,8,8,8,8,8,8,8,8,8,8,8,8,8,8,8,8,8,8,8,8,8,8,8,8,8,8,8,8,8,8,8,8,8,8,8,8,8,8,8,8,8,8,8,8,8,8,8,8,8,8,8,8,8,8,8,8,8,8,8,8,8,8,8,8,8,8,8,8,8,8,8,8,8,8,8,8,8,8,8,8,8,8,8,8,8,8,8,8,8,8,8,8,8,8,8,8,8,8,8,8,8,8,8,8,8,8,8,8,8,8,8,8,8,8,8,8,8,8,8,8,8,8]⟩:ByteArray) ((x0 / 256) % 256)))))) else (none)) else (none)) else (if 0≤((x0) % 256) then (if ((x0) % 256) < 256 then (some (wrap64 (x2 + (wrap64 (bt (⟨#[0,1,2,2,3,3,3,3,4,4,4,4,4,4,4,4,5,5,5,5,5,5,5,5,5,5,5,5,5,5,5,5,6,6,6,6,6,6,6,6,6,6,6,6,6,6,6,6,6,6,6,6,6,6,6,6,6,6,6,6,6,6,6,6,7,7,7,7,7,7,7,7,7,7,7,7,7,7,7,7,7,7,7,7,7,7,7,7,7,7,7,7,7,7,7,7,7,7,7,7,7,7,7,7,7,7,7,7,7,7,7,7,7,7,7,7,7,7,7,7,7,7,7,7,7,7,7,7,8,8,8,8,8,8,8,8,8,8,8,8,8,8,8,8,8,8,8,8,8,8,8,8,8,8,8,8,8,8,8,8,8,8,8,8,8,8,8,8,8,8,8,8,8,8,8,8,8,8,8,8,8,8,8,8,8,8,8,8,8,8,8,8,8,8,8,8,8,8,8,8,8,8,8,8,8,8,8,8,8,8,8,8,8,8,8,8,8,8,8,8,8,8,8,8,8,8,8,8,8,8,8,8,8,8,8,8,8,8,8,8,8,8,8,8,8,8,8,8,8,8,8,8,8,8,8,8]⟩:ByteArray) ((x0) % 256)))))) else (none)) else (none)))
def bits_Len64.f (k:Nat) (a0:Int):Option (Int):=if a0 ≥ 4294967296 then (bits_Len64.j0 k (a0 / 4294967296) 32) else (bits_Len64.j0 k a0 0)
theorem bits_Len64.mono_l : ∀ k,(∀ y0 y1,LeO (bits_Len64.j0 k y0 y1) (bits_Len64.j0 (k + 1) y0 y1))
  | 0=>fun _ _ r h=>by simp [bits_Len64.j0] at h
  | k + 1=>by
    have ih0:=bits_Len64.mono_l k
    · intro y0 y1
      unfold bits_Len64.j0
      repeat' first
      | (with_reducible exact ih0 _ _)
      | (with_reducible exact LeO.refl _)
      | (with_reducible exact LeO.none _)
      | (with_reducible refine LeO.ite ?_ ?_)
      | (with_reducible refine LeO.bind ?_ (fun _=>?_))
      | exact ih0 _ _
      | exact LeO.none _
      | refine LeO.ite ?_ ?_
      | refine LeO.bind ?_ (fun _=>?_)
theorem bits_Len64.mono : ∀ a0 k,LeO (bits_Len64.f k a0) (bits_Len64.f (k + 1) a0):=by
  intro a0 k
  have ih0:=bits_Len64.mono_l k
  unfold bits_Len64.f
  repeat' first
      | (with_reducible exact ih0 _ _)
      | (with_reducible exact LeO.refl _)
      | (with_reducible exact LeO.none _)
      | (with_reducible refine LeO.ite ?_ ?_)
      | (with_reducible refine LeO.bind ?_ (fun _=>?_))
      | exact ih0 _ _
      | exact LeO.none _
      | refine LeO.ite ?_ ?_
      | refine LeO.bind ?_ (fun _=>?_)
def bits_LeadingZeros64.f (k:Nat) (a0:Int):Option (Int):=(bits_Len64.f k a0).bind fun t154=>(some (wrap64 (64 - t154)))
theorem bits_LeadingZeros64.mono : ∀ a0 k,LeO (bits_LeadingZeros64.f k a0) (bits_LeadingZeros64.f (k + 1) a0):=by
  intro a0 k
  unfold bits_LeadingZeros64.f
  repeat' first
      | (with_reducible exact bits_Len64.mono _ _)
      | (with_reducible exact LeO.refl _)
      | (with_reducible exact LeO.none _)
      | (with_reducible refine LeO.ite ?_ ?_)
      | (with_reducible refine LeO.bind ?_ (fun _=>?_))
      | exact bits_Len64.mono _ _
      | exact LeO.none _
      | refine LeO.ite ?_ ?_
      | refine LeO.bind ?_ (fun _=>?_)
mutual
def bits_Div64.j2:Nat→Int→Int→Int→Int→Int→Int→Int→Int→Option (Int×Int)
  | 0,_,_,_,_,_,_,_,_=>none
  | k + 1,x2,x8,x9,x10,x11,x13,x14,x15=>if x9=0 then (none) else (bits_Div64.l1 k x2 x8 x9 x10 x14 x15 (IntKind.u64.wrap ((IntKind.u64.wrap ((IntKind.u64.wrap ((IntKind.u64.wrap (x11 * 4294967296)) + x13)) - (IntKind.u64.wrap (x15 * x2)))) - (IntKind.u64.wrap ((IntKind.u64.wrap (Int.tdiv (IntKind.u64.wrap ((IntKind.u64.wrap ((IntKind.u64.wrap (x11 * 4294967296)) + x13)) - (IntKind.u64.wrap (x15 * x2)))) x9)) * x9)))) (IntKind.u64.wrap ((IntKind.u64.wrap ((IntKind.u64.wrap (x11 * 4294967296)) + x13)) - (IntKind.u64.wrap (x15 * x2)))) (IntKind.u64.wrap (Int.tdiv (IntKind.u64.wrap ((IntKind.u64.wrap ((IntKind.u64.wrap (x11 * 4294967296)) + x13)) - (IntKind.u64.wrap (x15 * x2)))) x9)))
def bits_Div64.l1:Nat→Int→Int→Int→Int→Int→Int→Int→Int→Int→Option (Int×Int)
  | 0,_,_,_,_,_,_,_,_,_=>none
  | k + 1,x2,x8,x9,x10,x14,x15,x16,x17,x18=>if x18 ≥ 4294967296 then (bits_Div64.j4 k x2 x8 x9 x10 x14 x15 x16 x17 x18 true) else (bits_Div64.j4 k x2 x8 x9 x10 x14 x15 x16 x17 x18 (decide ((IntKind.u64.wrap (x18 * x10)) > (IntKind.u64.wrap ((IntKind.u64.wrap (4294967296 * x16)) + x14)))))
def bits_Div64.j4:Nat→Int→Int→Int→Int→Int→Int→Int→Int→Int→Bool→Option (Int×Int)
  | 0,_,_,_,_,_,_,_,_,_,_=>none
  | k + 1,x2,x8,x9,x10,x14,x15,x16,x17,x18,x113=>if x113=true then (if (IntKind.u64.wrap (x16 + x9)) ≥ 4294967296 then (if 0≤x8 then (some (IntKind.u64.wrap ((IntKind.u64.wrap (x15 * 4294967296)) + (IntKind.u64.wrap (x18 - 1))),shr .u64 (IntKind.u64.wrap ((IntKind.u64.wrap ((IntKind.u64.wrap (x17 * 4294967296)) + x14)) - (IntKind.u64.wrap ((IntKind.u64.wrap (x18 - 1)) * x2)))) x8)) else (none)) else (bits_Div64.l1 k x2 x8 x9 x10 x14 x15 (IntKind.u64.wrap (x16 + x9)) x17 (IntKind.u64.wrap (x18 - 1)))) else (if 0≤x8 then (some (IntKind.u64.wrap ((IntKind.u64.wrap (x15 * 4294967296)) + x18),shr .u64 (IntKind.u64.wrap ((IntKind.u64.wrap ((IntKind.u64.wrap (x17 * 4294967296)) + x14)) - (IntKind.u64.wrap (x18 * x2)))) x8)) else (none))
def bits_Div64.l0:Nat→Int→Int→Int→Int→Int→Int→Int→Int→Int→Option (Int×Int)
  | 0,_,_,_,_,_,_,_,_,_=>none
  | k + 1,x2,x8,x9,x10,x11,x13,x14,x15,x16=>if x15 ≥ 4294967296 then (bits_Div64.j1 k x2 x8 x9 x10 x11 x13 x14 x15 x16 true) else (bits_Div64.j1 k x2 x8 x9 x10 x11 x13 x14 x15 x16 (decide ((IntKind.u64.wrap (x15 * x10)) > (IntKind.u64.wrap ((IntKind.u64.wrap (4294967296 * x16)) + x13)))))
def bits_Div64.j1:Nat→Int→Int→Int→Int→Int→Int→Int→Int→Int→Bool→Option (Int×Int)
  | 0,_,_,_,_,_,_,_,_,_,_=>none
  | k + 1,x2,x8,x9,x10,x11,x13,x14,x15,x16,x78=>if x78=true then (if (IntKind.u64.wrap (x16 + x9)) ≥ 4294967296 then (bits_Div64.j2 k x2 x8 x9 x10 x11 x13 x14 (IntKind.u64.wrap (x15 - 1))) else (bits_Div64.l0 k x2 x8 x9 x10 x11 x13 x14 (IntKind.u64.wrap (x15 - 1)) (IntKind.u64.wrap (x16 + x9)))) else (bits_Div64.j2 k x2 x8 x9 x10 x11 x13 x14 x15)
end
def bits_Div64.f (k:Nat) (a0:Int) (a1:Int) (a2:Int):Option (Int×Int):=if a2=0 then (none) else (if a2≤a0 then (none) else (if a0=0 then (some (IntKind.u64.wrap (Int.tdiv a1 a2),Int.tmod a1 a2)) else ((bits_LeadingZeros64.f k a2).bind fun t155=>(if 0≤(IntKind.u64.wrap (t155)) then (if 0≤(IntKind.u64.wrap (64 - (IntKind.u64.wrap (t155)))) then (if ((shl .u64 a2 (IntKind.u64.wrap (t155))) / 4294967296)=0 then (none) else (bits_Div64.l0 k (shl .u64 a2 (IntKind.u64.wrap (t155))) (IntKind.u64.wrap (t155)) ((shl .u64 a2 (IntKind.u64.wrap (t155))) / 4294967296) (Go.bits .and .u64 (shl .u64 a2 (IntKind.u64.wrap (t155))) 4294967295) (Go.bits .or .u64 (shl .u64 a0 (IntKind.u64.wrap (t155))) (shr .u64 a1 (IntKind.u64.wrap (64 - (IntKind.u64.wrap (t155)))))) ((shl .u64 a1 (IntKind.u64.wrap (t155))) / 4294967296) (Go.bits .and .u64 (shl .u64 a1 (IntKind.u64.wrap (t155))) 4294967295) (IntKind.u64.wrap (Int.tdiv (Go.bits .or .u64 (shl .u64 a0 (IntKind.u64.wrap (t155))) (shr .u64 a1 (IntKind.u64.wrap (64 - (IntKind.u64.wrap (t155)))))) ((shl .u64 a2 (IntKind.u64.wrap (t155))) / 4294967296))) (IntKind.u64.wrap ((Go.bits .or .u64 (shl .u64 a0 (IntKind.u64.wrap (t155))) (shr .u64 a1 (IntKind.u64.wrap (64 - (IntKind.u64.wrap (t155)))))) - (IntKind.u64.wrap ((IntKind.u64.wrap (Int.tdiv (Go.bits .or .u64 (shl .u64 a0 (IntKind.u64.wrap (t155))) (shr .u64 a1 (IntKind.u64.wrap (64 - (IntKind.u64.wrap (t155)))))) ((shl .u64 a2 (IntKind.u64.wrap (t155))) / 4294967296))) * ((shl .u64 a2 (IntKind.u64.wrap (t155))) / 4294967296))))))) else (none)) else (none)))))
theorem bits_Div64.mono_l : ∀ k,(∀ y0 y1 y2 y3 y4 y5 y6 y7,LeO (bits_Div64.j2 k y0 y1 y2 y3 y4 y5 y6 y7) (bits_Div64.j2 (k + 1) y0 y1 y2 y3 y4 y5 y6 y7))∧(∀ y0 y1 y2 y3 y4 y5 y6 y7 y8,LeO (bits_Div64.l1 k y0 y1 y2 y3 y4 y5 y6 y7 y8) (bits_Div64.l1 (k + 1) y0 y1 y2 y3 y4 y5 y6 y7 y8))∧(∀ y0 y1 y2 y3 y4 y5 y6 y7 y8 y9,LeO (bits_Div64.j4 k y0 y1 y2 y3 y4 y5 y6 y7 y8 y9) (bits_Div64.j4 (k + 1) y0 y1 y2 y3 y4 y5 y6 y7 y8 y9))∧(∀ y0 y1 y2 y3 y4 y5 y6 y7 y8,LeO (bits_Div64.l0 k y0 y1 y2 y3 y4 y5 y6 y7 y8) (bits_Div64.l0 (k + 1) y0 y1 y2 y3 y4 y5 y6 y7 y8))∧(∀ y0 y1 y2 y3 y4 y5 y6 y7 y8 y9,LeO (bits_Div64.j1 k y0 y1 y2 y3 y4 y5 y6 y7 y8 y9) (bits_Div64.j1 (k + 1) y0 y1 y2 y3 y4 y5 y6 y7 y8 y9))
  | 0=>⟨fun _ _ _ _ _ _ _ _ r h=>by simp [bits_Div64.j2] at h,fun _ _ _ _ _ _ _ _ _ r h=>by simp [bits_Div64.l1] at h,fun _ _ _ _ _ _ _ _ _ _ r h=>by simp [bits_Div64.j4] at h,fun _ _ _ _ _ _ _ _ _ r h=>by simp [bits_Div64.l0] at h,fun _ _ _ _ _ _ _ _ _ _ r h=>by simp [bits_Div64.j1] at h⟩
  | k + 1=>by
    obtain ⟨ih0,ih1,ih2,ih3,ih4⟩:=bits_Div64.mono_l k
    refine ⟨?_,?_,?_,?_,?_⟩
    · intro y0 y1 y2 y3 y4 y5 y6 y7
      unfold bits_Div64.j2
      repeat' first
      | (with_reducible exact ih0 _ _ _ _ _ _ _ _)
      | (with_reducible exact ih1 _ _ _ _ _ _ _ _ _)
      | (with_reducible exact ih2 _ _ _ _ _ _ _ _ _ _)
      | (with_reducible exact ih3 _ _ _ _ _ _ _ _ _)
      | (with_reducible exact ih4 _ _ _ _ _ _ _ _ _ _)
      | (with_reducible exact bits_LeadingZeros64.mono _ _)
      | (with_reducible exact LeO.refl _)
      | (with_reducible exact LeO.none _)
      | (with_reducible refine LeO.ite ?_ ?_)
      | (with_reducible refine LeO.bind ?_ (fun _=>?_))
      | exact ih0 _ _ _ _ _ _ _ _
      | exact ih1 _ _ _ _ _ _ _ _ _
      | exact ih2 _ _ _ _ _ _ _ _ _ _
      | exact ih3 _ _ _ _ _ _ _ _ _
      | exact ih4 _ _ _ _ _ _ _ _ _ _
      | exact bits_LeadingZeros64.mono _ _
      | exact LeO.none _
      | refine LeO.ite ?_ ?_
      | refine LeO.bind ?_ (fun _=>?_)
    · intro y0 y1 y2 y3 y4 y5 y6 y7 y8
      unfold bits_Div64.l1
      repeat' first
      | (with_reducible exact ih0 _ _ _ _ _ _ _ _)
      | (with_reducible exact ih1 _ _ _ _ _ _ _ _ _)
      | (with_reducible exact ih2 _ _ _ _ _ _ _ _ _ _)
      | (with_reducible exact ih3 _ _ _ _ _ _ _ _ _)
      | (with_reducible exact ih4 _ _ _ _ _ _ _ _ _ _)
      | (with_reducible exact bits_LeadingZeros64.mono _ _)
      | (with_reducible exact LeO.refl _)
      | (with_reducible exact LeO.none _)
      | (with_reducible refine LeO.ite ?_ ?_)
      | (with_reducible refine LeO.bind ?_ (fun _=>?_))
      | exact ih0 _ _ _ _ _ _ _ _
      | exact ih1 _ _ _ _ _ _ _ _ _
      | exact ih2 _ _ _ _ _ _ _ _ _ _
      | exact ih3 _ _ _ _ _ _ _ _ _
      | exact ih4 _ _ _ _ _ _ _ _ _ _
      | exact bits_LeadingZeros64.mono _ _
      | exact LeO.none _
      | refine LeO.ite ?_ ?_
      | refine LeO.bind ?_ (fun _=>?_)
    · intro y0 y1 y2 y3 y4 y5 y6 y7 y8 y9
      unfold bits_Div64.j4
      repeat' first
      | (with_reducible exact ih0 _ _ _ _ _ _ _ _)
      | (with_reducible exact ih1 _ _ _ _ _ _ _ _ _)
      | (with_reducible exact ih2 _ _ _ _ _ _ _ _ _ _)
      | (with_reducible exact ih3 _ _ _ _ _ _ _ _ _)
      | (with_reducible exact ih4 _ _ _ _ _ _ _ _ _ _)
      | (with_reducible exact bits_LeadingZeros64.mono _ _)
      | (with_reducible exact LeO.refl _)
      | (with_reducible exact LeO.none _)
      | (with_reducible refine LeO.ite ?_ ?_)
      | (with_reducible refine LeO.bind ?_ (fun _=>?_))
      | exact ih0 _ _ _ _ _ _ _ _
      | exact ih1 _ _ _ _ _ _ _ _ _
      | exact ih2 _ _ _ _ _ _ _ _ _ _
      | exact ih3 _ _ _ _ _ _ _ _ _
      | exact ih4 _ _ _ _ _ _ _ _ _ _
      | exact bits_LeadingZeros64.mono _ _
      | exact LeO.none _
      | refine LeO.ite ?_ ?_
      | refine LeO.bind ?_ (fun _=>?_)
    · intro y0 y1 y2 y3 y4 y5 y6 y7 y8
      unfold bits_Div64.l0
      repeat' first
      | (with_reducible exact ih0 _ _ _ _ _ _ _ _)
      | (with_reducible exact ih1 _ _ _ _ _ _ _ _ _)
      | (with_reducible exact ih2 _ _ _ _ _ _ _ _ _ _)
      | (with_reducible exact ih3 _ _ _ _ _ _ _ _ _)
      | (with_reducible exact ih4 _ _ _ _ _ _ _ _ _ _)
      | (with_reducible exact bits_LeadingZeros64.mono _ _)
      | (with_reducible exact LeO.refl _)
      | (with_reducible exact LeO.none _)
      | (with_reducible refine LeO.ite ?_ ?_)
      | (with_reducible refine LeO.bind ?_ (fun _=>?_))
      | exact ih0 _ _ _ _ _ _ _ _
      | exact ih1 _ _ _ _ _ _ _ _ _
      | exact ih2 _ _ _ _ _ _ _ _ _ _
      | exact ih3 _ _ _ _ _ _ _ _ _
      | exact ih4 _ _ _ _ _ _ _ _ _ _
      | exact bits_LeadingZeros64.mono _ _
      | exact LeO.none _
      | refine LeO.ite ?_ ?_
      | refine LeO.bind ?_ (fun _=>?_)
    · intro y0 y1 y2 y3 y4 y5 y6 y7 y8 y9
      unfold bits_Div64.j1
      repeat' first
      | (with_reducible exact ih0 _ _ _ _ _ _ _ _)
      | (with_reducible exact ih1 _ _ _ _ _ _ _ _ _)
      | (with_reducible exact ih2 _ _ _ _ _ _ _ _ _ _)
      | (with_reducible exact ih3 _ _ _ _ _ _ _ _ _)
      | (with_reducible exact ih4 _ _ _ _ _ _ _ _ _ _)
      | (with_reducible exact bits_LeadingZeros64.mono _ _)
      | (with_reducible exact LeO.refl _)
      | (with_reducible exact LeO.none _)
      | (with_reducible refine LeO.ite ?_ ?_)
      | (with_reducible refine LeO.bind ?_ (fun _=>?_))
      | exact ih0 _ _ _ _ _ _ _ _
      | exact ih1 _ _ _ _ _ _ _ _ _
      | exact ih2 _ _ _ _ _ _ _ _ _ _
      | exact ih3 _ _ _ _ _ _ _ _ _
      | exact ih4 _ _ _ _ _ _ _ _ _ _
      | exact bits_LeadingZeros64.mono _ _
      | exact LeO.none _
      | refine LeO.ite ?_ ?_
      | refine LeO.bind ?_ (fun _=>?_)
theorem bits_Div64.mono : ∀ a0 a1 a2 k,LeO (bits_Div64.f k a0 a1 a2) (bits_Div64.f (k + 1) a0 a1 a2):=by
  intro a0 a1 a2 k
  obtain ⟨ih0,ih1,ih2,ih3,ih4⟩:=bits_Div64.mono_l k
  unfold bits_Div64.f
  repeat' first
      | (with_reducible exact ih0 _ _ _ _ _ _ _ _)
      | (with_reducible exact ih1 _ _ _ _ _ _ _ _ _)
      | (with_reducible exact ih2 _ _ _ _ _ _ _ _ _ _)
      | (with_reducible exact ih3 _ _ _ _ _ _ _ _ _)
      | (with_reducible exact ih4 _ _ _ _ _ _ _ _ _ _)
      | (with_reducible exact bits_LeadingZeros64.mono _ _)
      | (with_reducible exact LeO.refl _)
      | (with_reducible exact LeO.none _)
      | (with_reducible refine LeO.ite ?_ ?_)
      | (with_reducible refine LeO.bind ?_ (fun _=>?_))
      | exact ih0 _ _ _ _ _ _ _ _
      | exact ih1 _ _ _ _ _ _ _ _ _
      | exact ih2 _ _ _ _ _ _ _ _ _ _
      | exact ih3 _ _ _ _ _ _ _ _ _
      | exact ih4 _ _ _ _ _ _ _ _ _ _
      | exact bits_LeadingZeros64.mono _ _
      | exact LeO.none _
      | refine LeO.ite ?_ ?_
      | refine LeO.bind ?_ (fun _=>?_)
def quot_by.l0:Nat→List Int→Int→List Int→Int→Int→Option (List Int×Int)
  | 0,_,_,_,_,_=>none
  | k + 1,x0,x1,x6,x7,x8=>if x8 ≥ 0 then (if 0≤x8 then (if x8 < (x0.length:Int) then ((bits_Div64.f k x7 (rd x0 x8) x1).bind fun bt160=>(if x8 < (x6.length:Int) then (quot_by.l0 k x0 x1 (x6.set (x8:Int).toNat bt160.1) bt160.2 (wrap64 (x8 - 1))) else (none))) else (none)) else (none)) else (some (x6,x7))
def quot_by.f (k:Nat) (l0:List Int) (a1:Int):Option (List Int×Int):=if 0≤(l0.length:Int) then (if ((l0.length:Int):Int).toNat≤35184372088832 then (quot_by.l0 k l0 a1 (List.replicate ((l0.length:Int):Int).toNat 0) 0 (wrap64 ((l0.length:Int) - 1))) else (none)) else (none)
theorem quot_by.mono_l : ∀ k,(∀ y0 y1 y2 y3 y4,LeO (quot_by.l0 k y0 y1 y2 y3 y4) (quot_by.l0 (k + 1) y0 y1 y2 y3 y4))
  | 0=>fun _ _ _ _ _ r h=>by simp [quot_by.l0] at h
  | k + 1=>by
    have ih0:=quot_by.mono_l k
    · intro y0 y1 y2 y3 y4
      unfold quot_by.l0
      repeat' first
      | (with_reducible exact ih0 _ _ _ _ _)
      | (with_reducible exact bits_Div64.mono _ _ _ _)
      | (with_reducible exact LeO.refl _)
      | (with_reducible exact LeO.none _)
      | (with_reducible refine LeO.ite ?_ ?_)
      | (with_reducible refine LeO.bind ?_ (fun _=>?_))
      | exact ih0 _ _ _ _ _
      | exact bits_Div64.mono _ _ _ _
      | exact LeO.none _
      | refine LeO.ite ?_ ?_
      | refine LeO.bind ?_ (fun _=>?_)
theorem quot_by.mono : ∀ a0 a1 k,LeO (quot_by.f k a0 a1) (quot_by.f (k + 1) a0 a1):=by
  intro a0 a1 k
  have ih0:=quot_by.mono_l k
  unfold quot_by.f
  repeat' first
      | (with_reducible exact ih0 _ _ _ _ _)
      | (with_reducible exact bits_Div64.mono _ _ _ _)
      | (with_reducible exact LeO.refl _)
      | (with_reducible exact LeO.none _)
      | (with_reducible refine LeO.ite ?_ ?_)
      | (with_reducible refine LeO.bind ?_ (fun _=>?_))
      | exact ih0 _ _ _ _ _
      | exact bits_Div64.mono _ _ _ _
      | exact LeO.none _
      | refine LeO.ite ?_ ?_
      | refine LeO.bind ?_ (fun _=>?_)
def quot_moved.l0:Nat→Int→List Int→List Int→Int→Int→Option (List Int)
  | 0,_,_,_,_,_=>none
  | k + 1,x1,x5,x12,x13,x14=>if x14 < x13 then (if 0≤x14 then (if x14 < (x12.length:Int) then (if x14 < (x5.length:Int) then (if 0≤x1 then (if 0≤(IntKind.u64.wrap (64 - x1)) then (if 0≤(wrap64 (x14 + 1)) then (if (wrap64 (x14 + 1)) < (x5.length:Int) then (quot_moved.l0 k x1 ((x5.set (x14:Int).toNat (Go.bits .or .u64 (rd x5 x14) (shl .u64 (rd x12 x14) x1))).set ((wrap64 (x14 + 1)):Int).toNat (shr .u64 (rd x12 x14) (IntKind.u64.wrap (64 - x1)))) x12 x13 (wrap64 (x14 + 1))) else (none)) else (none)) else (none)) else (none)) else (none)) else (none)) else (none)) else (some x5)
def quot_moved.f (k:Nat) (l0:List Int) (a1:Int):Option (List Int):=if 0≤(wrap64 ((l0.length:Int) + 1)) then (if (wrap64 ((l0.length:Int) + 1):Int).toNat≤35184372088832 then (quot_moved.l0 k a1 (List.replicate (wrap64 ((l0.length:Int) + 1):Int).toNat 0) l0 (l0.length:Int) 0) else (none)) else (none)
theorem quot_moved.mono_l : ∀ k,(∀ y0 y1 y2 y3 y4,LeO (quot_moved.l0 k y0 y1 y2 y3 y4) (quot_moved.l0 (k + 1) y0 y1 y2 y3 y4))
  | 0=>fun _ _ _ _ _ r h=>by simp [quot_moved.l0] at h
  | k + 1=>by
    have ih0:=quot_moved.mono_l k
    · intro y0 y1 y2 y3 y4
      unfold quot_moved.l0
      repeat' first
      | (with_reducible exact ih0 _ _ _ _ _)
      | (with_reducible exact LeO.refl _)
      | (with_reducible exact LeO.none _)
      | (with_reducible refine LeO.ite ?_ ?_)
      | (with_reducible refine LeO.bind ?_ (fun _=>?_))
      | exact ih0 _ _ _ _ _
      | exact LeO.none _
      | refine LeO.ite ?_ ?_
      | refine LeO.bind ?_ (fun _=>?_)
theorem quot_moved.mono : ∀ a0 a1 k,LeO (quot_moved.f k a0 a1) (quot_moved.f (k + 1) a0 a1):=by
  intro a0 a1 k
  have ih0:=quot_moved.mono_l k
  unfold quot_moved.f
  repeat' first
      | (with_reducible exact ih0 _ _ _ _ _)
      | (with_reducible exact LeO.refl _)
      | (with_reducible exact LeO.none _)
      | (with_reducible refine LeO.ite ?_ ?_)
      | (with_reducible refine LeO.bind ?_ (fun _=>?_))
      | exact ih0 _ _ _ _ _
      | exact LeO.none _
      | refine LeO.ite ?_ ?_
      | refine LeO.bind ?_ (fun _=>?_)
def bits_Mul64.f (a0:Int) (a1:Int):Option (Int×Int):=some (IntKind.u64.wrap ((IntKind.u64.wrap ((IntKind.u64.wrap ((a0 / 4294967296) * (a1 / 4294967296))) + ((IntKind.u64.wrap ((IntKind.u64.wrap ((a0 / 4294967296) * (Go.bits .and .u64 a1 4294967295))) + ((IntKind.u64.wrap ((Go.bits .and .u64 a0 4294967295) * (Go.bits .and .u64 a1 4294967295))) / 4294967296))) / 4294967296))) + ((IntKind.u64.wrap ((Go.bits .and .u64 (IntKind.u64.wrap ((IntKind.u64.wrap ((a0 / 4294967296) * (Go.bits .and .u64 a1 4294967295))) + ((IntKind.u64.wrap ((Go.bits .and .u64 a0 4294967295) * (Go.bits .and .u64 a1 4294967295))) / 4294967296))) 4294967295) + (IntKind.u64.wrap ((Go.bits .and .u64 a0 4294967295) * (a1 / 4294967296))))) / 4294967296)),IntKind.u64.wrap (a0 * a1))
mutual
def quot_guess.l0:Nat→List Int→Int→Int→Int→Int→Option (Int)
  | 0,_,_,_,_,_=>none
  | k + 1,x1,x5,x8,x9,x10=>if 0≤(wrap64 (x5 - 2)) then (if (wrap64 (x5 - 2)) < (x1.length:Int) then ((bits_Mul64.f x9 (rd x1 (wrap64 (x5 - 2)))).bind fun bt178=>(if bt178.1 < x10 then (quot_guess.j1 k x1 x5 x8 x9 x10 true) else (if bt178.1=x10 then (quot_guess.j1 k x1 x5 x8 x9 x10 (decide (bt178.2≤x8))) else (quot_guess.j1 k x1 x5 x8 x9 x10 false)))) else (none)) else (none)
def quot_guess.j1:Nat→List Int→Int→Int→Int→Int→Bool→Option (Int)
  | 0,_,_,_,_,_,_=>none
  | k + 1,x1,x5,x8,x9,x10,x71=>if x71=true then (some x9) else (if 0≤(wrap64 (x5 - 1)) then (if (wrap64 (x5 - 1)) < (x1.length:Int) then (if (add64c x10 (rd x1 (wrap64 (x5 - 1))) 0)=0 then (quot_guess.l0 k x1 x5 x8 (IntKind.u64.wrap (x9 - 1)) (add64s x10 (rd x1 (wrap64 (x5 - 1))) 0)) else (some (IntKind.u64.wrap (x9 - 1)))) else (none)) else (none))
end
def quot_guess.f (k:Nat) (l0:List Int) (l1:List Int):Option (Int):=if 0≤(l1.length:Int) then (if (l1.length:Int) < (l0.length:Int) then (if 0≤(wrap64 ((l1.length:Int) - 1)) then (if (wrap64 ((l1.length:Int) - 1)) < (l0.length:Int) then (if 0≤(wrap64 ((l1.length:Int) - 2)) then (if (wrap64 ((l1.length:Int) - 2)) < (l0.length:Int) then (if (wrap64 ((l1.length:Int) - 1)) < (l1.length:Int) then (if (rd l0 (l1.length:Int)) ≥ (rd l1 (wrap64 ((l1.length:Int) - 1))) then (some 18446744073709551615) else ((bits_Div64.f k (rd l0 (l1.length:Int)) (rd l0 (wrap64 ((l1.length:Int) - 1))) (rd l1 (wrap64 ((l1.length:Int) - 1)))).bind fun bt175=>(quot_guess.l0 k l1 (l1.length:Int) (rd l0 (wrap64 ((l1.length:Int) - 2))) bt175.1 bt175.2))) else (none)) else (none)) else (none)) else (none)) else (none)) else (none)) else (none)
theorem quot_guess.mono_l : ∀ k,(∀ y0 y1 y2 y3 y4,LeO (quot_guess.l0 k y0 y1 y2 y3 y4) (quot_guess.l0 (k + 1) y0 y1 y2 y3 y4))∧(∀ y0 y1 y2 y3 y4 y5,LeO (quot_guess.j1 k y0 y1 y2 y3 y4 y5) (quot_guess.j1 (k + 1) y0 y1 y2 y3 y4 y5))
  | 0=>⟨fun _ _ _ _ _ r h=>by simp [quot_guess.l0] at h,fun _ _ _ _ _ _ r h=>by simp [quot_guess.j1] at h⟩
  | k + 1=>by
    obtain ⟨ih0,ih1⟩:=quot_guess.mono_l k
    refine ⟨?_,?_⟩
    · intro y0 y1 y2 y3 y4
      unfold quot_guess.l0
      repeat' first
      | (with_reducible exact ih0 _ _ _ _ _)
      | (with_reducible exact ih1 _ _ _ _ _ _)
      | (with_reducible exact bits_Div64.mono _ _ _ _)
      | (with_reducible exact LeO.refl _)
      | (with_reducible exact LeO.none _)
      | (with_reducible refine LeO.ite ?_ ?_)
      | (with_reducible refine LeO.bind ?_ (fun _=>?_))
      | exact ih0 _ _ _ _ _
      | exact ih1 _ _ _ _ _ _
      | exact bits_Div64.mono _ _ _ _
      | exact LeO.none _
      | refine LeO.ite ?_ ?_
      | refine LeO.bind ?_ (fun _=>?_)
    · intro y0 y1 y2 y3 y4 y5
      unfold quot_guess.j1
      repeat' first
      | (with_reducible exact ih0 _ _ _ _ _)
      | (with_reducible exact ih1 _ _ _ _ _ _)
      | (with_reducible exact bits_Div64.mono _ _ _ _)
      | (with_reducible exact LeO.refl _)
      | (with_reducible exact LeO.none _)
      | (with_reducible refine LeO.ite ?_ ?_)
      | (with_reducible refine LeO.bind ?_ (fun _=>?_))
      | exact ih0 _ _ _ _ _
      | exact ih1 _ _ _ _ _ _
      | exact bits_Div64.mono _ _ _ _
      | exact LeO.none _
      | refine LeO.ite ?_ ?_
      | refine LeO.bind ?_ (fun _=>?_)
theorem quot_guess.mono : ∀ a0 a1 k,LeO (quot_guess.f k a0 a1) (quot_guess.f (k + 1) a0 a1):=by
  intro a0 a1 k
  obtain ⟨ih0,ih1⟩:=quot_guess.mono_l k
  unfold quot_guess.f
  repeat' first
      | (with_reducible exact ih0 _ _ _ _ _)
      | (with_reducible exact ih1 _ _ _ _ _ _)
      | (with_reducible exact bits_Div64.mono _ _ _ _)
      | (with_reducible exact LeO.refl _)
      | (with_reducible exact LeO.none _)
      | (with_reducible refine LeO.ite ?_ ?_)
      | (with_reducible refine LeO.bind ?_ (fun _=>?_))
      | exact ih0 _ _ _ _ _
      | exact ih1 _ _ _ _ _ _
      | exact bits_Div64.mono _ _ _ _
      | exact LeO.none _
      | refine LeO.ite ?_ ?_
      | refine LeO.bind ?_ (fun _=>?_)
def quot_guessW.f (k:Nat) (l0:List Int) (lo_ hi_:Int) (l1:List Int):Option (Int):=if 0≤lo_∧lo_ < hi_∧hi_≤(l0.length:Int) then quot_guess.f k ((l0.take hi_.toNat).drop lo_.toNat) l1 else none
theorem quot_guessW.mono : ∀ a0 a1 a2 a3 k,LeO (quot_guessW.f k a0 a1 a2 a3) (quot_guessW.f (k + 1) a0 a1 a2 a3):=by
  intro a0 a1 a2 a3 k
  unfold quot_guessW.f
  refine LeO.ite ?_ (LeO.none _)
  exact quot_guess.mono _ _ _
def quot_less.l0:Nat→List Int→List Int→Int→Int→Int→List Int→Int→Int→Option (Int×List Int)
  | 0,_,_,_,_,_,_,_,_=>none
  | k + 1,x0,x1,x2,x7,x8,x14,x15,x16=>if x16 < x15 then (if 0≤x16 then (if x16 < (x14.length:Int) then ((bits_Mul64.f (rd x14 x16) x2).bind fun bt182=>(if x16 < (x0.length:Int) then (if x8≤1 then (quot_less.l0 k (x0.set (x16:Int).toNat (sub64d (rd x0 x16) (add64s bt182.2 x7 0) x8)) x1 x2 (IntKind.u64.wrap (bt182.1 + (add64c bt182.2 x7 0))) (sub64b (rd x0 x16) (add64s bt182.2 x7 0) x8) x14 x15 (wrap64 (x16 + 1))) else (none)) else (none))) else (none)) else (none)) else (if 0≤(x1.length:Int) then (if (x1.length:Int) < (x0.length:Int) then (if x8≤1 then (some (sub64b (rd x0 (x1.length:Int)) x7 x8,(x0.set ((x1.length:Int):Int).toNat (sub64d (rd x0 (x1.length:Int)) x7 x8)))) else (none)) else (none)) else (none))
def quot_less.f (k:Nat) (l0:List Int) (l1:List Int) (a2:Int):Option (Int×List Int):=quot_less.l0 k l0 l1 a2 0 0 l1 (l1.length:Int) 0
theorem quot_less.mono_l : ∀ k,(∀ y0 y1 y2 y3 y4 y5 y6 y7,LeO (quot_less.l0 k y0 y1 y2 y3 y4 y5 y6 y7) (quot_less.l0 (k + 1) y0 y1 y2 y3 y4 y5 y6 y7))
  | 0=>fun _ _ _ _ _ _ _ _ r h=>by simp [quot_less.l0] at h
  | k + 1=>by
    have ih0:=quot_less.mono_l k
    · intro y0 y1 y2 y3 y4 y5 y6 y7
      unfold quot_less.l0
      repeat' first
      | (with_reducible exact ih0 _ _ _ _ _ _ _ _)
      | (with_reducible exact LeO.refl _)
      | (with_reducible exact LeO.none _)
      | (with_reducible refine LeO.ite ?_ ?_)
      | (with_reducible refine LeO.bind ?_ (fun _=>?_))
      | exact ih0 _ _ _ _ _ _ _ _
      | exact LeO.none _
      | refine LeO.ite ?_ ?_
      | refine LeO.bind ?_ (fun _=>?_)
theorem quot_less.mono : ∀ a0 a1 a2 k,LeO (quot_less.f k a0 a1 a2) (quot_less.f (k + 1) a0 a1 a2):=by
  intro a0 a1 a2 k
  have ih0:=quot_less.mono_l k
  unfold quot_less.f
  repeat' first
      | (with_reducible exact ih0 _ _ _ _ _ _ _ _)
      | (with_reducible exact LeO.refl _)
      | (with_reducible exact LeO.none _)
      | (with_reducible refine LeO.ite ?_ ?_)
      | (with_reducible refine LeO.bind ?_ (fun _=>?_))
      | exact ih0 _ _ _ _ _ _ _ _
      | exact LeO.none _
      | refine LeO.ite ?_ ?_
      | refine LeO.bind ?_ (fun _=>?_)
def quot_lessW.f (k:Nat) (l0:List Int) (lo_ hi_:Int) (l1:List Int) (a2:Int):Option (Int×List Int):=if 0≤lo_∧lo_ < hi_∧hi_≤(l0.length:Int) then (quot_less.f k ((l0.take hi_.toNat).drop lo_.toNat) l1 a2).map (fun r_=>(r_.1,l0.take lo_.toNat ++ r_.2 ++ l0.drop hi_.toNat)) else none
theorem quot_lessW.mono : ∀ a0 a1 a2 a3 a4 k,LeO (quot_lessW.f k a0 a1 a2 a3 a4) (quot_lessW.f (k + 1) a0 a1 a2 a3 a4):=by
  intro a0 a1 a2 a3 a4 k
  unfold quot_lessW.f
  refine LeO.ite ?_ (LeO.none _)
  intro r hr
  obtain ⟨r',h1,h2⟩:=Option.map_eq_some_iff.mp hr
  exact Option.map_eq_some_iff.mpr ⟨r',quot_less.mono _ _ _  k r' h1,h2⟩
def quot_back.l0:Nat→List Int→List Int→Int→List Int→Int→Int→Option (List Int)
  | 0,_,_,_,_,_,_=>none
  | k + 1,x0,x1,x4,x7,x8,x9=>if x9 < x8 then (if 0≤x9 then (if x9 < (x7.length:Int) then (if x9 < (x0.length:Int) then (if x4≤1 then (quot_back.l0 k (x0.set (x9:Int).toNat (add64s (rd x0 x9) (rd x7 x9) x4)) x1 (add64c (rd x0 x9) (rd x7 x9) x4) x7 x8 (wrap64 (x9 + 1))) else (none)) else (none)) else (none)) else (none)) else (if 0≤(x1.length:Int) then (if (x1.length:Int) < (x0.length:Int) then (some (x0.set ((x1.length:Int):Int).toNat (IntKind.u64.wrap ((rd x0 (x1.length:Int)) + x4)))) else (none)) else (none))
def quot_back.f (k:Nat) (l0:List Int) (l1:List Int):Option (List Int):=quot_back.l0 k l0 l1 0 l1 (l1.length:Int) 0
theorem quot_back.mono_l : ∀ k,(∀ y0 y1 y2 y3 y4 y5,LeO (quot_back.l0 k y0 y1 y2 y3 y4 y5) (quot_back.l0 (k + 1) y0 y1 y2 y3 y4 y5))
  | 0=>fun _ _ _ _ _ _ r h=>by simp [quot_back.l0] at h
  | k + 1=>by
    have ih0:=quot_back.mono_l k
    · intro y0 y1 y2 y3 y4 y5
      unfold quot_back.l0
      repeat' first
      | (with_reducible exact ih0 _ _ _ _ _ _)
      | (with_reducible exact LeO.refl _)
      | (with_reducible exact LeO.none _)
      | (with_reducible refine LeO.ite ?_ ?_)
      | (with_reducible refine LeO.bind ?_ (fun _=>?_))
      | exact ih0 _ _ _ _ _ _
      | exact LeO.none _
      | refine LeO.ite ?_ ?_
      | refine LeO.bind ?_ (fun _=>?_)
theorem quot_back.mono : ∀ a0 a1 k,LeO (quot_back.f k a0 a1) (quot_back.f (k + 1) a0 a1):=by
  intro a0 a1 k
  have ih0:=quot_back.mono_l k
  unfold quot_back.f
  repeat' first
      | (with_reducible exact ih0 _ _ _ _ _ _)
      | (with_reducible exact LeO.refl _)
      | (with_reducible exact LeO.none _)
      | (with_reducible refine LeO.ite ?_ ?_)
      | (with_reducible refine LeO.bind ?_ (fun _=>?_))
      | exact ih0 _ _ _ _ _ _
      | exact LeO.none _
      | refine LeO.ite ?_ ?_
      | refine LeO.bind ?_ (fun _=>?_)
def quot_backW.f (k:Nat) (l0:List Int) (lo_ hi_:Int) (l1:List Int):Option (List Int):=if 0≤lo_∧lo_ < hi_∧hi_≤(l0.length:Int) then (quot_back.f k ((l0.take hi_.toNat).drop lo_.toNat) l1).map (fun r_=>l0.take lo_.toNat ++ r_ ++ l0.drop hi_.toNat) else none
theorem quot_backW.mono : ∀ a0 a1 a2 a3 k,LeO (quot_backW.f k a0 a1 a2 a3) (quot_backW.f (k + 1) a0 a1 a2 a3):=by
  intro a0 a1 a2 a3 k
  unfold quot_backW.f
  refine LeO.ite ?_ (LeO.none _)
  intro r hr
  obtain ⟨r',h1,h2⟩:=Option.map_eq_some_iff.mp hr
  exact Option.map_eq_some_iff.mpr ⟨r',quot_back.mono _ _  k r' h1,h2⟩
def quot_wrong.f (a0:Int):Option (Bool):=if a0 < 0 then (some true) else (some (decide (a0 > 262144)))
def quot_Shr.l0:Nat→List Int→Int→Int→Int→Option (List Int×Int)
  | 0,_,_,_,_=>none
  | k + 1,x6,x7,x25,x26=>if x26 < x25 then (if 0≤x26 then (if x26 < (x6.length:Int) then (if 0≤x7 then ((some (x6.set (x26:Int).toNat (shr .u64 (rd x6 x26) x7):List Int)).bind fun y203=>(if (wrap64 (x26 + 1)) < (x6.length:Int) then (if 0≤(wrap64 (x26 + 1)) then (if 0≤(IntKind.u64.wrap (64 - x7)) then (quot_Shr.l0 k (y203.set (x26:Int).toNat (Go.bits .or .u64 (rd y203 x26) (shl .u64 (rd y203 (wrap64 (x26 + 1))) (IntKind.u64.wrap (64 - x7))))) x7 x25 (wrap64 (x26 + 1))) else (none)) else (none)) else (quot_Shr.l0 k y203 x7 x25 (wrap64 (x26 + 1))))) else (none)) else (none)) else (none)) else ((nat_Of.f k x6).bind fun t207=>(some (t207,0)))
def quot_Shr.f (k:Nat) (l0_0:List Int) (a1:Int):Option (List Int×Int):=(quot_wrong.f a1).bind fun t195=>(if t195=true then (some (([]:List Int),2)) else ((nat_Nat_Limbs.f l0_0).bind fun t196=>(if 0≤(mn (wrap64 (Int.tdiv a1 64)) (t196.length:Int)) then (if (mn (wrap64 (Int.tdiv a1 64)) (t196.length:Int))≤(t196.length:Int) then ((some (t196.drop ((mn (wrap64 (Int.tdiv a1 64)) (t196.length:Int)):Int).toNat:List Int)).bind fun y199=>(quot_Shr.l0 k y199 (IntKind.u64.wrap (Int.tmod a1 64)) (y199.length:Int) 0)) else (none)) else (none))))
theorem quot_Shr.mono_l : ∀ k,(∀ y0 y1 y2 y3,LeO (quot_Shr.l0 k y0 y1 y2 y3) (quot_Shr.l0 (k + 1) y0 y1 y2 y3))
  | 0=>fun _ _ _ _ r h=>by simp [quot_Shr.l0] at h
  | k + 1=>by
    have ih0:=quot_Shr.mono_l k
    · intro y0 y1 y2 y3
      unfold quot_Shr.l0
      repeat' first
      | (with_reducible exact ih0 _ _ _ _)
      | (with_reducible exact nat_Of.mono _ _)
      | (with_reducible exact LeO.refl _)
      | (with_reducible exact LeO.none _)
      | (with_reducible refine LeO.ite ?_ ?_)
      | (with_reducible refine LeO.bind ?_ (fun _=>?_))
      | exact ih0 _ _ _ _
      | exact nat_Of.mono _ _
      | exact LeO.none _
      | refine LeO.ite ?_ ?_
      | refine LeO.bind ?_ (fun _=>?_)
theorem quot_Shr.mono : ∀ a0 a1 k,LeO (quot_Shr.f k a0 a1) (quot_Shr.f (k + 1) a0 a1):=by
  intro a0 a1 k
  have ih0:=quot_Shr.mono_l k
  unfold quot_Shr.f
  repeat' first
      | (with_reducible exact ih0 _ _ _ _)
      | (with_reducible exact nat_Of.mono _ _)
      | (with_reducible exact LeO.refl _)
      | (with_reducible exact LeO.none _)
      | (with_reducible refine LeO.ite ?_ ?_)
      | (with_reducible refine LeO.bind ?_ (fun _=>?_))
      | exact ih0 _ _ _ _
      | exact nat_Of.mono _ _
      | exact LeO.none _
      | refine LeO.ite ?_ ?_
      | refine LeO.bind ?_ (fun _=>?_)
mutual
def quot_long.l0:Nat→List Int→List Int→Int→List Int→Int→Option (List Int×List Int)
  | 0,_,_,_,_,_=>none
  | k + 1,x0,x1,x6,x7,x8=>if x8 ≥ 0 then (if 0≤x8 then (if x8 < (wrap64 ((wrap64 (x8 + (x1.length:Int))) + 1)) then (if (wrap64 ((wrap64 (x8 + (x1.length:Int))) + 1))≤(x0.length:Int) then ((quot_guessW.f k x0 x8 (wrap64 ((wrap64 (x8 + (x1.length:Int))) + 1)) x1).bind fun t235=>((quot_lessW.f k x0 x8 (wrap64 ((wrap64 (x8 + (x1.length:Int))) + 1)) x1 t235).bind fun bt236=>(quot_long.l1 k bt236.2 x1 x6 x7 x8 t235 bt236.1))) else (none)) else (none)) else (none)) else ((nat_Of.f k x0).bind fun t224=>((quot_Shr.f k t224 (wrap64 (x6))).bind fun bt227=>((nat_Nat_Limbs.f bt227.1).bind fun t232=>(some (x7,t232)))))
def quot_long.l1:Nat→List Int→List Int→Int→List Int→Int→Int→Int→Option (List Int×List Int)
  | 0,_,_,_,_,_,_,_=>none
  | k + 1,x0,x1,x6,x7,x8,x10,x11=>if x11=0 then (if 0≤x8 then (if x8 < (x7.length:Int) then (quot_long.l0 k x0 x1 x6 (x7.set (x8:Int).toNat x10) (wrap64 (x8 - 1))) else (none)) else (none)) else ((quot_backW.f k x0 x8 (wrap64 ((wrap64 (x8 + (x1.length:Int))) + 1)) x1).bind fun t239=>(if 0≤x8 then (if 0≤(x1.length:Int) then (if (x1.length:Int) < (wrap64 ((wrap64 (x8 + (x1.length:Int))) + 1)) - x8 then (if 0≤((x1.length:Int) + x8) then (if ((x1.length:Int) + x8) < (x0.length:Int) then (if (rd t239 ((x1.length:Int) + x8))=0 then (quot_long.l1 k t239 x1 x6 x7 x8 (IntKind.u64.wrap (x10 - 1)) 0) else (quot_long.l1 k t239 x1 x6 x7 x8 (IntKind.u64.wrap (x10 - 1)) x11)) else (none)) else (none)) else (none)) else (none)) else (none)))
end
def quot_long.f (k:Nat) (l0:List Int) (l1:List Int):Option (List Int×List Int):=if 0≤(wrap64 ((l1.length:Int) - 1)) then (if (wrap64 ((l1.length:Int) - 1)) < (l1.length:Int) then ((bits_LeadingZeros64.f k (rd l1 (wrap64 ((l1.length:Int) - 1)))).bind fun t211=>((quot_moved.f k l0 (IntKind.u64.wrap (t211))).bind fun t212=>((quot_moved.f k l1 (IntKind.u64.wrap (t211))).bind fun t215=>(if 0≤(l1.length:Int) then (if (l1.length:Int)≤(t215.length:Int) then ((some (t215.take ((l1.length:Int):Int).toNat:List Int)).bind fun y218=>(if 0≤(wrap64 ((t212.length:Int) - (y218.length:Int))) then (if (wrap64 ((t212.length:Int) - (y218.length:Int)):Int).toNat≤35184372088832 then ((some (List.replicate (wrap64 ((t212.length:Int) - (y218.length:Int)):Int).toNat 0:List Int)).bind fun y221=>(quot_long.l0 k t212 y218 (IntKind.u64.wrap (t211)) y221 (wrap64 ((y221.length:Int) - 1)))) else (none)) else (none))) else (none)) else (none))))) else (none)) else (none)
theorem quot_long.mono_l : ∀ k,(∀ y0 y1 y2 y3 y4,LeO (quot_long.l0 k y0 y1 y2 y3 y4) (quot_long.l0 (k + 1) y0 y1 y2 y3 y4))∧(∀ y0 y1 y2 y3 y4 y5 y6,LeO (quot_long.l1 k y0 y1 y2 y3 y4 y5 y6) (quot_long.l1 (k + 1) y0 y1 y2 y3 y4 y5 y6))
  | 0=>⟨fun _ _ _ _ _ r h=>by simp [quot_long.l0] at h,fun _ _ _ _ _ _ _ r h=>by simp [quot_long.l1] at h⟩
  | k + 1=>by
    obtain ⟨ih0,ih1⟩:=quot_long.mono_l k
    refine ⟨?_,?_⟩
    · intro y0 y1 y2 y3 y4
      unfold quot_long.l0
      repeat' first
      | (with_reducible exact ih0 _ _ _ _ _)
      | (with_reducible exact ih1 _ _ _ _ _ _ _)
      | (with_reducible exact bits_LeadingZeros64.mono _ _)
      | (with_reducible exact nat_Of.mono _ _)
      | (with_reducible exact quot_Shr.mono _ _ _)
      | (with_reducible exact quot_backW.mono _ _ _ _ _)
      | (with_reducible exact quot_guessW.mono _ _ _ _ _)
      | (with_reducible exact quot_lessW.mono _ _ _ _ _ _)
      | (with_reducible exact quot_moved.mono _ _ _)
      | (with_reducible exact LeO.refl _)
      | (with_reducible exact LeO.none _)
      | (with_reducible refine LeO.ite ?_ ?_)
      | (with_reducible refine LeO.bind ?_ (fun _=>?_))
      | exact ih0 _ _ _ _ _
      | exact ih1 _ _ _ _ _ _ _
      | exact bits_LeadingZeros64.mono _ _
      | exact nat_Of.mono _ _
      | exact quot_Shr.mono _ _ _
      | exact quot_backW.mono _ _ _ _ _
      | exact quot_guessW.mono _ _ _ _ _
      | exact quot_lessW.mono _ _ _ _ _ _
      | exact quot_moved.mono _ _ _
      | exact LeO.none _
      | refine LeO.ite ?_ ?_
      | refine LeO.bind ?_ (fun _=>?_)
    · intro y0 y1 y2 y3 y4 y5 y6
      unfold quot_long.l1
      repeat' first
      | (with_reducible exact ih0 _ _ _ _ _)
      | (with_reducible exact ih1 _ _ _ _ _ _ _)
      | (with_reducible exact bits_LeadingZeros64.mono _ _)
      | (with_reducible exact nat_Of.mono _ _)
      | (with_reducible exact quot_Shr.mono _ _ _)
      | (with_reducible exact quot_backW.mono _ _ _ _ _)
      | (with_reducible exact quot_guessW.mono _ _ _ _ _)
      | (with_reducible exact quot_lessW.mono _ _ _ _ _ _)
      | (with_reducible exact quot_moved.mono _ _ _)
      | (with_reducible exact LeO.refl _)
      | (with_reducible exact LeO.none _)
      | (with_reducible refine LeO.ite ?_ ?_)
      | (with_reducible refine LeO.bind ?_ (fun _=>?_))
      | exact ih0 _ _ _ _ _
      | exact ih1 _ _ _ _ _ _ _
      | exact bits_LeadingZeros64.mono _ _
      | exact nat_Of.mono _ _
      | exact quot_Shr.mono _ _ _
      | exact quot_backW.mono _ _ _ _ _
      | exact quot_guessW.mono _ _ _ _ _
      | exact quot_lessW.mono _ _ _ _ _ _
      | exact quot_moved.mono _ _ _
      | exact LeO.none _
      | refine LeO.ite ?_ ?_
      | refine LeO.bind ?_ (fun _=>?_)
theorem quot_long.mono : ∀ a0 a1 k,LeO (quot_long.f k a0 a1) (quot_long.f (k + 1) a0 a1):=by
  intro a0 a1 k
  obtain ⟨ih0,ih1⟩:=quot_long.mono_l k
  unfold quot_long.f
  repeat' first
      | (with_reducible exact ih0 _ _ _ _ _)
      | (with_reducible exact ih1 _ _ _ _ _ _ _)
      | (with_reducible exact bits_LeadingZeros64.mono _ _)
      | (with_reducible exact nat_Of.mono _ _)
      | (with_reducible exact quot_Shr.mono _ _ _)
      | (with_reducible exact quot_backW.mono _ _ _ _ _)
      | (with_reducible exact quot_guessW.mono _ _ _ _ _)
      | (with_reducible exact quot_lessW.mono _ _ _ _ _ _)
      | (with_reducible exact quot_moved.mono _ _ _)
      | (with_reducible exact LeO.refl _)
      | (with_reducible exact LeO.none _)
      | (with_reducible refine LeO.ite ?_ ?_)
      | (with_reducible refine LeO.bind ?_ (fun _=>?_))
      | exact ih0 _ _ _ _ _
      | exact ih1 _ _ _ _ _ _ _
      | exact bits_LeadingZeros64.mono _ _
      | exact nat_Of.mono _ _
      | exact quot_Shr.mono _ _ _
      | exact quot_backW.mono _ _ _ _ _
      | exact quot_guessW.mono _ _ _ _ _
      | exact quot_lessW.mono _ _ _ _ _ _
      | exact quot_moved.mono _ _ _
      | exact LeO.none _
      | refine LeO.ite ?_ ?_
      | refine LeO.bind ?_ (fun _=>?_)
def quot_Div.f (k:Nat) (l0_0:List Int) (l1_0:List Int):Option (List Int×List Int×Int):=(nat_Nat_Zero.f l1_0).bind fun t245=>(if t245=true then (some (([]:List Int),([]:List Int),8)) else ((nat_Nat_Cmp.f k l0_0 l1_0).bind fun t246=>(if t246 < 0 then (some (([]:List Int),l0_0,0)) else ((nat_Nat_Limbs.f l0_0).bind fun t247=>((nat_Nat_Limbs.f l1_0).bind fun t250=>(if (t250.length:Int)=1 then (if 0 < (t250.length:Int) then ((quot_by.f k t247 (rd t250 0)).bind fun bt254=>((nat_Of.f k bt254.1).bind fun t258=>((nat_Of.f k (([bt254.2]:List Int))).bind fun t264=>(some (t258,t264,0))))) else (none)) else ((quot_long.f k t247 t250).bind fun bt267=>((nat_Of.f k bt267.1).bind fun t273=>((nat_Of.f k bt267.2).bind fun t276=>(some (t273,t276,0)))))))))))
theorem quot_Div.mono : ∀ a0 a1 k,LeO (quot_Div.f k a0 a1) (quot_Div.f (k + 1) a0 a1):=by
  intro a0 a1 k
  unfold quot_Div.f
  repeat' first
      | (with_reducible exact nat_Nat_Cmp.mono _ _ _)
      | (with_reducible exact nat_Of.mono _ _)
      | (with_reducible exact quot_by.mono _ _ _)
      | (with_reducible exact quot_long.mono _ _ _)
      | (with_reducible exact LeO.refl _)
      | (with_reducible exact LeO.none _)
      | (with_reducible refine LeO.ite ?_ ?_)
      | (with_reducible refine LeO.bind ?_ (fun _=>?_))
      | exact nat_Nat_Cmp.mono _ _ _
      | exact nat_Of.mono _ _
      | exact quot_by.mono _ _ _
      | exact quot_long.mono _ _ _
      | exact LeO.none _
      | refine LeO.ite ?_ ?_
      | refine LeO.bind ?_ (fun _=>?_)
def quot_Gcd.l0:Nat→List Int→List Int→Option (List Int)
  | 0,_,_=>none
  | k + 1,x280000,x281000=>(nat_Nat_Zero.f x281000).bind fun t282=>(if t282=true then (some x280000) else ((quot_Div.f k x280000 x281000).bind fun bt283=>(quot_Gcd.l0 k x281000 bt283.2.1)))
def quot_Gcd.f (k:Nat) (l0_0:List Int) (l1_0:List Int):Option (List Int):=quot_Gcd.l0 k l0_0 l1_0
theorem quot_Gcd.mono_l : ∀ k,(∀ y0 y1,LeO (quot_Gcd.l0 k y0 y1) (quot_Gcd.l0 (k + 1) y0 y1))
  | 0=>fun _ _ r h=>by simp [quot_Gcd.l0] at h
  | k + 1=>by
    have ih0:=quot_Gcd.mono_l k
    · intro y0 y1
      unfold quot_Gcd.l0
      repeat' first
      | (with_reducible exact ih0 _ _)
      | (with_reducible exact quot_Div.mono _ _ _)
      | (with_reducible exact LeO.refl _)
      | (with_reducible exact LeO.none _)
      | (with_reducible refine LeO.ite ?_ ?_)
      | (with_reducible refine LeO.bind ?_ (fun _=>?_))
      | exact ih0 _ _
      | exact quot_Div.mono _ _ _
      | exact LeO.none _
      | refine LeO.ite ?_ ?_
      | refine LeO.bind ?_ (fun _=>?_)
theorem quot_Gcd.mono : ∀ a0 a1 k,LeO (quot_Gcd.f k a0 a1) (quot_Gcd.f (k + 1) a0 a1):=by
  intro a0 a1 k
  have ih0:=quot_Gcd.mono_l k
  unfold quot_Gcd.f
  repeat' first
      | (with_reducible exact ih0 _ _)
      | (with_reducible exact quot_Div.mono _ _ _)
      | (with_reducible exact LeO.refl _)
      | (with_reducible exact LeO.none _)
      | (with_reducible refine LeO.ite ?_ ?_)
      | (with_reducible refine LeO.bind ?_ (fun _=>?_))
      | exact ih0 _ _
      | exact quot_Div.mono _ _ _
      | exact LeO.none _
      | refine LeO.ite ?_ ?_
      | refine LeO.bind ?_ (fun _=>?_)
def nat_Nat_limb.f (l0_0:List Int) (a1:Int):Option (Int):=if a1 ≥ (l0_0.length:Int) then (some 0) else (if 0≤a1 then (if a1 < (l0_0.length:Int) then (some (rd l0_0 a1)) else (none)) else (none))
def nat_Nat_Sub.l0:Nat→List Int→Int→Int→Int→List Int→List Int→Option (List Int×Bool)
  | 0,_,_,_,_,_,_=>none
  | k + 1,x6,x7,x19,x20,x295000,x296000=>if x20 < x19 then (if 0≤x20 then (if x20 < (x295000.length:Int) then ((nat_Nat_limb.f x296000 x20).bind fun t302=>(if x7≤1 then (if x20 < (x6.length:Int) then (nat_Nat_Sub.l0 k (x6.set (x20:Int).toNat (sub64d (rd x295000 x20) t302 x7)) (sub64b (rd x295000 x20) t302 x7) x19 (wrap64 (x20 + 1)) x295000 x296000) else (none)) else (none))) else (none)) else (none)) else ((nat_trimmed.f k x6).bind fun t304=>(some (t304,true)))
def nat_Nat_Sub.f (k:Nat) (l0_0:List Int) (l1_0:List Int):Option (List Int×Bool):=(nat_Nat_Cmp.f k l0_0 l1_0).bind fun t297=>(if t297 < 0 then (some (([]:List Int),false)) else (if 0≤(l0_0.length:Int) then (if ((l0_0.length:Int):Int).toNat≤35184372088832 then ((some (List.replicate ((l0_0.length:Int):Int).toNat 0:List Int)).bind fun y298=>(nat_Nat_Sub.l0 k y298 0 (y298.length:Int) 0 l0_0 l1_0)) else (none)) else (none)))
theorem nat_Nat_Sub.mono_l : ∀ k,(∀ y0 y1 y2 y3 y4 y5,LeO (nat_Nat_Sub.l0 k y0 y1 y2 y3 y4 y5) (nat_Nat_Sub.l0 (k + 1) y0 y1 y2 y3 y4 y5))
  | 0=>fun _ _ _ _ _ _ r h=>by simp [nat_Nat_Sub.l0] at h
  | k + 1=>by
    have ih0:=nat_Nat_Sub.mono_l k
    · intro y0 y1 y2 y3 y4 y5
      unfold nat_Nat_Sub.l0
      repeat' first
      | (with_reducible exact ih0 _ _ _ _ _ _)
      | (with_reducible exact nat_Nat_Cmp.mono _ _ _)
      | (with_reducible exact nat_trimmed.mono _ _)
      | (with_reducible exact LeO.refl _)
      | (with_reducible exact LeO.none _)
      | (with_reducible refine LeO.ite ?_ ?_)
      | (with_reducible refine LeO.bind ?_ (fun _=>?_))
      | exact ih0 _ _ _ _ _ _
      | exact nat_Nat_Cmp.mono _ _ _
      | exact nat_trimmed.mono _ _
      | exact LeO.none _
      | refine LeO.ite ?_ ?_
      | refine LeO.bind ?_ (fun _=>?_)
theorem nat_Nat_Sub.mono : ∀ a0 a1 k,LeO (nat_Nat_Sub.f k a0 a1) (nat_Nat_Sub.f (k + 1) a0 a1):=by
  intro a0 a1 k
  have ih0:=nat_Nat_Sub.mono_l k
  unfold nat_Nat_Sub.f
  repeat' first
      | (with_reducible exact ih0 _ _ _ _ _ _)
      | (with_reducible exact nat_Nat_Cmp.mono _ _ _)
      | (with_reducible exact nat_trimmed.mono _ _)
      | (with_reducible exact LeO.refl _)
      | (with_reducible exact LeO.none _)
      | (with_reducible refine LeO.ite ?_ ?_)
      | (with_reducible refine LeO.bind ?_ (fun _=>?_))
      | exact ih0 _ _ _ _ _ _
      | exact nat_Nat_Cmp.mono _ _ _
      | exact nat_trimmed.mono _ _
      | exact LeO.none _
      | refine LeO.ite ?_ ?_
      | refine LeO.bind ?_ (fun _=>?_)
def frac_made.f (k:Nat) (l0_0:List Int) (a0_1:Bool) (l1_0:List Int):Option (List Int×Bool×List Int):=(whole_Int_Abs.f l0_0 a0_1).bind fun t310=>((quot_Gcd.f k t310 l1_0).bind fun t313=>((whole_Int_Abs.f l0_0 a0_1).bind fun t317=>((quot_Div.f k t317 t313).bind fun bt320=>((quot_Div.f k l1_0 t313).bind fun bt329=>((nat_Of.f k (([1]:List Int))).bind fun t341=>((nat_Nat_Sub.f k bt329.1 t341).bind fun bt344=>((whole_Int_Sign.f l0_0 a0_1).bind fun t349=>((whole_Of.f bt320.1 (decide (t349 < 0))).bind fun bt350=>(some (bt350.1,bt350.2,bt344.1))))))))))
theorem frac_made.mono : ∀ a0 a1 a2 k,LeO (frac_made.f k a0 a1 a2) (frac_made.f (k + 1) a0 a1 a2):=by
  intro a0 a1 a2 k
  unfold frac_made.f
  repeat' first
      | (with_reducible exact nat_Nat_Sub.mono _ _ _)
      | (with_reducible exact nat_Of.mono _ _)
      | (with_reducible exact quot_Div.mono _ _ _)
      | (with_reducible exact quot_Gcd.mono _ _ _)
      | (with_reducible exact LeO.refl _)
      | (with_reducible exact LeO.none _)
      | (with_reducible refine LeO.ite ?_ ?_)
      | (with_reducible refine LeO.bind ?_ (fun _=>?_))
      | exact nat_Nat_Sub.mono _ _ _
      | exact nat_Of.mono _ _
      | exact quot_Div.mono _ _ _
      | exact quot_Gcd.mono _ _ _
      | exact LeO.none _
      | refine LeO.ite ?_ ?_
      | refine LeO.bind ?_ (fun _=>?_)
def frac_Of.f (k:Nat) (l0_0:List Int) (a0_1:Bool) (l1_0:List Int) (a1_1:Bool):Option (List Int×Bool×List Int×Int):=(whole_Int_Sign.f l1_0 a1_1).bind fun t357=>(if t357=0 then (some (([]:List Int),false,([]:List Int),8)) else (if t357=(-1) then ((whole_Int_Neg.f l0_0 a0_1).bind fun bt358=>((whole_Int_Abs.f l1_0 a1_1).bind fun t362=>((frac_made.f k bt358.1 bt358.2 t362).bind fun bt365=>(some (bt365.1,bt365.2.1,bt365.2.2,0))))) else ((whole_Int_Abs.f l1_0 a1_1).bind fun t372=>((frac_made.f k l0_0 a0_1 t372).bind fun bt375=>(some (bt375.1,bt375.2.1,bt375.2.2,0))))))
theorem frac_Of.mono : ∀ a0 a1 a2 a3 k,LeO (frac_Of.f k a0 a1 a2 a3) (frac_Of.f (k + 1) a0 a1 a2 a3):=by
  intro a0 a1 a2 a3 k
  unfold frac_Of.f
  repeat' first
      | (with_reducible exact frac_made.mono _ _ _ _)
      | (with_reducible exact LeO.refl _)
      | (with_reducible exact LeO.none _)
      | (with_reducible refine LeO.ite ?_ ?_)
      | (with_reducible refine LeO.bind ?_ (fun _=>?_))
      | exact frac_made.mono _ _ _ _
      | exact LeO.none _
      | refine LeO.ite ?_ ?_
      | refine LeO.bind ?_ (fun _=>?_)
def chattelref01_at.f (l0:List Int) (a1:Int):Option (Int):=if a1 ≥ (l0.length:Int) then (some 0) else (if 0≤a1 then (if a1 < (l0.length:Int) then (some (rd l0 a1)) else (none)) else (none))
def chattelref01_Trim.l0:Nat→List Int→Int→Option (List Int)
  | 0,_,_=>none
  | k + 1,x0,x3=>if x3 > 0 then (if 0≤(wrap64 (x3 - 1)) then (if (wrap64 (x3 - 1)) < (x0.length:Int) then (if (rd x0 (wrap64 (x3 - 1)))=0 then (chattelref01_Trim.l0 k x0 (wrap64 (x3 - 1))) else (if 0≤x3 then (if x3≤(x0.length:Int) then (some (x0.take (x3:Int).toNat)) else (none)) else (none))) else (none)) else (none)) else (if 0≤x3 then (if x3≤(x0.length:Int) then (some (x0.take (x3:Int).toNat)) else (none)) else (none))
def chattelref01_Trim.f (k:Nat) (l0:List Int):Option (List Int):=chattelref01_Trim.l0 k l0 (l0.length:Int)
theorem chattelref01_Trim.mono_l : ∀ k,(∀ y0 y1,LeO (chattelref01_Trim.l0 k y0 y1) (chattelref01_Trim.l0 (k + 1) y0 y1))
  | 0=>fun _ _ r h=>by simp [chattelref01_Trim.l0] at h
  | k + 1=>by
    have ih0:=chattelref01_Trim.mono_l k
    · intro y0 y1
      unfold chattelref01_Trim.l0
      repeat' first
      | (with_reducible exact ih0 _ _)
      | (with_reducible exact LeO.refl _)
      | (with_reducible exact LeO.none _)
      | (with_reducible refine LeO.ite ?_ ?_)
      | (with_reducible refine LeO.bind ?_ (fun _=>?_))
      | exact ih0 _ _
      | exact LeO.none _
      | refine LeO.ite ?_ ?_
      | refine LeO.bind ?_ (fun _=>?_)
theorem chattelref01_Trim.mono : ∀ a0 k,LeO (chattelref01_Trim.f k a0) (chattelref01_Trim.f (k + 1) a0):=by
  intro a0 k
  have ih0:=chattelref01_Trim.mono_l k
  unfold chattelref01_Trim.f
  repeat' first
      | (with_reducible exact ih0 _ _)
      | (with_reducible exact LeO.refl _)
      | (with_reducible exact LeO.none _)
      | (with_reducible refine LeO.ite ?_ ?_)
      | (with_reducible refine LeO.bind ?_ (fun _=>?_))
      | exact ih0 _ _
      | exact LeO.none _
      | refine LeO.ite ?_ ?_
      | refine LeO.bind ?_ (fun _=>?_)
mutual
def chattelref01_Mul.l0:Nat→List Int→List Int→List Int→Int→Option (List Int)
  | 0,_,_,_,_=>none
  | k + 1,x0,x1,x5,x6=>if x6 < (x0.length:Int) then (chattelref01_Mul.l1 k x0 x1 x5 x6 0 0) else ((chattelref01_Trim.f k x5).bind fun t397=>(some t397))
def chattelref01_Mul.l1:Nat→List Int→List Int→List Int→Int→Int→Int→Option (List Int)
  | 0,_,_,_,_,_,_=>none
  | k + 1,x0,x1,x5,x6,x7,x8=>if x8 < (x1.length:Int) then ((chattelref01_at.f x1 x8).bind fun t400=>(if 0≤(wrap64 (x6 + x8)) then (if (wrap64 (x6 + x8)) < (x5.length:Int) then (if 0≤x6 then (if x6 < (x0.length:Int) then (chattelref01_Mul.l1 k x0 x1 (x5.set ((wrap64 (x6 + x8)):Int).toNat (Int.tmod (wrap64 ((wrap64 ((rd x5 (wrap64 (x6 + x8))) + (wrap64 ((rd x0 x6) * t400)))) + x7)) 10000)) x6 (wrap64 (Int.tdiv (wrap64 ((wrap64 ((rd x5 (wrap64 (x6 + x8))) + (wrap64 ((rd x0 x6) * t400)))) + x7)) 10000)) (wrap64 (x8 + 1))) else (none)) else (none)) else (none)) else (none))) else (if x7 > 0 then ((chattelref01_at.f x1 x8).bind fun t404=>(if 0≤(wrap64 (x6 + x8)) then (if (wrap64 (x6 + x8)) < (x5.length:Int) then (if 0≤x6 then (if x6 < (x0.length:Int) then (chattelref01_Mul.l1 k x0 x1 (x5.set ((wrap64 (x6 + x8)):Int).toNat (Int.tmod (wrap64 ((wrap64 ((rd x5 (wrap64 (x6 + x8))) + (wrap64 ((rd x0 x6) * t404)))) + x7)) 10000)) x6 (wrap64 (Int.tdiv (wrap64 ((wrap64 ((rd x5 (wrap64 (x6 + x8))) + (wrap64 ((rd x0 x6) * t404)))) + x7)) 10000)) (wrap64 (x8 + 1))) else (none)) else (none)) else (none)) else (none))) else (chattelref01_Mul.l0 k x0 x1 x5 (wrap64 (x6 + 1))))
end
def chattelref01_Mul.f (k:Nat) (l0:List Int) (l1:List Int):Option (List Int):=if 0≤(wrap64 ((wrap64 ((l0.length:Int) + (l1.length:Int))) + 1)) then (if (wrap64 ((wrap64 ((l0.length:Int) + (l1.length:Int))) + 1):Int).toNat≤35184372088832 then (chattelref01_Mul.l0 k l0 l1 (List.replicate (wrap64 ((wrap64 ((l0.length:Int) + (l1.length:Int))) + 1):Int).toNat 0) 0) else (none)) else (none)
mutual
def chattelref01_Add.l0:Nat→List Int→List Int→List Int→Int→Int→Option (List Int)
  | 0,_,_,_,_,_=>none
  | k + 1,x0,x1,x5,x6,x7=>if x7 < (x0.length:Int) then (chattelref01_Add.j1 k x0 x1 x5 x6 x7 true) else (if x7 < (x1.length:Int) then (chattelref01_Add.j1 k x0 x1 x5 x6 x7 true) else (chattelref01_Add.j1 k x0 x1 x5 x6 x7 (decide (x6 > 0))))
def chattelref01_Add.j1:Nat→List Int→List Int→List Int→Int→Int→Bool→Option (List Int)
  | 0,_,_,_,_,_,_=>none
  | k + 1,x0,x1,x5,x6,x7,x24=>if x24=true then ((chattelref01_at.f x0 x7).bind fun t408=>((chattelref01_at.f x1 x7).bind fun t409=>(if x5.length < 17592186044416 then (chattelref01_Add.l0 k x0 x1 (x5 ++ [Int.tmod (wrap64 ((wrap64 (t408 + t409)) + x6)) 10000]) (wrap64 (Int.tdiv (wrap64 ((wrap64 (t408 + t409)) + x6)) 10000)) (wrap64 (x7 + 1))) else (none)))) else ((chattelref01_Trim.f k x5).bind fun t413=>(some t413))
end
def chattelref01_Add.f (k:Nat) (l0:List Int) (l1:List Int):Option (List Int):=chattelref01_Add.l0 k l0 l1 ([]:List Int) 0 0
def chattelref01_Small.l0:Nat→Int→List Int→Option (List Int)
  | 0,_,_=>none
  | k + 1,x0,x3=>if x0 > 0 then (if x3.length < 17592186044416 then (chattelref01_Small.l0 k (wrap64 (Int.tdiv x0 10000)) (x3 ++ [Int.tmod x0 10000])) else (none)) else (some x3)
def chattelref01_Small.f (k:Nat) (a0:Int):Option (List Int):=chattelref01_Small.l0 k a0 ([]:List Int)
mutual
def chattelref01_Of.l0:Nat→List Int→List Int→List Int→Int→Option (List Int)
  | 0,_,_,_,_=>none
  | k + 1,x0,x3,x4,x5=>if x5 ≥ 0 then (chattelref01_Of.l1 k x0 x3 x4 x5 3) else (some x3)
def chattelref01_Of.l1:Nat→List Int→List Int→List Int→Int→Int→Option (List Int)
  | 0,_,_,_,_,_=>none
  | k + 1,x0,x3,x4,x5,x6=>if x6 ≥ 0 then (if 0≤x5 then (if x5 < (x0.length:Int) then (if 0≤(wrap64 (16 * x6)) then ((chattelref01_Small.f k (wrap64 (Go.bits .and .u64 (shr .u64 (rd x0 x5) (wrap64 (16 * x6))) 65535))).bind fun t423=>((chattelref01_Mul.f k x3 x4).bind fun t426=>((chattelref01_Add.f k t426 t423).bind fun t429=>(chattelref01_Of.l1 k x0 t429 x4 x5 (wrap64 (x6 - 1)))))) else (none)) else (none)) else (none)) else (chattelref01_Of.l0 k x0 x3 x4 (wrap64 (x5 - 1)))
end
def chattelref01_Of.f (k:Nat) (l0:List Int):Option (List Int):=(chattelref01_Small.f k 65536).bind fun t419=>(chattelref01_Of.l0 k l0 ([]:List Int) t419 (wrap64 ((l0.length:Int) - 1)))
def chattelref04_Of.f (l0:List Int) (a1:Bool):Option (List Int×Bool):=if a1=true then (some (l0,decide ((l0.length:Int) > 0))) else (some (l0,false))
def chattelref01_Cmp.l0:Nat→List Int→List Int→Int→Option (Int)
  | 0,_,_,_=>none
  | k + 1,x0,x1,x5=>if x5 ≥ 0 then (if 0≤x5 then (if x5 < (x0.length:Int) then (if x5 < (x1.length:Int) then (if (rd x0 x5) < (rd x1 x5) then (some (-1)) else (if (rd x0 x5) > (rd x1 x5) then (some 1) else (chattelref01_Cmp.l0 k x0 x1 (wrap64 (x5 - 1))))) else (none)) else (none)) else (none)) else (some 0)
def chattelref01_Cmp.f (k:Nat) (l0:List Int) (l1:List Int):Option (Int):=if (l0.length:Int)=(l1.length:Int) then (chattelref01_Cmp.l0 k l0 l1 (wrap64 ((l0.length:Int) - 1))) else (if (l0.length:Int) < (l1.length:Int) then (some (-1)) else (some 1))
def chattelref01_Sub.l0:Nat→List Int→List Int→List Int→Int→Int→Option (List Int)
  | 0,_,_,_,_,_=>none
  | k + 1,x0,x1,x5,x6,x7=>if x7 < (x0.length:Int) then ((chattelref01_at.f x1 x7).bind fun t437=>(if 0≤x7 then (if (wrap64 ((wrap64 ((rd x0 x7) - t437)) - x6)) < 0 then (if x5.length < 17592186044416 then (chattelref01_Sub.l0 k x0 x1 (x5 ++ [wrap64 ((wrap64 ((wrap64 ((rd x0 x7) - t437)) - x6)) + 10000)]) 1 (wrap64 (x7 + 1))) else (none)) else (if x5.length < 17592186044416 then (chattelref01_Sub.l0 k x0 x1 (x5 ++ [wrap64 ((wrap64 ((rd x0 x7) - t437)) - x6)]) 0 (wrap64 (x7 + 1))) else (none))) else (none))) else ((chattelref01_Trim.f k x5).bind fun t445=>(some t445))
def chattelref01_Sub.f (k:Nat) (l0:List Int) (l1:List Int):Option (List Int):=chattelref01_Sub.l0 k l0 l1 ([]:List Int) 0 0
mutual
def chattelref01_DivMod.l0:Nat→List Int→List Int→List Int→List Int→Int→Option (List Int×List Int)
  | 0,_,_,_,_,_=>none
  | k + 1,x0,x1,x6,x7,x8=>if x8 ≥ 0 then (if 0≤x8 then (if x8 < (x0.length:Int) then ((some (([rd x0 x8]:List Int):List Int)).bind fun y455=>(if y455.length + x7.length < 17592186044416 then ((chattelref01_Trim.f k (y455 ++ x7)).bind fun t461=>(chattelref01_DivMod.l1 k x0 x1 x6 t461 x8 0 9999)) else (none))) else (none)) else (none)) else ((chattelref01_Trim.f k x6).bind fun t451=>(some (t451,x7)))
def chattelref01_DivMod.l1:Nat→List Int→List Int→List Int→List Int→Int→Int→Int→Option (List Int×List Int)
  | 0,_,_,_,_,_,_,_=>none
  | k + 1,x0,x1,x6,x7,x8,x10,x11=>if x10 < x11 then ((chattelref01_Small.f k (wrap64 (Int.tdiv (wrap64 ((wrap64 (x10 + x11)) + 1)) 2))).bind fun t474=>((chattelref01_Mul.f k x1 t474).bind fun t477=>((chattelref01_Cmp.f k t477 x7).bind fun t480=>(if t480≤0 then (chattelref01_DivMod.l1 k x0 x1 x6 x7 x8 (wrap64 (Int.tdiv (wrap64 ((wrap64 (x10 + x11)) + 1)) 2)) x11) else (chattelref01_DivMod.l1 k x0 x1 x6 x7 x8 x10 (wrap64 ((wrap64 (Int.tdiv (wrap64 ((wrap64 (x10 + x11)) + 1)) 2)) - 1))))))) else (if 0≤x8 then (if x8 < (x6.length:Int) then ((chattelref01_Small.f k x10).bind fun t465=>((chattelref01_Mul.f k x1 t465).bind fun t468=>((chattelref01_Sub.f k x7 t468).bind fun t471=>(chattelref01_DivMod.l0 k x0 x1 (x6.set (x8:Int).toNat x10) t471 (wrap64 (x8 - 1)))))) else (none)) else (none))
end
def chattelref01_DivMod.f (k:Nat) (l0:List Int) (l1:List Int):Option (List Int×List Int):=if 0≤(l0.length:Int) then (if ((l0.length:Int):Int).toNat≤35184372088832 then (chattelref01_DivMod.l0 k l0 l1 (List.replicate ((l0.length:Int):Int).toNat 0) ([]:List Int) (wrap64 ((l0.length:Int) - 1))) else (none)) else (none)
def chattelref02_Gcd.l0:Nat→List Int→List Int→Option (List Int)
  | 0,_,_=>none
  | k + 1,x0,x1=>if (x1.length:Int) > 0 then ((chattelref01_DivMod.f k x0 x1).bind fun bt481=>(chattelref02_Gcd.l0 k x1 bt481.2)) else (some x0)
def chattelref02_Gcd.f (k:Nat) (l0:List Int) (l1:List Int):Option (List Int):=chattelref02_Gcd.l0 k l0 l1
def chattelref05_Make.f (k:Nat) (l0_0:List Int) (a0_1:Bool) (l1:List Int):Option (List Int×Bool×List Int):=(chattelref02_Gcd.f k l0_0 l1).bind fun t489=>((chattelref01_DivMod.f k l0_0 t489).bind fun bt492=>((chattelref01_DivMod.f k l1 t489).bind fun bt498=>((chattelref04_Of.f bt492.1 a0_1).bind fun bt504=>(some (bt504.1,bt504.2,bt498.1)))))
def whole_From.f (k:Nat) (a0:Int):Option (List Int×Bool):=if a0 < 0 then ((nat_Of.f k (([IntKind.u64.wrap (-(IntKind.u64.wrap (a0)))]:List Int))).bind fun t569=>((whole_Of.f t569 true).bind fun bt572=>(some (bt572.1,bt572.2)))) else ((nat_Of.f k (([IntKind.u64.wrap (a0)]:List Int))).bind fun t579=>((whole_Of.f t579 false).bind fun bt582=>(some (bt582.1,bt582.2))))
theorem whole_From.mono : ∀ a0 k,LeO (whole_From.f k a0) (whole_From.f (k + 1) a0):=by
  intro a0 k
  unfold whole_From.f
  repeat' first
      | (with_reducible exact nat_Of.mono _ _)
      | (with_reducible exact LeO.refl _)
      | (with_reducible exact LeO.none _)
      | (with_reducible refine LeO.ite ?_ ?_)
      | (with_reducible refine LeO.bind ?_ (fun _=>?_))
      | exact nat_Of.mono _ _
      | exact LeO.none _
      | refine LeO.ite ?_ ?_
      | refine LeO.bind ?_ (fun _=>?_)
def nat_Nat_row.l0:Nat→Int→List Int→Int→List Int→Int→Int→List Int→Option (List Int)
  | 0,_,_,_,_,_,_,_=>none
  | k + 1,x1,x2,x6,x13,x14,x15,x587000=>if x15 < x14 then (if 0≤x15 then (if x15 < (x13.length:Int) then ((bits_Mul64.f x1 (rd x13 x15)).bind fun bt588=>(if x15 < (x2.length:Int) then (nat_Nat_row.l0 k x1 (x2.set (x15:Int).toNat (add64s (rd x2 x15) (add64s bt588.2 x6 0) 0)) (IntKind.u64.wrap ((IntKind.u64.wrap (bt588.1 + (add64c bt588.2 x6 0))) + (add64c (rd x2 x15) (add64s bt588.2 x6 0) 0))) x13 x14 (wrap64 (x15 + 1)) x587000) else (none))) else (none)) else (none)) else (if 0≤(x587000.length:Int) then (if (x587000.length:Int) < (x2.length:Int) then (some (x2.set ((x587000.length:Int):Int).toNat (IntKind.u64.wrap ((rd x2 (x587000.length:Int)) + x6)))) else (none)) else (none))
def nat_Nat_row.f (k:Nat) (l0_0:List Int) (a1:Int) (l2:List Int):Option (List Int):=nat_Nat_row.l0 k a1 l2 0 l0_0 (l0_0.length:Int) 0 l0_0
theorem nat_Nat_row.mono_l : ∀ k,(∀ y0 y1 y2 y3 y4 y5 y6,LeO (nat_Nat_row.l0 k y0 y1 y2 y3 y4 y5 y6) (nat_Nat_row.l0 (k + 1) y0 y1 y2 y3 y4 y5 y6))
  | 0=>fun _ _ _ _ _ _ _ r h=>by simp [nat_Nat_row.l0] at h
  | k + 1=>by
    have ih0:=nat_Nat_row.mono_l k
    · intro y0 y1 y2 y3 y4 y5 y6
      unfold nat_Nat_row.l0
      repeat' first
      | (with_reducible exact ih0 _ _ _ _ _ _ _)
      | (with_reducible exact LeO.refl _)
      | (with_reducible exact LeO.none _)
      | (with_reducible refine LeO.ite ?_ ?_)
      | (with_reducible refine LeO.bind ?_ (fun _=>?_))
      | exact ih0 _ _ _ _ _ _ _
      | exact LeO.none _
      | refine LeO.ite ?_ ?_
      | refine LeO.bind ?_ (fun _=>?_)
theorem nat_Nat_row.mono : ∀ a0 a1 a2 k,LeO (nat_Nat_row.f k a0 a1 a2) (nat_Nat_row.f (k + 1) a0 a1 a2):=by
  intro a0 a1 a2 k
  have ih0:=nat_Nat_row.mono_l k
  unfold nat_Nat_row.f
  repeat' first
      | (with_reducible exact ih0 _ _ _ _ _ _ _)
      | (with_reducible exact LeO.refl _)
      | (with_reducible exact LeO.none _)
      | (with_reducible refine LeO.ite ?_ ?_)
      | (with_reducible refine LeO.bind ?_ (fun _=>?_))
      | exact ih0 _ _ _ _ _ _ _
      | exact LeO.none _
      | refine LeO.ite ?_ ?_
      | refine LeO.bind ?_ (fun _=>?_)
def nat_Nat_rowW.f (k:Nat) (l0_0:List Int) (a1:Int) (l2:List Int) (lo_ hi_:Int):Option (List Int):=if 0≤lo_∧lo_ < hi_∧hi_≤(l2.length:Int) then (nat_Nat_row.f k l0_0 a1 ((l2.take hi_.toNat).drop lo_.toNat)).map (fun r_=>l2.take lo_.toNat ++ r_ ++ l2.drop hi_.toNat) else none
theorem nat_Nat_rowW.mono : ∀ a0 a1 a2 a3 a4 k,LeO (nat_Nat_rowW.f k a0 a1 a2 a3 a4) (nat_Nat_rowW.f (k + 1) a0 a1 a2 a3 a4):=by
  intro a0 a1 a2 a3 a4 k
  unfold nat_Nat_rowW.f
  refine LeO.ite ?_ (LeO.none _)
  intro r hr
  obtain ⟨r',h1,h2⟩:=Option.map_eq_some_iff.mp hr
  exact Option.map_eq_some_iff.mpr ⟨r',nat_Nat_row.mono _ _ _  k r' h1,h2⟩
def nat_Nat_Mul.l0:Nat→List Int→List Int→Int→Int→List Int→Option (List Int)
  | 0,_,_,_,_,_=>none
  | k + 1,x5,x18,x19,x20,x595000=>if x20 < x19 then (if 0≤x20 then (if x20 < (x18.length:Int) then (if x20 < (x5.length:Int) then ((nat_Nat_rowW.f k x595000 (rd x18 x20) x5 x20 (x5.length:Int)).bind fun t601=>(nat_Nat_Mul.l0 k t601 x18 x19 (wrap64 (x20 + 1)) x595000)) else (none)) else (none)) else (none)) else ((nat_trimmed.f k x5).bind fun t602=>(some t602))
def nat_Nat_Mul.f (k:Nat) (l0_0:List Int) (l1_0:List Int):Option (List Int):=if 0≤(wrap64 ((wrap64 ((l0_0.length:Int) + (l1_0.length:Int))) + 1)) then (if (wrap64 ((wrap64 ((l0_0.length:Int) + (l1_0.length:Int))) + 1):Int).toNat≤35184372088832 then (nat_Nat_Mul.l0 k (List.replicate (wrap64 ((wrap64 ((l0_0.length:Int) + (l1_0.length:Int))) + 1):Int).toNat 0) l1_0 (l1_0.length:Int) 0 l0_0) else (none)) else (none)
theorem nat_Nat_Mul.mono_l : ∀ k,(∀ y0 y1 y2 y3 y4,LeO (nat_Nat_Mul.l0 k y0 y1 y2 y3 y4) (nat_Nat_Mul.l0 (k + 1) y0 y1 y2 y3 y4))
  | 0=>fun _ _ _ _ _ r h=>by simp [nat_Nat_Mul.l0] at h
  | k + 1=>by
    have ih0:=nat_Nat_Mul.mono_l k
    · intro y0 y1 y2 y3 y4
      unfold nat_Nat_Mul.l0
      repeat' first
      | (with_reducible exact ih0 _ _ _ _ _)
      | (with_reducible exact nat_Nat_rowW.mono _ _ _ _ _ _)
      | (with_reducible exact nat_trimmed.mono _ _)
      | (with_reducible exact LeO.refl _)
      | (with_reducible exact LeO.none _)
      | (with_reducible refine LeO.ite ?_ ?_)
      | (with_reducible refine LeO.bind ?_ (fun _=>?_))
      | exact ih0 _ _ _ _ _
      | exact nat_Nat_rowW.mono _ _ _ _ _ _
      | exact nat_trimmed.mono _ _
      | exact LeO.none _
      | refine LeO.ite ?_ ?_
      | refine LeO.bind ?_ (fun _=>?_)
theorem nat_Nat_Mul.mono : ∀ a0 a1 k,LeO (nat_Nat_Mul.f k a0 a1) (nat_Nat_Mul.f (k + 1) a0 a1):=by
  intro a0 a1 k
  have ih0:=nat_Nat_Mul.mono_l k
  unfold nat_Nat_Mul.f
  repeat' first
      | (with_reducible exact ih0 _ _ _ _ _)
      | (with_reducible exact nat_Nat_rowW.mono _ _ _ _ _ _)
      | (with_reducible exact nat_trimmed.mono _ _)
      | (with_reducible exact LeO.refl _)
      | (with_reducible exact LeO.none _)
      | (with_reducible refine LeO.ite ?_ ?_)
      | (with_reducible refine LeO.bind ?_ (fun _=>?_))
      | exact ih0 _ _ _ _ _
      | exact nat_Nat_rowW.mono _ _ _ _ _ _
      | exact nat_trimmed.mono _ _
      | exact LeO.none _
      | refine LeO.ite ?_ ?_
      | refine LeO.bind ?_ (fun _=>?_)
def whole_Int_Mul.f (k:Nat) (l0_0:List Int) (a0_1:Bool) (l1_0:List Int) (a1_1:Bool):Option (List Int×Bool):=(nat_Nat_Mul.f k l0_0 l1_0).bind fun t608=>((whole_Of.f t608 (a0_1 != a1_1)).bind fun bt611=>(some (bt611.1,bt611.2)))
theorem whole_Int_Mul.mono : ∀ a0 a1 a2 a3 k,LeO (whole_Int_Mul.f k a0 a1 a2 a3) (whole_Int_Mul.f (k + 1) a0 a1 a2 a3):=by
  intro a0 a1 a2 a3 k
  unfold whole_Int_Mul.f
  repeat' first
      | (with_reducible exact nat_Nat_Mul.mono _ _ _)
      | (with_reducible exact LeO.refl _)
      | (with_reducible exact LeO.none _)
      | (with_reducible refine LeO.ite ?_ ?_)
      | (with_reducible refine LeO.bind ?_ (fun _=>?_))
      | exact nat_Nat_Mul.mono _ _ _
      | exact LeO.none _
      | refine LeO.ite ?_ ?_
      | refine LeO.bind ?_ (fun _=>?_)
def nat_Nat_Add.l0:Nat→List Int→Int→Int→Int→List Int→List Int→Option (List Int)
  | 0,_,_,_,_,_,_=>none
  | k + 1,x5,x6,x18,x19,x616000,x617000=>if x19 < x18 then ((nat_Nat_limb.f x616000 x19).bind fun t621=>((nat_Nat_limb.f x617000 x19).bind fun t622=>(if x6≤1 then (if 0≤x19 then (if x19 < (x5.length:Int) then (nat_Nat_Add.l0 k (x5.set (x19:Int).toNat (add64s t621 t622 x6)) (add64c t621 t622 x6) x18 (wrap64 (x19 + 1)) x616000 x617000) else (none)) else (none)) else (none)))) else ((nat_trimmed.f k x5).bind fun t624=>(some t624))
def nat_Nat_Add.f (k:Nat) (l0_0:List Int) (l1_0:List Int):Option (List Int):=if 0≤(wrap64 ((mx (l0_0.length:Int) (l1_0.length:Int)) + 1)) then (if (wrap64 ((mx (l0_0.length:Int) (l1_0.length:Int)) + 1):Int).toNat≤35184372088832 then ((some (List.replicate (wrap64 ((mx (l0_0.length:Int) (l1_0.length:Int)) + 1):Int).toNat 0:List Int)).bind fun y618=>(nat_Nat_Add.l0 k y618 0 (y618.length:Int) 0 l0_0 l1_0)) else (none)) else (none)
theorem nat_Nat_Add.mono_l : ∀ k,(∀ y0 y1 y2 y3 y4 y5,LeO (nat_Nat_Add.l0 k y0 y1 y2 y3 y4 y5) (nat_Nat_Add.l0 (k + 1) y0 y1 y2 y3 y4 y5))
  | 0=>fun _ _ _ _ _ _ r h=>by simp [nat_Nat_Add.l0] at h
  | k + 1=>by
    have ih0:=nat_Nat_Add.mono_l k
    · intro y0 y1 y2 y3 y4 y5
      unfold nat_Nat_Add.l0
      repeat' first
      | (with_reducible exact ih0 _ _ _ _ _ _)
      | (with_reducible exact nat_trimmed.mono _ _)
      | (with_reducible exact LeO.refl _)
      | (with_reducible exact LeO.none _)
      | (with_reducible refine LeO.ite ?_ ?_)
      | (with_reducible refine LeO.bind ?_ (fun _=>?_))
      | exact ih0 _ _ _ _ _ _
      | exact nat_trimmed.mono _ _
      | exact LeO.none _
      | refine LeO.ite ?_ ?_
      | refine LeO.bind ?_ (fun _=>?_)
theorem nat_Nat_Add.mono : ∀ a0 a1 k,LeO (nat_Nat_Add.f k a0 a1) (nat_Nat_Add.f (k + 1) a0 a1):=by
  intro a0 a1 k
  have ih0:=nat_Nat_Add.mono_l k
  unfold nat_Nat_Add.f
  repeat' first
      | (with_reducible exact ih0 _ _ _ _ _ _)
      | (with_reducible exact nat_trimmed.mono _ _)
      | (with_reducible exact LeO.refl _)
      | (with_reducible exact LeO.none _)
      | (with_reducible refine LeO.ite ?_ ?_)
      | (with_reducible refine LeO.bind ?_ (fun _=>?_))
      | exact ih0 _ _ _ _ _ _
      | exact nat_trimmed.mono _ _
      | exact LeO.none _
      | refine LeO.ite ?_ ?_
      | refine LeO.bind ?_ (fun _=>?_)
def frac_Frac_Den.f (k:Nat) (l0_0:List Int) (a0_1:Bool) (l0_2:List Int):Option (List Int):=(nat_Of.f k (([1]:List Int))).bind fun t714=>((nat_Nat_Add.f k l0_2 t714).bind fun t717=>(some t717))
theorem frac_Frac_Den.mono : ∀ a0 a1 a2 k,LeO (frac_Frac_Den.f k a0 a1 a2) (frac_Frac_Den.f (k + 1) a0 a1 a2):=by
  intro a0 a1 a2 k
  unfold frac_Frac_Den.f
  repeat' first
      | (with_reducible exact nat_Nat_Add.mono _ _ _)
      | (with_reducible exact nat_Of.mono _ _)
      | (with_reducible exact LeO.refl _)
      | (with_reducible exact LeO.none _)
      | (with_reducible refine LeO.ite ?_ ?_)
      | (with_reducible refine LeO.bind ?_ (fun _=>?_))
      | exact nat_Nat_Add.mono _ _ _
      | exact nat_Of.mono _ _
      | exact LeO.none _
      | refine LeO.ite ?_ ?_
      | refine LeO.bind ?_ (fun _=>?_)
def digits_small.l0:Nat→Int→Int→List Int→Option (List Int)
  | 0,_,_,_=>none
  | k + 1,n,m,acc=>if 0 < n∨(acc.length:Int) < m then (if acc.length < 20 then digits_small.l0 k (n / 10) m ((48 + n % 10) :: acc) else none) else some acc
def digits_small.f (a0 a1:Int):Option ByteArray:=if 0≤a0∧a0 < 18446744073709551616 then (digits_small.l0 21 a0 a1 []).map strOfNums else none
def digits_small.cells (acc:List Int):Array Value:=((List.replicate (20 - acc.length) (Value.int .u8 0)) ++ acc.map (Value.int .u8)).toArray
def digits_joined.go (l:List ByteArray) (n:Nat):List UInt8:=((l.drop n).reverse.map fun b=>b.data.toList).flatten
def digits_joined.f (l:List ByteArray):Option ByteArray:=if l.length < 4611686018427387904∧(digits_joined.go l 0).length≤140737488355328 then some ⟨(digits_joined.go l 0).toArray⟩ else none
theorem digits_joined.told {l:List ByteArray} {r:ByteArray} (h:digits_joined.f l=some r):l.length < 4611686018427387904∧(digits_joined.go l 0).length≤140737488355328∧r=⟨(digits_joined.go l 0).toArray⟩:=by
  unfold digits_joined.f at h
  split at h
  · next c=>exact ⟨c.1,c.2,(Option.some.inj h).symm⟩
  · cases h
theorem digits_joined.end_ (l:List ByteArray):digits_joined.go l l.length = []:=by simp [digits_joined.go]
theorem digits_joined.step (l:List ByteArray) (n:Nat) (h:n < l.length):digits_joined.go l n=digits_joined.go l (n + 1) ++ (rdOf ByteArray.empty l (n:Int)).data.toList:=by
  unfold digits_joined.go rdOf
  rw [List.drop_eq_getElem_cons h,List.reverse_cons,List.map_append,List.flatten_append,Int.toNat_natCast,List.getD_eq_getElem?_getD,List.getElem?_eq_getElem h]
  simp
theorem digits_joined.mono_len (l:List ByteArray) (n:Nat):(digits_joined.go l n).length≤(digits_joined.go l 0).length:=by
  induction n with
  | zero=>exact Nat.le_refl _
  | succ n ih =>
    rcases Nat.lt_or_ge n l.length with h|h
    · have:=digits_joined.step l n h
      rw [this,List.length_append] at ih
      omega
    · unfold digits_joined.go
      rw [List.drop_eq_nil_of_le (by omega)]
      simp
theorem digits_joined.fits {l:List ByteArray} {n:Nat} (h:n < l.length) (hb:(digits_joined.go l 0).length≤140737488355328):(digits_joined.go l (n + 1)).length + (rdOf ByteArray.empty l (n:Int)).size≤140737488355328:=by
  have h1:=digits_joined.mono_len l n
  rw [digits_joined.step l n h,List.length_append] at h1
  have h2:(rdOf ByteArray.empty l (n:Int)).data.toList.length=(rdOf ByteArray.empty l (n:Int)).size:=rfl
  omega
mutual
def digits_Print.l0:Nat→List ByteArray→List Int→Option (ByteArray)
  | 0,_,_=>none
  | k + 1,x3,x812000=>(nat_Nat_Zero.f x812000).bind fun t813=>(if t813=true then ((digits_joined.f x3).bind fun t814=>(some t814)) else ((nat_Of.f k (([1000000000000000000]:List Int))).bind fun t818=>((quot_Div.f k x812000 t818).bind fun bt821=>((nat_Nat_Limbs.f bt821.2.1).bind fun t830=>(digits_Print.l1 k x3 0 t830 (t830.length:Int) 0 bt821.1)))))
def digits_Print.l1:Nat→List ByteArray→Int→List Int→Int→Int→List Int→Option (ByteArray)
  | 0,_,_,_,_,_,_=>none
  | k + 1,x3,x7,x27,x28,x29,x829000=>if x29 < x28 then (if 0≤x29 then (if x29 < (x27.length:Int) then (digits_Print.l1 k x3 (rd x27 x29) x27 x28 (wrap64 (x29 + 1)) x829000) else (none)) else (none)) else ((nat_Nat_Zero.f x829000).bind fun t834=>(if t834=true then ((digits_small.f x7 1).bind fun t835=>(if x3.length < 8796093022208 then (digits_Print.l0 k (x3 ++ [t835]) x829000) else (none))) else ((digits_small.f x7 18).bind fun t839=>(if x3.length < 8796093022208 then (digits_Print.l0 k (x3 ++ [t839]) x829000) else (none)))))
end
def digits_Print.f (k:Nat) (l0_0:List Int):Option (ByteArray):=(nat_Nat_Zero.f l0_0).bind fun t812=>(if t812=true then (some (⟨#[48]⟩:ByteArray)) else (digits_Print.l0 k ([]:List ByteArray) l0_0))
theorem digits_Print.mono_l : ∀ k,(∀ y0 y1,LeO (digits_Print.l0 k y0 y1) (digits_Print.l0 (k + 1) y0 y1))∧(∀ y0 y1 y2 y3 y4 y5,LeO (digits_Print.l1 k y0 y1 y2 y3 y4 y5) (digits_Print.l1 (k + 1) y0 y1 y2 y3 y4 y5))
  | 0=>⟨fun _ _ r h=>by simp [digits_Print.l0] at h,fun _ _ _ _ _ _ r h=>by simp [digits_Print.l1] at h⟩
  | k + 1=>by
    obtain ⟨ih0,ih1⟩:=digits_Print.mono_l k
    refine ⟨?_,?_⟩
    · intro y0 y1
      unfold digits_Print.l0
      repeat' first
      | (with_reducible exact ih0 _ _)
      | (with_reducible exact ih1 _ _ _ _ _ _)
      | (with_reducible exact nat_Of.mono _ _)
      | (with_reducible exact quot_Div.mono _ _ _)
      | (with_reducible exact LeO.refl _)
      | (with_reducible exact LeO.none _)
      | (with_reducible refine LeO.ite ?_ ?_)
      | (with_reducible refine LeO.bind ?_ (fun _=>?_))
      | exact ih0 _ _
      | exact ih1 _ _ _ _ _ _
      | exact nat_Of.mono _ _
      | exact quot_Div.mono _ _ _
      | exact LeO.none _
      | refine LeO.ite ?_ ?_
      | refine LeO.bind ?_ (fun _=>?_)
    · intro y0 y1 y2 y3 y4 y5
      unfold digits_Print.l1
      repeat' first
      | (with_reducible exact ih0 _ _)
      | (with_reducible exact ih1 _ _ _ _ _ _)
      | (with_reducible exact nat_Of.mono _ _)
      | (with_reducible exact quot_Div.mono _ _ _)
      | (with_reducible exact LeO.refl _)
      | (with_reducible exact LeO.none _)
      | (with_reducible refine LeO.ite ?_ ?_)
      | (with_reducible refine LeO.bind ?_ (fun _=>?_))
      | exact ih0 _ _
      | exact ih1 _ _ _ _ _ _
      | exact nat_Of.mono _ _
      | exact quot_Div.mono _ _ _
      | exact LeO.none _
      | refine LeO.ite ?_ ?_
      | refine LeO.bind ?_ (fun _=>?_)
theorem digits_Print.mono : ∀ a0 k,LeO (digits_Print.f k a0) (digits_Print.f (k + 1) a0):=by
  intro a0 k
  obtain ⟨ih0,ih1⟩:=digits_Print.mono_l k
  unfold digits_Print.f
  repeat' first
      | (with_reducible exact ih0 _ _)
      | (with_reducible exact ih1 _ _ _ _ _ _)
      | (with_reducible exact nat_Of.mono _ _)
      | (with_reducible exact quot_Div.mono _ _ _)
      | (with_reducible exact LeO.refl _)
      | (with_reducible exact LeO.none _)
      | (with_reducible refine LeO.ite ?_ ?_)
      | (with_reducible refine LeO.bind ?_ (fun _=>?_))
      | exact ih0 _ _
      | exact ih1 _ _ _ _ _ _
      | exact nat_Of.mono _ _
      | exact quot_Div.mono _ _ _
      | exact LeO.none _
      | refine LeO.ite ?_ ?_
      | refine LeO.bind ?_ (fun _=>?_)
def whole_Int_Print.f (k:Nat) (l0_0:List Int) (a0_1:Bool):Option (ByteArray):=if a0_1=true then ((digits_Print.f k l0_0).bind fun t844=>(if 1 + t844.size≤9223372036854775807 then (some ((⟨#[45]⟩:ByteArray) ++ t844)) else (none))) else ((digits_Print.f k l0_0).bind fun t845=>(some t845))
theorem whole_Int_Print.mono : ∀ a0 a1 k,LeO (whole_Int_Print.f k a0 a1) (whole_Int_Print.f (k + 1) a0 a1):=by
  intro a0 a1 k
  unfold whole_Int_Print.f
  repeat' first
      | (with_reducible exact digits_Print.mono _ _)
      | (with_reducible exact LeO.refl _)
      | (with_reducible exact LeO.none _)
      | (with_reducible refine LeO.ite ?_ ?_)
      | (with_reducible refine LeO.bind ?_ (fun _=>?_))
      | exact digits_Print.mono _ _
      | exact LeO.none _
      | refine LeO.ite ?_ ?_
      | refine LeO.bind ?_ (fun _=>?_)
def frac_From.f (l0_0:List Int) (a0_1:Bool):Option (List Int×Bool×List Int):=some (l0_0,a0_1,([]:List Int))
def frac_Frac_Num.f (l0_0:List Int) (a0_1:Bool) (l0_2:List Int):Option (List Int×Bool):=some (l0_0,a0_1)
mutual
def chattelref01_Print.l0:Nat→List Int→ByteArray→Int→Option (ByteArray)
  | 0,_,_,_=>none
  | k + 1,x0,x3,x4=>if x4 < (x0.length:Int) then (if 0≤x4 then (chattelref01_Print.l1 k x0 x3 x4 (rd x0 x4) 0) else (none)) else (chattelref01_Print.l2 k x3 0)
def chattelref01_Print.l1:Nat→List Int→ByteArray→Int→Int→Int→Option (ByteArray)
  | 0,_,_,_,_,_=>none
  | k + 1,x0,x3,x4,x5,x6=>if x6 < 4 then ((some (([(wrap64 (48 + (Int.tmod x5 10))) % 256]:List Int):List Int)).bind fun y1009=>(if (strOfNums y1009).size + x3.size≤9223372036854775807 then (chattelref01_Print.l1 k x0 ((strOfNums y1009) ++ x3) x4 (wrap64 (Int.tdiv x5 10)) (wrap64 (x6 + 1))) else (none))) else (chattelref01_Print.l0 k x0 x3 (wrap64 (x4 + 1)))
def chattelref01_Print.l2:Nat→ByteArray→Int→Option (ByteArray)
  | 0,_,_=>none
  | k + 1,x3,x7=>if 0≤x7 then (if x7 < (x3.size:Int) then (if (bt x3 x7)=48 then (chattelref01_Print.l2 k x3 (wrap64 (x7 + 1))) else (if x7≤(x3.size:Int) then (some (x3.extract (x7:Int).toNat x3.size)) else (none))) else (none)) else (none)
end
def chattelref01_Print.f (k:Nat) (l0:List Int):Option (ByteArray):=if (l0.length:Int)=0 then (some (⟨#[48]⟩:ByteArray)) else (chattelref01_Print.l0 k l0 (⟨#[]⟩:ByteArray) 0)
def chattelref04_Print.f (k:Nat) (l0_0:List Int) (a0_1:Bool):Option (ByteArray):=(chattelref01_Print.f k l0_0).bind fun t1013=>(if a0_1=true then (if 1 + t1013.size≤9223372036854775807 then (some ((⟨#[45]⟩:ByteArray) ++ t1013)) else (none)) else (some t1013))
def frac_Frac_Sign.f (l0_0:List Int) (a0_1:Bool) (l0_2:List Int):Option (Int):=(whole_Int_Sign.f l0_0 a0_1).bind fun t1020=>(some t1020)
def chattelref04_Mul.f (k:Nat) (l0_0:List Int) (a0_1:Bool) (l1_0:List Int) (a1_1:Bool):Option (List Int×Bool):=(chattelref01_Mul.f k l0_0 l1_0).bind fun t1172=>((chattelref04_Of.f t1172 (a0_1 != a1_1)).bind fun bt1175=>(some (bt1175.1,bt1175.2)))
def frac_Frac_Mul.f (k:Nat) (l0_0:List Int) (a0_1:Bool) (l0_2:List Int) (l1_0:List Int) (a1_1:Bool) (l1_2:List Int):Option (List Int×Bool×List Int):=(whole_Int_Mul.f k l0_0 a0_1 l1_0 a1_1).bind fun bt1341=>((frac_Frac_Den.f k l0_0 a0_1 l0_2).bind fun t1345=>((frac_Frac_Den.f k l1_0 a1_1 l1_2).bind fun t1348=>((nat_Nat_Mul.f k t1345 t1348).bind fun t1351=>((frac_made.f k bt1341.1 bt1341.2 t1351).bind fun bt1354=>(some (bt1354.1,bt1354.2.1,bt1354.2.2))))))
theorem frac_Frac_Mul.mono : ∀ a0 a1 a2 a3 a4 a5 k,LeO (frac_Frac_Mul.f k a0 a1 a2 a3 a4 a5) (frac_Frac_Mul.f (k + 1) a0 a1 a2 a3 a4 a5):=by
  intro a0 a1 a2 a3 a4 a5 k
  unfold frac_Frac_Mul.f
  repeat' first
      | (with_reducible exact frac_Frac_Den.mono _ _ _ _)
      | (with_reducible exact frac_made.mono _ _ _ _)
      | (with_reducible exact nat_Nat_Mul.mono _ _ _)
      | (with_reducible exact whole_Int_Mul.mono _ _ _ _ _)
      | (with_reducible exact LeO.refl _)
      | (with_reducible exact LeO.none _)
      | (with_reducible refine LeO.ite ?_ ?_)
      | (with_reducible refine LeO.bind ?_ (fun _=>?_))
      | exact frac_Frac_Den.mono _ _ _ _
      | exact frac_made.mono _ _ _ _
      | exact nat_Nat_Mul.mono _ _ _
      | exact whole_Int_Mul.mono _ _ _ _ _
      | exact LeO.none _
      | refine LeO.ite ?_ ?_
      | refine LeO.bind ?_ (fun _=>?_)
def chattelref05_Mul.f (k:Nat) (l0_0:List Int) (a0_1:Bool) (l0_2:List Int) (l1_0:List Int) (a1_1:Bool) (l1_2:List Int):Option (List Int×Bool×List Int):=(chattelref04_Mul.f k l0_0 a0_1 l1_0 a1_1).bind fun bt1364=>((chattelref01_Mul.f k l0_2 l1_2).bind fun t1369=>((chattelref05_Make.f k bt1364.1 bt1364.2 t1369).bind fun bt1372=>(some (bt1372.1,bt1372.2.1,bt1372.2.2))))
def chattellaw06_num.j0:Nat→List Int→List Int→List Int→List Int→List Int→Bool→List Int→Option (List Int×Bool×List Int×List Int×Bool×List Int)
  | 0,_,_,_,_,_,_,_=>none
  | k + 1,x4,x6,x7,x1898000,x1898001,x1898002,x1912000=>(nat_Of.f k x4).bind fun t1922=>((whole_Of.f t1922 x1898002).bind fun bt1925=>((whole_Of.f x1912000 false).bind fun bt1929=>((frac_Of.f k bt1925.1 bt1925.2 bt1929.1 bt1929.2).bind fun bt1933=>((chattelref04_Of.f x6 x1898002).bind fun bt1942=>((chattelref05_Make.f k bt1942.1 bt1942.2 x7).bind fun bt1946=>(some (bt1933.1,bt1933.2.1,bt1933.2.2.1,bt1946.1,bt1946.2.1,bt1946.2.2)))))))
def chattellaw06_num.f (k:Nat) (l0_0:List Int) (l0_1:List Int) (a0_2:Bool):Option (List Int×Bool×List Int×List Int×Bool×List Int):=if 0≤(mn (l0_0.length:Int) 4) then (if (mn (l0_0.length:Int) 4)≤(l0_0.length:Int) then (if 0≤(mn (l0_1.length:Int) 3) then (if (mn (l0_1.length:Int) 3)≤(l0_1.length:Int) then ((chattelref01_Of.f k (l0_0.take ((mn (l0_0.length:Int) 4):Int).toNat)).bind fun t1902=>((chattelref01_Of.f k (l0_1.take ((mn (l0_1.length:Int) 3):Int).toNat)).bind fun t1905=>((nat_Of.f k (l0_1.take ((mn (l0_1.length:Int) 3):Int).toNat)).bind fun t1908=>((nat_Nat_Zero.f t1908).bind fun t1912=>(if t1912=true then ((nat_Of.f k (([1]:List Int))).bind fun t1916=>(chattellaw06_num.j0 k (l0_0.take ((mn (l0_0.length:Int) 4):Int).toNat) t1902 (([1]:List Int)) l0_0 l0_1 a0_2 t1916)) else (chattellaw06_num.j0 k (l0_0.take ((mn (l0_0.length:Int) 4):Int).toNat) t1902 t1905 l0_0 l0_1 a0_2 t1908)))))) else (none)) else (none)) else (none)) else (none)
def round_Mode_good.f (a0:Int):Option (Bool):=if a0 ≥ 0 then (some (decide (a0 < 5))) else (some false)
def round_Mode_more.f (k:Nat) (a0:Int) (l1_0:List Int) (l2_0:List Int) (l3_0:List Int):Option (Bool):=(nat_Nat_Add.f k l2_0 l2_0).bind fun t1956=>((nat_Nat_Cmp.f k t1956 l3_0).bind fun t1959=>(if a0=1 then (some true) else (if a0=2 then (some (decide (t1959 ≥ 0))) else (if a0=3 then (some (decide (t1959 > 0))) else (if a0=4 then ((nat_Nat_Limbs.f l1_0).bind fun t1960=>(if (t1960.length:Int) > 0 then ((nat_Nat_Limbs.f l1_0).bind fun t1963=>(if 0 < (t1963.length:Int) then (if t1959 > 0 then (some true) else (if t1959=0 then (some ((Go.bits .and .u64 (rd t1963 0) 1) == 1)) else (some false))) else (none))) else (if t1959 > 0 then (some true) else (if t1959=0 then (some false) else (some false))))) else (some false))))))
theorem round_Mode_more.mono : ∀ a0 a1 a2 a3 k,LeO (round_Mode_more.f k a0 a1 a2 a3) (round_Mode_more.f (k + 1) a0 a1 a2 a3):=by
  intro a0 a1 a2 a3 k
  unfold round_Mode_more.f
  repeat' first
      | (with_reducible exact nat_Nat_Add.mono _ _ _)
      | (with_reducible exact nat_Nat_Cmp.mono _ _ _)
      | (with_reducible exact LeO.refl _)
      | (with_reducible exact LeO.none _)
      | (with_reducible refine LeO.ite ?_ ?_)
      | (with_reducible refine LeO.bind ?_ (fun _=>?_))
      | exact nat_Nat_Add.mono _ _ _
      | exact nat_Nat_Cmp.mono _ _ _
      | exact LeO.none _
      | refine LeO.ite ?_ ?_
      | refine LeO.bind ?_ (fun _=>?_)
def round_Whole.j0:Nat→Bool→List Int→Bool→List Int→List Int→Option (List Int×Bool×Int)
  | 0,_,_,_,_,_=>none
  | k + 1,x33,x1968000,x1968001,x1968002,x1988000=>if x33=true then ((nat_Of.f k (([1]:List Int))).bind fun t1997=>((nat_Nat_Add.f k x1988000 t1997).bind fun t2000=>((frac_Frac_Sign.f x1968000 x1968001 x1968002).bind fun t2003=>((whole_Of.f t2000 (decide (t2003 < 0))).bind fun bt2004=>(some (bt2004.1,bt2004.2,0)))))) else ((frac_Frac_Sign.f x1968000 x1968001 x1968002).bind fun t2008=>((whole_Of.f x1988000 (decide (t2008 < 0))).bind fun bt2009=>(some (bt2009.1,bt2009.2,0))))
def round_Whole.f (k:Nat) (l0_0:List Int) (a0_1:Bool) (l0_2:List Int) (a1:Int):Option (List Int×Bool×Int):=(round_Mode_good.f a1).bind fun t1969=>(if t1969=true then ((frac_Frac_Num.f l0_0 a0_1 l0_2).bind fun bt1970=>((whole_Int_Abs.f bt1970.1 bt1970.2).bind fun t1974=>((frac_Frac_Den.f k l0_0 a0_1 l0_2).bind fun t1977=>((quot_Div.f k t1974 t1977).bind fun bt1980=>((nat_Nat_Zero.f bt1980.2.1).bind fun t1989=>(if t1989=true then (round_Whole.j0 k false l0_0 a0_1 l0_2 bt1980.1) else ((frac_Frac_Den.f k l0_0 a0_1 l0_2).bind fun t1990=>((round_Mode_more.f k a1 bt1980.1 bt1980.2.1 t1990).bind fun t1993=>(round_Whole.j0 k t1993 l0_0 a0_1 l0_2 bt1980.1))))))))) else (some (([]:List Int),false,2)))
theorem round_Whole.mono_l : ∀ k,(∀ y0 y1 y2 y3 y4,LeO (round_Whole.j0 k y0 y1 y2 y3 y4) (round_Whole.j0 (k + 1) y0 y1 y2 y3 y4))
  | 0=>fun _ _ _ _ _ r h=>by simp [round_Whole.j0] at h
  | k + 1=>by
    have ih0:=round_Whole.mono_l k
    · intro y0 y1 y2 y3 y4
      unfold round_Whole.j0
      repeat' first
      | (with_reducible exact ih0 _ _ _ _ _)
      | (with_reducible exact frac_Frac_Den.mono _ _ _ _)
      | (with_reducible exact nat_Nat_Add.mono _ _ _)
      | (with_reducible exact nat_Of.mono _ _)
      | (with_reducible exact quot_Div.mono _ _ _)
      | (with_reducible exact round_Mode_more.mono _ _ _ _ _)
      | (with_reducible exact LeO.refl _)
      | (with_reducible exact LeO.none _)
      | (with_reducible refine LeO.ite ?_ ?_)
      | (with_reducible refine LeO.bind ?_ (fun _=>?_))
      | exact ih0 _ _ _ _ _
      | exact frac_Frac_Den.mono _ _ _ _
      | exact nat_Nat_Add.mono _ _ _
      | exact nat_Of.mono _ _
      | exact quot_Div.mono _ _ _
      | exact round_Mode_more.mono _ _ _ _ _
      | exact LeO.none _
      | refine LeO.ite ?_ ?_
      | refine LeO.bind ?_ (fun _=>?_)
theorem round_Whole.mono : ∀ a0 a1 a2 a3 k,LeO (round_Whole.f k a0 a1 a2 a3) (round_Whole.f (k + 1) a0 a1 a2 a3):=by
  intro a0 a1 a2 a3 k
  have ih0:=round_Whole.mono_l k
  unfold round_Whole.f
  repeat' first
      | (with_reducible exact ih0 _ _ _ _ _)
      | (with_reducible exact frac_Frac_Den.mono _ _ _ _)
      | (with_reducible exact nat_Nat_Add.mono _ _ _)
      | (with_reducible exact nat_Of.mono _ _)
      | (with_reducible exact quot_Div.mono _ _ _)
      | (with_reducible exact round_Mode_more.mono _ _ _ _ _)
      | (with_reducible exact LeO.refl _)
      | (with_reducible exact LeO.none _)
      | (with_reducible refine LeO.ite ?_ ?_)
      | (with_reducible refine LeO.bind ?_ (fun _=>?_))
      | exact ih0 _ _ _ _ _
      | exact frac_Frac_Den.mono _ _ _ _
      | exact nat_Nat_Add.mono _ _ _
      | exact nat_Of.mono _ _
      | exact quot_Div.mono _ _ _
      | exact round_Mode_more.mono _ _ _ _ _
      | exact LeO.none _
      | refine LeO.ite ?_ ?_
      | refine LeO.bind ?_ (fun _=>?_)
def digits_power.l0:Nat→Int→List Int→List Int→Option (List Int)
  | 0,_,_,_=>none
  | k + 1,x1,x2014000,x2022000=>if x1 > 0 then (if (Go.bits .and .i64 x1 1)=1 then ((nat_Nat_Mul.f k x2022000 x2014000).bind fun t2022=>(if x1 > 1 then ((nat_Nat_Mul.f k x2014000 x2014000).bind fun t2025=>(digits_power.l0 k (x1 / 2) t2025 t2022)) else (digits_power.l0 k (x1 / 2) x2014000 t2022))) else (if x1 > 1 then ((nat_Nat_Mul.f k x2014000 x2014000).bind fun t2028=>(digits_power.l0 k (x1 / 2) t2028 x2022000)) else (digits_power.l0 k (x1 / 2) x2014000 x2022000))) else (some x2022000)
def digits_power.f (k:Nat) (l0_0:List Int) (a1:Int):Option (List Int):=(nat_Of.f k (([1]:List Int))).bind fun t2018=>(digits_power.l0 k a1 l0_0 t2018)
theorem digits_power.mono_l : ∀ k,(∀ y0 y1 y2,LeO (digits_power.l0 k y0 y1 y2) (digits_power.l0 (k + 1) y0 y1 y2))
  | 0=>fun _ _ _ r h=>by simp [digits_power.l0] at h
  | k + 1=>by
    have ih0:=digits_power.mono_l k
    · intro y0 y1 y2
      unfold digits_power.l0
      repeat' first
      | (with_reducible exact ih0 _ _ _)
      | (with_reducible exact nat_Nat_Mul.mono _ _ _)
      | (with_reducible exact nat_Of.mono _ _)
      | (with_reducible exact LeO.refl _)
      | (with_reducible exact LeO.none _)
      | (with_reducible refine LeO.ite ?_ ?_)
      | (with_reducible refine LeO.bind ?_ (fun _=>?_))
      | exact ih0 _ _ _
      | exact nat_Nat_Mul.mono _ _ _
      | exact nat_Of.mono _ _
      | exact LeO.none _
      | refine LeO.ite ?_ ?_
      | refine LeO.bind ?_ (fun _=>?_)
theorem digits_power.mono : ∀ a0 a1 k,LeO (digits_power.f k a0 a1) (digits_power.f (k + 1) a0 a1):=by
  intro a0 a1 k
  have ih0:=digits_power.mono_l k
  unfold digits_power.f
  repeat' first
      | (with_reducible exact ih0 _ _ _)
      | (with_reducible exact nat_Nat_Mul.mono _ _ _)
      | (with_reducible exact nat_Of.mono _ _)
      | (with_reducible exact LeO.refl _)
      | (with_reducible exact LeO.none _)
      | (with_reducible refine LeO.ite ?_ ?_)
      | (with_reducible refine LeO.bind ?_ (fun _=>?_))
      | exact ih0 _ _ _
      | exact nat_Nat_Mul.mono _ _ _
      | exact nat_Of.mono _ _
      | exact LeO.none _
      | refine LeO.ite ?_ ?_
      | refine LeO.bind ?_ (fun _=>?_)
def digits_Ten.f (k:Nat) (a0:Int):Option (List Int×Int):=if a0 < 0 then (some (([]:List Int),2)) else (if a0 > 4096 then (some (([]:List Int),6)) else ((nat_Of.f k (([10]:List Int))).bind fun t2035=>((digits_power.f k t2035 a0).bind fun t2038=>(some (t2038,0)))))
theorem digits_Ten.mono : ∀ a0 k,LeO (digits_Ten.f k a0) (digits_Ten.f (k + 1) a0):=by
  intro a0 k
  unfold digits_Ten.f
  repeat' first
      | (with_reducible exact digits_power.mono _ _ _)
      | (with_reducible exact nat_Of.mono _ _)
      | (with_reducible exact LeO.refl _)
      | (with_reducible exact LeO.none _)
      | (with_reducible refine LeO.ite ?_ ?_)
      | (with_reducible refine LeO.bind ?_ (fun _=>?_))
      | exact digits_power.mono _ _ _
      | exact nat_Of.mono _ _
      | exact LeO.none _
      | refine LeO.ite ?_ ?_
      | refine LeO.bind ?_ (fun _=>?_)
def round_Scaled.f (k:Nat) (l0_0:List Int) (a0_1:Bool) (l0_2:List Int) (a1:Int) (a2:Int):Option (List Int×Bool×Int):=(round_Mode_good.f a2).bind fun t2043=>(if t2043=true then (if a1 < 0 then (some (([]:List Int),false,10)) else (if a1 > 64 then (some (([]:List Int),false,10)) else ((digits_Ten.f k a1).bind fun bt2044=>((whole_Of.f bt2044.1 false).bind fun bt2049=>((frac_From.f bt2049.1 bt2049.2).bind fun bt2053=>((frac_Frac_Mul.f k l0_0 a0_1 l0_2 bt2053.1 bt2053.2.1 bt2053.2.2).bind fun bt2060=>((round_Whole.f k bt2060.1 bt2060.2.1 bt2060.2.2 a2).bind fun bt2067=>(some (bt2067.1,bt2067.2.1,bt2067.2.2))))))))) else (some (([]:List Int),false,2)))
theorem round_Scaled.mono : ∀ a0 a1 a2 a3 a4 k,LeO (round_Scaled.f k a0 a1 a2 a3 a4) (round_Scaled.f (k + 1) a0 a1 a2 a3 a4):=by
  intro a0 a1 a2 a3 a4 k
  unfold round_Scaled.f
  repeat' first
      | (with_reducible exact digits_Ten.mono _ _)
      | (with_reducible exact frac_Frac_Mul.mono _ _ _ _ _ _ _)
      | (with_reducible exact round_Whole.mono _ _ _ _ _)
      | (with_reducible exact LeO.refl _)
      | (with_reducible exact LeO.none _)
      | (with_reducible refine LeO.ite ?_ ?_)
      | (with_reducible refine LeO.bind ?_ (fun _=>?_))
      | exact digits_Ten.mono _ _
      | exact frac_Frac_Mul.mono _ _ _ _ _ _ _
      | exact round_Whole.mono _ _ _ _ _
      | exact LeO.none _
      | refine LeO.ite ?_ ?_
      | refine LeO.bind ?_ (fun _=>?_)
mutual
def chattelref06_Whole.j2:Nat→List Int→List Int→Bool→Bool→Option (List Int×Bool)
  | 0,_,_,_,_=>none
  | k + 1,x5,x8,x14,x2073001=>if x14=true then ((chattelref04_Of.f x8 x2073001).bind fun bt2099=>(some (bt2099.1,bt2099.2))) else ((chattelref04_Of.f x5 x2073001).bind fun bt2103=>(some (bt2103.1,bt2103.2)))
def chattelref06_Whole.j0:Nat→Int→List Int→List Int→Int→List Int→Bool→List Int→Bool→List Int→Option (List Int×Bool)
  | 0,_,_,_,_,_,_,_,_,_=>none
  | k + 1,x1,x5,x8,x11,x13,x14,x2073000,x2073001,x2073002=>if x1=2 then (chattelref06_Whole.j1 k x1 x5 x8 x11 x13 (decide (x11 ≥ 0)) x2073000 x2073001 x2073002) else (chattelref06_Whole.j1 k x1 x5 x8 x11 x13 x14 x2073000 x2073001 x2073002)
def chattelref06_Whole.j1:Nat→Int→List Int→List Int→Int→List Int→Bool→List Int→Bool→List Int→Option (List Int×Bool)
  | 0,_,_,_,_,_,_,_,_,_=>none
  | k + 1,x1,x5,x8,x11,x13,x14,x2073000,x2073001,x2073002=>if x1=3 then (if x1=4 then (if x11 > 0 then (chattelref06_Whole.j2 k x5 x8 true x2073001) else (if x11=0 then (chattelref06_Whole.j2 k x5 x8 (decide ((x13.length:Int) > 0)) x2073001) else (chattelref06_Whole.j2 k x5 x8 false x2073001))) else (chattelref06_Whole.j2 k x5 x8 (decide (x11 > 0)) x2073001)) else (if x1=4 then (if x11 > 0 then (chattelref06_Whole.j2 k x5 x8 true x2073001) else (if x11=0 then (chattelref06_Whole.j2 k x5 x8 (decide ((x13.length:Int) > 0)) x2073001) else (chattelref06_Whole.j2 k x5 x8 false x2073001))) else (chattelref06_Whole.j2 k x5 x8 x14 x2073001))
end
def chattelref06_Whole.f (k:Nat) (l0_0:List Int) (a0_1:Bool) (l0_2:List Int) (a1:Int):Option (List Int×Bool):=(chattelref01_DivMod.f k l0_0 l0_2).bind fun bt2074=>((chattelref01_Add.f k bt2074.1 (([1]:List Int))).bind fun t2083=>((some (([2]:List Int):List Int)).bind fun y2086=>((chattelref01_Mul.f k bt2074.2 y2086).bind fun t2089=>((chattelref01_Cmp.f k t2089 l0_2).bind fun t2092=>((chattelref01_DivMod.f k bt2074.1 y2086).bind fun bt2093=>(if (bt2074.2.length:Int) > 0 then (if a1=1 then (chattelref06_Whole.j0 k a1 bt2074.1 t2083 t2092 bt2093.2 true l0_0 a0_1 l0_2) else (chattelref06_Whole.j0 k a1 bt2074.1 t2083 t2092 bt2093.2 false l0_0 a0_1 l0_2)) else (chattelref06_Whole.j2 k bt2074.1 t2083 false a0_1)))))))
mutual
def chattelref01_Read.l0:Nat→ByteArray→List Int→Int→Option (List Int)
  | 0,_,_,_=>none
  | k + 1,x0,x3,x4=>if x4 > 0 then (chattelref01_Read.l1 k x0 x3 x4 0 (mx 0 (wrap64 (x4 - 4)))) else ((chattelref01_Trim.f k x3).bind fun t2107=>(some t2107))
def chattelref01_Read.l1:Nat→ByteArray→List Int→Int→Int→Int→Option (List Int)
  | 0,_,_,_,_,_=>none
  | k + 1,x0,x3,x4,x5,x6=>if x6 < x4 then (if 0≤x6 then (if x6 < (x0.size:Int) then (chattelref01_Read.l1 k x0 x3 x4 (wrap64 ((wrap64 ((wrap64 (10 * x5)) + (wrap64 (bt x0 x6)))) - 48)) (wrap64 (x6 + 1))) else (none)) else (none)) else (if x3.length < 17592186044416 then (chattelref01_Read.l0 k x0 (x3 ++ [x5]) (wrap64 (x4 - 4))) else (none))
end
def chattelref01_Read.f (k:Nat) (a0:ByteArray):Option (List Int):=chattelref01_Read.l0 k a0 ([]:List Int) (a0.size:Int)
theorem chattelref01_Read.mono_l : ∀ k,(∀ y0 y1 y2,LeO (chattelref01_Read.l0 k y0 y1 y2) (chattelref01_Read.l0 (k + 1) y0 y1 y2))∧(∀ y0 y1 y2 y3 y4,LeO (chattelref01_Read.l1 k y0 y1 y2 y3 y4) (chattelref01_Read.l1 (k + 1) y0 y1 y2 y3 y4))
  | 0=>⟨fun _ _ _ r h=>by simp [chattelref01_Read.l0] at h,fun _ _ _ _ _ r h=>by simp [chattelref01_Read.l1] at h⟩
  | k + 1=>by
    obtain ⟨ih0,ih1⟩:=chattelref01_Read.mono_l k
    refine ⟨?_,?_⟩
    · intro y0 y1 y2
      unfold chattelref01_Read.l0
      repeat' first
      | (with_reducible exact ih0 _ _ _)
      | (with_reducible exact ih1 _ _ _ _ _)
      | (with_reducible exact chattelref01_Trim.mono _ _)
      | (with_reducible exact LeO.refl _)
      | (with_reducible exact LeO.none _)
      | (with_reducible refine LeO.ite ?_ ?_)
      | (with_reducible refine LeO.bind ?_ (fun _=>?_))
      | exact ih0 _ _ _
      | exact ih1 _ _ _ _ _
      | exact chattelref01_Trim.mono _ _
      | exact LeO.none _
      | refine LeO.ite ?_ ?_
      | refine LeO.bind ?_ (fun _=>?_)
    · intro y0 y1 y2 y3 y4
      unfold chattelref01_Read.l1
      repeat' first
      | (with_reducible exact ih0 _ _ _)
      | (with_reducible exact ih1 _ _ _ _ _)
      | (with_reducible exact chattelref01_Trim.mono _ _)
      | (with_reducible exact LeO.refl _)
      | (with_reducible exact LeO.none _)
      | (with_reducible refine LeO.ite ?_ ?_)
      | (with_reducible refine LeO.bind ?_ (fun _=>?_))
      | exact ih0 _ _ _
      | exact ih1 _ _ _ _ _
      | exact chattelref01_Trim.mono _ _
      | exact LeO.none _
      | refine LeO.ite ?_ ?_
      | refine LeO.bind ?_ (fun _=>?_)
theorem chattelref01_Read.mono : ∀ a0 k,LeO (chattelref01_Read.f k a0) (chattelref01_Read.f (k + 1) a0):=by
  intro a0 k
  obtain ⟨ih0,ih1⟩:=chattelref01_Read.mono_l k
  unfold chattelref01_Read.f
  repeat' first
      | (with_reducible exact ih0 _ _ _)
      | (with_reducible exact ih1 _ _ _ _ _)
      | (with_reducible exact chattelref01_Trim.mono _ _)
      | (with_reducible exact LeO.refl _)
      | (with_reducible exact LeO.none _)
      | (with_reducible refine LeO.ite ?_ ?_)
      | (with_reducible refine LeO.bind ?_ (fun _=>?_))
      | exact ih0 _ _ _
      | exact ih1 _ _ _ _ _
      | exact chattelref01_Trim.mono _ _
      | exact LeO.none _
      | refine LeO.ite ?_ ?_
      | refine LeO.bind ?_ (fun _=>?_)
def chattelref03_Ten.l0:Nat→Int→ByteArray→Int→Option (List Int)
  | 0,_,_,_=>none
  | k + 1,x0,x3,x4=>if x4 < x0 then (if x3.size + 1≤9223372036854775807 then (chattelref03_Ten.l0 k x0 (x3 ++ (⟨#[48]⟩:ByteArray)) (wrap64 (x4 + 1))) else (none)) else ((chattelref01_Read.f k x3).bind fun t2113=>(some t2113))
def chattelref03_Ten.f (k:Nat) (a0:Int):Option (List Int):=chattelref03_Ten.l0 k a0 (⟨#[49]⟩:ByteArray) 0
theorem chattelref03_Ten.mono_l : ∀ k,(∀ y0 y1 y2,LeO (chattelref03_Ten.l0 k y0 y1 y2) (chattelref03_Ten.l0 (k + 1) y0 y1 y2))
  | 0=>fun _ _ _ r h=>by simp [chattelref03_Ten.l0] at h
  | k + 1=>by
    have ih0:=chattelref03_Ten.mono_l k
    · intro y0 y1 y2
      unfold chattelref03_Ten.l0
      repeat' first
      | (with_reducible exact ih0 _ _ _)
      | (with_reducible exact chattelref01_Read.mono _ _)
      | (with_reducible exact LeO.refl _)
      | (with_reducible exact LeO.none _)
      | (with_reducible refine LeO.ite ?_ ?_)
      | (with_reducible refine LeO.bind ?_ (fun _=>?_))
      | exact ih0 _ _ _
      | exact chattelref01_Read.mono _ _
      | exact LeO.none _
      | refine LeO.ite ?_ ?_
      | refine LeO.bind ?_ (fun _=>?_)
theorem chattelref03_Ten.mono : ∀ a0 k,LeO (chattelref03_Ten.f k a0) (chattelref03_Ten.f (k + 1) a0):=by
  intro a0 k
  have ih0:=chattelref03_Ten.mono_l k
  unfold chattelref03_Ten.f
  repeat' first
      | (with_reducible exact ih0 _ _ _)
      | (with_reducible exact chattelref01_Read.mono _ _)
      | (with_reducible exact LeO.refl _)
      | (with_reducible exact LeO.none _)
      | (with_reducible refine LeO.ite ?_ ?_)
      | (with_reducible refine LeO.bind ?_ (fun _=>?_))
      | exact ih0 _ _ _
      | exact chattelref01_Read.mono _ _
      | exact LeO.none _
      | refine LeO.ite ?_ ?_
      | refine LeO.bind ?_ (fun _=>?_)
def chattelref05_From.f (l0_0:List Int) (a0_1:Bool):Option (List Int×Bool×List Int):=some (l0_0,a0_1,(([1]:List Int)))
def chattelref06_Scaled.f (k:Nat) (l0_0:List Int) (a0_1:Bool) (l0_2:List Int) (a1:Int) (a2:Int):Option (List Int×Bool):=(chattelref03_Ten.f k a1).bind fun t2123=>((chattelref04_Of.f t2123 false).bind fun bt2126=>((chattelref05_From.f bt2126.1 bt2126.2).bind fun bt2131=>((chattelref05_Mul.f k l0_0 a0_1 l0_2 bt2131.1 bt2131.2.1 bt2131.2.2).bind fun bt2139=>((chattelref06_Whole.f k bt2139.1 bt2139.2.1 bt2139.2.2 a2).bind fun bt2147=>(some (bt2147.1,bt2147.2))))))
def slices_Index_string_string.l0:Nat→List ByteArray→ByteArray→Int→Int→Option (Int)
  | 0,_,_,_,_=>none
  | k + 1,x0,x1,x7,x8=>if x8 < x7 then (if 0≤x8 then (if x8 < (x0.length:Int) then (if x1.toList=(rdOf ByteArray.empty x0 x8).toList then (some x8) else (slices_Index_string_string.l0 k x0 x1 x7 (wrap64 (x8 + 1)))) else (none)) else (none)) else (some (-1))
def slices_Index_string_string.f (k:Nat) (l0:List ByteArray) (a1:ByteArray):Option (Int):=slices_Index_string_string.l0 k l0 a1 (l0.length:Int) 0
theorem slices_Index_string_string.mono_l : ∀ k,(∀ y0 y1 y2 y3,LeO (slices_Index_string_string.l0 k y0 y1 y2 y3) (slices_Index_string_string.l0 (k + 1) y0 y1 y2 y3))
  | 0=>fun _ _ _ _ r h=>by simp [slices_Index_string_string.l0] at h
  | k + 1=>by
    have ih0:=slices_Index_string_string.mono_l k
    · intro y0 y1 y2 y3
      unfold slices_Index_string_string.l0
      repeat' first
      | (with_reducible exact ih0 _ _ _ _)
      | (with_reducible exact LeO.refl _)
      | (with_reducible exact LeO.none _)
      | (with_reducible refine LeO.ite ?_ ?_)
      | (with_reducible refine LeO.bind ?_ (fun _=>?_))
      | exact ih0 _ _ _ _
      | exact LeO.none _
      | refine LeO.ite ?_ ?_
      | refine LeO.bind ?_ (fun _=>?_)
theorem slices_Index_string_string.mono : ∀ a0 a1 k,LeO (slices_Index_string_string.f k a0 a1) (slices_Index_string_string.f (k + 1) a0 a1):=by
  intro a0 a1 k
  have ih0:=slices_Index_string_string.mono_l k
  unfold slices_Index_string_string.f
  repeat' first
      | (with_reducible exact ih0 _ _ _ _)
      | (with_reducible exact LeO.refl _)
      | (with_reducible exact LeO.none _)
      | (with_reducible refine LeO.ite ?_ ?_)
      | (with_reducible refine LeO.bind ?_ (fun _=>?_))
      | exact ih0 _ _ _ _
      | exact LeO.none _
      | refine LeO.ite ?_ ?_
      | refine LeO.bind ?_ (fun _=>?_)
def round_words.f:Option (List ByteArray):=some (([(⟨#[100,111,119,110]⟩:ByteArray),(⟨#[117,112]⟩:ByteArray),(⟨#[104,97,108,102,45,117,112]⟩:ByteArray),(⟨#[104,97,108,102,45,100,111,119,110]⟩:ByteArray),(⟨#[104,97,108,102,45,101,118,101,110]⟩:ByteArray)]:List ByteArray))
def round_Of.f (k:Nat) (a0:ByteArray):Option (Int×Bool):=(round_words.f).bind fun t2155=>((slices_Index_string_string.f k t2155 a0).bind fun t2158=>(some (mx t2158 0,decide (t2158 ≥ 0))))
theorem round_Of.mono : ∀ a0 k,LeO (round_Of.f k a0) (round_Of.f (k + 1) a0):=by
  intro a0 k
  unfold round_Of.f
  repeat' first
      | (with_reducible exact slices_Index_string_string.mono _ _ _)
      | (with_reducible exact LeO.refl _)
      | (with_reducible exact LeO.none _)
      | (with_reducible refine LeO.ite ?_ ?_)
      | (with_reducible refine LeO.bind ?_ (fun _=>?_))
      | exact slices_Index_string_string.mono _ _ _
      | exact LeO.none _
      | refine LeO.ite ?_ ?_
      | refine LeO.bind ?_ (fun _=>?_)
def round_Mode_Word.f (a0:Int):Option (ByteArray):=(round_Mode_good.f a0).bind fun t2159=>(if t2159=true then ((round_words.f).bind fun t2160=>(if 0≤a0 then (if a0 < (t2160.length:Int) then (some (rdOf ByteArray.empty t2160 a0)) else (none)) else (none))) else (some (⟨#[]⟩:ByteArray)))
def chattellaw06_wakes.l0:Nat→ByteArray→Int→List Int→Bool→List Int→Option (Bool)
  | 0,_,_,_,_,_=>none
  | k + 1,x3,x19,x2181000,x2181001,x2181002=>if x19 < 5 then ((round_Whole.f k x2181000 x2181001 x2181002 x19).bind fun bt2181=>((whole_Int_Print.f k bt2181.1 bt2181.2.1).bind fun t2187=>(if x3.size + t2187.size≤9223372036854775807 then (chattellaw06_wakes.l0 k (x3 ++ t2187) (wrap64 (x19 + 1)) x2181000 x2181001 x2181002) else (none)))) else ((round_Whole.f k x2181000 x2181001 x2181002 5).bind fun bt2188=>((round_Of.f k (⟨#[104,97,108,102,45,101,118,101,110]⟩:ByteArray)).bind fun bt2194=>((round_Scaled.f k x2181000 x2181001 x2181002 2 0).bind fun bt2196=>(if x3.toList=([45,50,45,51,45,51,45,50,45,50]:List UInt8) then (if bt2188.2.2=2 then (if bt2194.1=4 then (if bt2194.2=true then ((round_Mode_Word.f 1).bind fun t2202=>(if t2202.toList=([117,112]:List UInt8) then ((whole_Int_Print.f k bt2196.1 bt2196.2.1).bind fun t2203=>(if t2203.toList=([45,50,53,48]:List UInt8) then (some (bt2196.2.2 == 0)) else (some false))) else (some false))) else (some false)) else (some false)) else (some false)) else (some false)))))
def chattellaw06_wakes.f (k:Nat):Option (Bool):=(whole_From.f k (-5)).bind fun bt2164=>((whole_From.f k 2).bind fun bt2168=>((frac_Of.f k bt2164.1 bt2164.2 bt2168.1 bt2168.2).bind fun bt2172=>(chattellaw06_wakes.l0 k (⟨#[]⟩:ByteArray) 0 bt2172.1 bt2172.2.1 bt2172.2.2.1)))
theorem chattellaw06_wakes.mono_l : ∀ k,(∀ y0 y1 y2 y3 y4,LeO (chattellaw06_wakes.l0 k y0 y1 y2 y3 y4) (chattellaw06_wakes.l0 (k + 1) y0 y1 y2 y3 y4))
  | 0=>fun _ _ _ _ _ r h=>by simp [chattellaw06_wakes.l0] at h
  | k + 1=>by
    have ih0:=chattellaw06_wakes.mono_l k
    · intro y0 y1 y2 y3 y4
      unfold chattellaw06_wakes.l0
      repeat' first
      | (with_reducible exact ih0 _ _ _ _ _)
      | (with_reducible exact frac_Of.mono _ _ _ _ _)
      | (with_reducible exact round_Of.mono _ _)
      | (with_reducible exact round_Scaled.mono _ _ _ _ _ _)
      | (with_reducible exact round_Whole.mono _ _ _ _ _)
      | (with_reducible exact whole_From.mono _ _)
      | (with_reducible exact whole_Int_Print.mono _ _ _)
      | (with_reducible exact LeO.refl _)
      | (with_reducible exact LeO.none _)
      | (with_reducible refine LeO.ite ?_ ?_)
      | (with_reducible refine LeO.bind ?_ (fun _=>?_))
      | exact ih0 _ _ _ _ _
      | exact frac_Of.mono _ _ _ _ _
      | exact round_Of.mono _ _
      | exact round_Scaled.mono _ _ _ _ _ _
      | exact round_Whole.mono _ _ _ _ _
      | exact whole_From.mono _ _
      | exact whole_Int_Print.mono _ _ _
      | exact LeO.none _
      | refine LeO.ite ?_ ?_
      | refine LeO.bind ?_ (fun _=>?_)
theorem chattellaw06_wakes.mono : ∀ k,LeO (chattellaw06_wakes.f k) (chattellaw06_wakes.f (k + 1)):=by
  intro  k
  have ih0:=chattellaw06_wakes.mono_l k
  unfold chattellaw06_wakes.f
  repeat' first
      | (with_reducible exact ih0 _ _ _ _ _)
      | (with_reducible exact frac_Of.mono _ _ _ _ _)
      | (with_reducible exact round_Of.mono _ _)
      | (with_reducible exact round_Scaled.mono _ _ _ _ _ _)
      | (with_reducible exact round_Whole.mono _ _ _ _ _)
      | (with_reducible exact whole_From.mono _ _)
      | (with_reducible exact whole_Int_Print.mono _ _ _)
      | (with_reducible exact LeO.refl _)
      | (with_reducible exact LeO.none _)
      | (with_reducible refine LeO.ite ?_ ?_)
      | (with_reducible refine LeO.bind ?_ (fun _=>?_))
      | exact ih0 _ _ _ _ _
      | exact frac_Of.mono _ _ _ _ _
      | exact round_Of.mono _ _
      | exact round_Scaled.mono _ _ _ _ _ _
      | exact round_Whole.mono _ _ _ _ _
      | exact whole_From.mono _ _
      | exact whole_Int_Print.mono _ _ _
      | exact LeO.none _
      | refine LeO.ite ?_ ?_
      | refine LeO.bind ?_ (fun _=>?_)
mutual
def chattellaw06_RoundTells.l0:Nat→Int→List Int→Int→Int→List Int→Bool→List Int→List Int→Bool→List Int→Option (Bool)
  | 0,_,_,_,_,_,_,_,_,_,_=>none
  | k + 1,x2,x24,x25,x26,x2220000,x2220001,x2220002,x2221000,x2221001,x2221002=>if x26 < x25 then (if 0≤x26 then (if x26 < (x24.length:Int) then ((round_Whole.f k x2220000 x2220001 x2220002 (rd x24 x26)).bind fun bt2226=>((round_Scaled.f k x2220000 x2220001 x2220002 x2 (rd x24 x26)).bind fun bt2232=>(if (rd x24 x26) < 0 then (chattellaw06_RoundTells.j1 k x2 (rd x24 x26) bt2226.2.2 bt2232.2.2 x24 x25 x26 true x2220000 x2220001 x2220002 x2221000 x2221001 x2221002 bt2226.1 bt2226.2.1 bt2232.1 bt2232.2.1) else (chattellaw06_RoundTells.j1 k x2 (rd x24 x26) bt2226.2.2 bt2232.2.2 x24 x25 x26 (decide ((rd x24 x26) > 4)) x2220000 x2220001 x2220002 x2221000 x2221001 x2221002 bt2226.1 bt2226.2.1 bt2232.1 bt2232.2.1)))) else (none)) else (none)) else ((chattellaw06_wakes.f k).bind fun t2224=>(some t2224))
def chattellaw06_RoundTells.j1:Nat→Int→Int→Int→Int→List Int→Int→Int→Bool→List Int→Bool→List Int→List Int→Bool→List Int→List Int→Bool→List Int→Bool→Option (Bool)
  | 0,_,_,_,_,_,_,_,_,_,_,_,_,_,_,_,_,_,_=>none
  | k + 1,x2,x10,x12,x14,x24,x25,x26,x48,x2220000,x2220001,x2220002,x2221000,x2221001,x2221002,x2232000,x2232001,x2238000,x2238001=>if x48=true then (if x12=2 then (if x14=2 then ((whole_Int_Sign.f x2232000 x2232001).bind fun t2238=>(if t2238=0 then ((whole_Int_Sign.f x2238000 x2238001).bind fun t2239=>(if t2239=0 then (chattellaw06_RoundTells.l0 k x2 x24 x25 (wrap64 (x26 + 1)) x2220000 x2220001 x2220002 x2221000 x2221001 x2221002) else (some false))) else (some false))) else (some false)) else (some false)) else (if x12=0 then ((whole_Int_Print.f k x2232000 x2232001).bind fun t2240=>((chattelref06_Whole.f k x2221000 x2221001 x2221002 x10).bind fun bt2241=>((chattelref04_Print.f k bt2241.1 bt2241.2).bind fun t2245=>(chattellaw06_RoundTells.j2 k x2 x10 x14 x24 x25 x26 (t2240.toList != t2245.toList) x2220000 x2220001 x2220002 x2221000 x2221001 x2221002 x2238000 x2238001)))) else (chattellaw06_RoundTells.j2 k x2 x10 x14 x24 x25 x26 true x2220000 x2220001 x2220002 x2221000 x2221001 x2221002 x2238000 x2238001))
def chattellaw06_RoundTells.j2:Nat→Int→Int→Int→List Int→Int→Int→Bool→List Int→Bool→List Int→List Int→Bool→List Int→List Int→Bool→Option (Bool)
  | 0,_,_,_,_,_,_,_,_,_,_,_,_,_,_,_=>none
  | k + 1,x2,x10,x14,x24,x25,x26,x75,x2220000,x2220001,x2220002,x2221000,x2221001,x2221002,x2238000,x2238001=>if x75=true then (some false) else (if x2 < 0 then (chattellaw06_RoundTells.j3 k x2 x10 x14 x24 x25 x26 true x2220000 x2220001 x2220002 x2221000 x2221001 x2221002 x2238000 x2238001) else (chattellaw06_RoundTells.j3 k x2 x10 x14 x24 x25 x26 (decide (x2 > 64)) x2220000 x2220001 x2220002 x2221000 x2221001 x2221002 x2238000 x2238001))
def chattellaw06_RoundTells.j3:Nat→Int→Int→Int→List Int→Int→Int→Bool→List Int→Bool→List Int→List Int→Bool→List Int→List Int→Bool→Option (Bool)
  | 0,_,_,_,_,_,_,_,_,_,_,_,_,_,_,_=>none
  | k + 1,x2,x10,x14,x24,x25,x26,x81,x2220000,x2220001,x2220002,x2221000,x2221001,x2221002,x2238000,x2238001=>if x81=true then (if x14=10 then ((whole_Int_Sign.f x2238000 x2238001).bind fun t2246=>(if t2246=0 then (chattellaw06_RoundTells.l0 k x2 x24 x25 (wrap64 (x26 + 1)) x2220000 x2220001 x2220002 x2221000 x2221001 x2221002) else (some false))) else (some false)) else (if x14=0 then ((whole_Int_Print.f k x2238000 x2238001).bind fun t2247=>((chattelref06_Scaled.f k x2221000 x2221001 x2221002 x2 x10).bind fun bt2248=>((chattelref04_Print.f k bt2248.1 bt2248.2).bind fun t2252=>(if t2247.toList=t2252.toList then (chattellaw06_RoundTells.l0 k x2 x24 x25 (wrap64 (x26 + 1)) x2220000 x2220001 x2220002 x2221000 x2221001 x2221002) else (some false))))) else (some false))
end
def chattellaw06_RoundTells.f (k:Nat) (l0_0:List Int) (l0_1:List Int) (a0_2:Bool) (a1:Int) (a2:Int):Option (Bool):=(chattellaw06_num.f k l0_0 l0_1 a0_2).bind fun bt2205=>((some (([a1,(mx 0 a1) % 5]:List Int):List Int)).bind fun y2221=>(chattellaw06_RoundTells.l0 k a2 y2221 (y2221.length:Int) 0 bt2205.1 bt2205.2.1 bt2205.2.2.1 bt2205.2.2.2.1 bt2205.2.2.2.2.1 bt2205.2.2.2.2.2))
def chattellaw06_RoundTells.Pure:Prop:=∀ (l0_0:List Int) (l0_1:List Int) (a0_2:Bool) (a1:Int) (a2:Int),l0_0.length≤maxLen→l0_0.length * 8≤140737488351232→(∀ x ∈ l0_0,(Lit.int .u64 x).wf=true)→l0_1.length≤maxLen→l0_1.length * 8≤140737488351232→(∀ x ∈ l0_1,(Lit.int .u64 x).wf=true)→(Lit.int .i64 a1).wf=true→(Lit.int .i64 a2).wf=true→∃ k,chattellaw06_RoundTells.f k l0_0 l0_1 a0_2 a1 a2=some true
end Go.Proofs.Ytkoccekiojhidaa.F
