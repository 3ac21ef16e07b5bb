import Derived.ArgAppend
import Derived.Below
import Derived.BigQuiet
import Derived.Deep.AppendLies
import Derived.Deep.CutBlock
import Derived.Deep.DeepCutAuto
import Derived.Deep.Draws
import Derived.Deep.LoopGhost
import Derived.Deep.OwnRows
import Derived.Deep.QuietTactic
import Derived.Deep.RegionHeld3
import Derived.KernelRfl
import Derived.Laws.BitsLemmas
import Derived.Laws.BytesArg
import Derived.Laws.IdiomCopy
import Derived.Laws.MakeOwn
import Derived.Laws.OwnMore
import Derived.Laws.Rows
import Derived.Laws.Slices
import Derived.Lib.AppendStr
import Derived.Lib.ConvBytes
import Derived.Maps.AppendAt
import Derived.OrdersHeld
import Derived.OwnWalk
import Derived.RowKit
import Derived.RowKit3
import Derived.Tactics
import Derived.Test.YtiikhhemgplocaaProg
import Derived.Test.YtiikhhemgplocaaC0efWApart
import Derived.Test.YtiikhhemgplocaaC0efWArr
import Derived.Test.YtiikhhemgplocaaC0efWN
import Derived.Test.YtiikhhemgplocaaC0efWWords
import Derived.Laws.StructEq
import Derived.Test.YtiikhhemgplocaaC0efWFoot
import Derived.Test.YtiikhhemgplocaaC0efWLast
import Derived.Test.YtiikhhemgplocaaC0efWKept
import Derived.Test.YtiikhhemgplocaaC0efWMore
import Derived.Test.YtiikhhemgplocaaC0efWRepsOne
import Derived.Test.YtiikhhemgplocaaC0efWShare
import Derived.Test.YtiikhhemgplocaaC0efX
import Derived.WalkKit
import Derived.WideLaws
namespace Go.Proofs.Ytiikhhemgplocaa.F
open Go.RowKit Go.Proofs.YtiikhhemgplocaaW.PrintWords Go.Proofs.YtiikhhemgplocaaW.PrintLast Go.Proofs.YtiikhhemgplocaaW.PrintMore Go.Proofs.YtiikhhemgplocaaX
set_option linter.unusedVariables false
set_option linter.unusedSimpArgs false
structure S24 where
  f0:(List Int)
def z24:S24:=⟨([]:List Int)⟩
structure S26 where
  f0:S24
  f1:Bool
def z26:S26:=⟨z24,false⟩
structure S28 where
  f0:S26
  f1:S24
def z28:S28:=⟨z26,z24⟩
def rd_T28 (xs:List S28) (i:Int):S28:=xs.getD i.toNat z28
structure S31 where
  f0:(List Int)
  f1:Bool
structure S33 where
  f0:S31
  f1:(List Int)
def whole_Int_Abs.f (l0_0:List Int) (a0_1:Bool):Option (List Int):=some l0_0
def nat_Nat_Zero.f (l0_0:List Int):Option (Bool):=some ((l0_0.length:Int) == 0)
def whole_Int_Sign.f (l0_0:List Int) (a0_1:Bool):Option (Int):=(nat_Nat_Zero.f l0_0).bind fun t105=>(if t105=true then (some 0) else (if a0_1=true then (some (-1)) else (some 1)))
def whole_Of.f (l0_0:List Int) (a1:Bool):Option (List Int×Bool):=if a1=true then ((nat_Nat_Zero.f l0_0).bind fun t108=>(some (l0_0,!t108))) else (some (l0_0,false))
def nat_trimmed.l0:Nat→List Int→Int→Option (List Int)
  | 0,_,_=>none
  | k + 1,x0,x3=>if x3 > 0 then (if 0≤(wrap64 (x3 - 1)) then (if (wrap64 (x3 - 1)) < (x0.length:Int) then (if (rd x0 (wrap64 (x3 - 1)))=0 then (nat_trimmed.l0 k x0 (wrap64 (x3 - 1))) else (if 0≤x3 then (if x3≤(x0.length:Int) then (some (x0.take (x3:Int).toNat)) else (none)) else (none))) else (none)) else (none)) else (if 0≤x3 then (if x3≤(x0.length:Int) then (some (x0.take (x3:Int).toNat)) else (none)) else (none))
def nat_trimmed.f (k:Nat) (l0:List Int):Option (List Int):=nat_trimmed.l0 k l0 (l0.length:Int)
theorem nat_trimmed.mono_l : ∀ k,(∀ y0 y1,LeO (nat_trimmed.l0 k y0 y1) (nat_trimmed.l0 (k + 1) y0 y1))
  | 0=>fun _ _ r h=>by simp [nat_trimmed.l0] at h
  | k + 1=>by
    have ih0:=nat_trimmed.mono_l k
    · intro y0 y1
      unfold nat_trimmed.l0
      repeat' first
      | (with_reducible exact ih0 _ _)
      | (with_reducible exact LeO.refl _)
      | (with_reducible exact LeO.none _)
      | (with_reducible refine LeO.ite ?_ ?_)
      | (with_reducible refine LeO.bind ?_ (fun _=>?_))
      | exact ih0 _ _
      | exact LeO.none _
      | refine LeO.ite ?_ ?_
      | refine LeO.bind ?_ (fun _=>?_)
theorem nat_trimmed.mono : ∀ a0 k,LeO (nat_trimmed.f k a0) (nat_trimmed.f (k + 1) a0):=by
  intro a0 k
  have ih0:=nat_trimmed.mono_l k
  unfold nat_trimmed.f
  repeat' first
      | (with_reducible exact ih0 _ _)
      | (with_reducible exact LeO.refl _)
      | (with_reducible exact LeO.none _)
      | (with_reducible refine LeO.ite ?_ ?_)
      | (with_reducible refine LeO.bind ?_ (fun _=>?_))
      | exact ih0 _ _
      | exact LeO.none _
      | refine LeO.ite ?_ ?_
      | refine LeO.bind ?_ (fun _=>?_)
def slices_Clone_uint64_uint64.f (l0:List Int):Option (List Int):=(some (([]:List Int):List Int)).bind fun y121=>(if y121.length + l0.length < 17592186044416 then (some (y121 ++ l0)) else (none))
def nat_Of.f (k:Nat) (l0:List Int):Option (List Int):=(slices_Clone_uint64_uint64.f l0).bind fun t128=>((nat_trimmed.f k t128).bind fun t131=>(some t131))
theorem nat_Of.mono : ∀ a0 k,LeO (nat_Of.f k a0) (nat_Of.f (k + 1) a0):=by
  intro a0 k
  unfold nat_Of.f
  repeat' first
      | (with_reducible exact nat_trimmed.mono _ _)
      | (with_reducible exact LeO.refl _)
      | (with_reducible exact LeO.none _)
      | (with_reducible refine LeO.ite ?_ ?_)
      | (with_reducible refine LeO.bind ?_ (fun _=>?_))
      | exact nat_trimmed.mono _ _
      | exact LeO.none _
      | refine LeO.ite ?_ ?_
      | refine LeO.bind ?_ (fun _=>?_)
def nat_Nat_limb.f (l0_0:List Int) (a1:Int):Option (Int):=if a1 ≥ (l0_0.length:Int) then (some 0) else (if 0≤a1 then (if a1 < (l0_0.length:Int) then (some (rd l0_0 a1)) else (none)) else (none))
def cmp_isNaN_int.f (a0:Int):Option (Bool):=some (a0 != a0)
def cmp_Compare_int.f (a0:Int) (a1:Int):Option (Int):=(cmp_isNaN_int.f a0).bind fun t136=>((cmp_isNaN_int.f a1).bind fun t137=>(if t136=true then (if t137=true then (some 0) else (some (-1))) else (if t137=true then (some 1) else (if a0 < a1 then (some (-1)) else (if a0 > a1 then (some 1) else (some 0))))))
def cmp_isNaN_uint64.f (a0:Int):Option (Bool):=some (a0 != a0)
def cmp_Compare_uint64.f (a0:Int) (a1:Int):Option (Int):=(cmp_isNaN_uint64.f a0).bind fun t138=>((cmp_isNaN_uint64.f a1).bind fun t139=>(if t138=true then (if t139=true then (some 0) else (some (-1))) else (if t139=true then (some 1) else (if a0 < a1 then (some (-1)) else (if a0 > a1 then (some 1) else (some 0))))))
def nat_Nat_Cmp.l0:Nat→Int→List Int→List Int→Option (Int)
  | 0,_,_,_=>none
  | k + 1,x6,x141000,x142000=>if x6 ≥ 0 then (if 0≤x6 then (if x6 < (x141000.length:Int) then (if x6 < (x142000.length:Int) then ((cmp_Compare_uint64.f (rd x141000 x6) (rd x142000 x6)).bind fun t145=>(if t145=0 then (nat_Nat_Cmp.l0 k (wrap64 (x6 - 1)) x141000 x142000) else (some t145))) else (none)) else (none)) else (none)) else (some 0)
def nat_Nat_Cmp.f (k:Nat) (l0_0:List Int) (l1_0:List Int):Option (Int):=(cmp_Compare_int.f (l0_0.length:Int) (l1_0.length:Int)).bind fun t142=>(if t142=0 then (nat_Nat_Cmp.l0 k (wrap64 ((l0_0.length:Int) - 1)) l0_0 l1_0) else (some t142))
theorem nat_Nat_Cmp.mono_l : ∀ k,(∀ y0 y1 y2,LeO (nat_Nat_Cmp.l0 k y0 y1 y2) (nat_Nat_Cmp.l0 (k + 1) y0 y1 y2))
  | 0=>fun _ _ _ r h=>by simp [nat_Nat_Cmp.l0] at h
  | k + 1=>by
    have ih0:=nat_Nat_Cmp.mono_l k
    · intro y0 y1 y2
      unfold nat_Nat_Cmp.l0
      repeat' first
      | (with_reducible exact ih0 _ _ _)
      | (with_reducible exact LeO.refl _)
      | (with_reducible exact LeO.none _)
      | (with_reducible refine LeO.ite ?_ ?_)
      | (with_reducible refine LeO.bind ?_ (fun _=>?_))
      | exact ih0 _ _ _
      | exact LeO.none _
      | refine LeO.ite ?_ ?_
      | refine LeO.bind ?_ (fun _=>?_)
theorem nat_Nat_Cmp.mono : ∀ a0 a1 k,LeO (nat_Nat_Cmp.f k a0 a1) (nat_Nat_Cmp.f (k + 1) a0 a1):=by
  intro a0 a1 k
  have ih0:=nat_Nat_Cmp.mono_l k
  unfold nat_Nat_Cmp.f
  repeat' first
      | (with_reducible exact ih0 _ _ _)
      | (with_reducible exact LeO.refl _)
      | (with_reducible exact LeO.none _)
      | (with_reducible refine LeO.ite ?_ ?_)
      | (with_reducible refine LeO.bind ?_ (fun _=>?_))
      | exact ih0 _ _ _
      | exact LeO.none _
      | refine LeO.ite ?_ ?_
      | refine LeO.bind ?_ (fun _=>?_)
def nat_Nat_Sub.l0:Nat→List Int→Int→Int→Int→List Int→List Int→Option (List Int×Bool)
  | 0,_,_,_,_,_,_=>none
  | k + 1,x6,x7,x19,x20,x147000,x148000=>if x20 < x19 then (if 0≤x20 then (if x20 < (x147000.length:Int) then ((nat_Nat_limb.f x148000 x20).bind fun t154=>(if x7≤1 then (if x20 < (x6.length:Int) then (nat_Nat_Sub.l0 k (x6.set (x20:Int).toNat (sub64d (rd x147000 x20) t154 x7)) (sub64b (rd x147000 x20) t154 x7) x19 (wrap64 (x20 + 1)) x147000 x148000) else (none)) else (none))) else (none)) else (none)) else ((nat_trimmed.f k x6).bind fun t156=>(some (t156,true)))
def nat_Nat_Sub.f (k:Nat) (l0_0:List Int) (l1_0:List Int):Option (List Int×Bool):=(nat_Nat_Cmp.f k l0_0 l1_0).bind fun t149=>(if t149 < 0 then (some (([]:List Int),false)) else (if 0≤(l0_0.length:Int) then (if ((l0_0.length:Int):Int).toNat≤35184372088832 then ((some (List.replicate ((l0_0.length:Int):Int).toNat 0:List Int)).bind fun y150=>(nat_Nat_Sub.l0 k y150 0 (y150.length:Int) 0 l0_0 l1_0)) else (none)) else (none)))
theorem nat_Nat_Sub.mono_l : ∀ k,(∀ y0 y1 y2 y3 y4 y5,LeO (nat_Nat_Sub.l0 k y0 y1 y2 y3 y4 y5) (nat_Nat_Sub.l0 (k + 1) y0 y1 y2 y3 y4 y5))
  | 0=>fun _ _ _ _ _ _ r h=>by simp [nat_Nat_Sub.l0] at h
  | k + 1=>by
    have ih0:=nat_Nat_Sub.mono_l k
    · intro y0 y1 y2 y3 y4 y5
      unfold nat_Nat_Sub.l0
      repeat' first
      | (with_reducible exact ih0 _ _ _ _ _ _)
      | (with_reducible exact nat_Nat_Cmp.mono _ _ _)
      | (with_reducible exact nat_trimmed.mono _ _)
      | (with_reducible exact LeO.refl _)
      | (with_reducible exact LeO.none _)
      | (with_reducible refine LeO.ite ?_ ?_)
      | (with_reducible refine LeO.bind ?_ (fun _=>?_))
      | exact ih0 _ _ _ _ _ _
      | exact nat_Nat_Cmp.mono _ _ _
      | exact nat_trimmed.mono _ _
      | exact LeO.none _
      | refine LeO.ite ?_ ?_
      | refine LeO.bind ?_ (fun _=>?_)
theorem nat_Nat_Sub.mono : ∀ a0 a1 k,LeO (nat_Nat_Sub.f k a0 a1) (nat_Nat_Sub.f (k + 1) a0 a1):=by
  intro a0 a1 k
  have ih0:=nat_Nat_Sub.mono_l k
  unfold nat_Nat_Sub.f
  repeat' first
      | (with_reducible exact ih0 _ _ _ _ _ _)
      | (with_reducible exact nat_Nat_Cmp.mono _ _ _)
      | (with_reducible exact nat_trimmed.mono _ _)
      | (with_reducible exact LeO.refl _)
      | (with_reducible exact LeO.none _)
      | (with_reducible refine LeO.ite ?_ ?_)
      | (with_reducible refine LeO.bind ?_ (fun _=>?_))
      | exact ih0 _ _ _ _ _ _
      | exact nat_Nat_Cmp.mono _ _ _
      | exact nat_trimmed.mono _ _
      | exact LeO.none _
      | refine LeO.ite ?_ ?_
      | refine LeO.bind ?_ (fun _=>?_)
def nat_Nat_Limbs.f (l0_0:List Int):Option (List Int):=(slices_Clone_uint64_uint64.f l0_0).bind fun t160=>(some t160)
def bits_Len64.j0:Nat→Int→Int→Option (Int)
  | 0,_,_=>none
  | k + 1,x0,x2=>if x0 ≥ 65536 then (if (x0 / 65536) ≥ 256 then (if 0≤(((x0 / 65536) / 256) % 256) then (if (((x0 / 65536) / 256) % 256) < 256 then (some (wrap64 ((wrap64 ((wrap64 (x2 + 16)) + 8)) + (wrap64 (bt (⟨#[0,1,2,2,3,3,3,3,4,4,4,4,4,4,4,4,5,5,5,5,5,5,5,5,5,5,5,5,5,5,5,5,6,6,6,6,6,6,6,6,6,6,6,6,6,6,6,6,6,6,6,6,6,6,6,6,6,6,6,6,6,6,6,6,7,7,7,7,7,7,7,7,7,7,7,7,7,7,7,7,7,7,7,7,7,7,7,7,7,7,7,7,7,7,7,7,7,7,7,7,7,7,7,7,7,7,7,7,7,7,7,7,7,7,7,7,7,7,7,7,7,7,7,7,7,7,7,7,8,8,8,8,8,8,8,8,8,8,8,8,8,8,8,8,8,8,8,8,8,8,8,8,8,8,8,8,8,8,8,8,8,8,8,8,8,8,8,8,8,8,8,8,8,8,8,8,8,8,8,8,8,8,8,8,8,8,8,8,8,8,8,8,8,8,8,8,8,8,8,8,8,8,8,8,8,8,8,8,8,8,8,8,8,8,8,8,8,8,8,8,8,8,8,8,8,8,8,8,8,8,8,8,8,8,8,8,8,8,8,8,8,8,8,8,8,8,8,8,8,8,8,8,8,8,8,8]⟩:ByteArray) (((x0 / 65536) / 256) % 256)))))) else (none)) else (none)) else (if 0≤((x0 / 65536) % 256) then (if ((x0 / 65536) % 256) < 256 then (some (wrap64 ((wrap64 (x2 + 16)) + (wrap64 (bt (⟨#[0,1,2,2,3,3,3,3,4,4,4,4,4,4,4,4,5,5,5,5,5,5,5,5,5,5,5,5,5,5,5,5,6,6,6,6,6,6,6,6,6,6,6,6,6,6,6,6,6,6,6,6,6,6,6,6,6,6,6,6,6,6,6,6,7,7,7,7,7,7,7,7,7,7,7,7,7,7,7,7,7,7,7,7,7,7,7,7,7,7,7,7,7,7,7,7,7,7,7,7,7,7,7,7,7,7,7,7,7,7,7,7,7,7,7,7,7,7,7,7,7,7,7,7,7,7,7,7,8,8,8,8,8,8,8,8,8,8,8,8,8,8,8,8,8,8,8,8,8,8,8,8,8,8,8,8,8,8,8,8,8,8,8,8,8,8,8,8,8,8,8,8,8,8,8,8,8,8,8,8,8,8,8,8,8,8,8,8,8,8,8,8,8,8,8,8,8,8,8,8,8,8,8,8,8,8,8,8,8,8,8,8,8,8,8,8,8,8,8,8,8,8,8,8,8,8,8,8,8,8,8,8,8,8,8,8,8,8,8,8,8,8,8,8,8,8,8,8,8,8,8,8,8,8,8,8]⟩:ByteArray) ((x0 / 65536) % 256)))))) else (none)) else (none))) else (if x0 ≥ 256 then (if 0≤((x0 / 256) % 256) then (if ((x0 / 256) % 256) < 256 then (some (wrap64 ((wrap64 (x2 + 8)) + (wrap64 (bt (⟨#[0,1,2,2,3,3,3,3,4,4,4,4,4,4,4,4,5,5,5,5,5,5,5,5,5,5,5,5,5,5,5,5,6,6,6,6,6,6,6,6,6,6,6,6,6,6,6,6,6,6,6,6,6,6,6,6,6,6,6,6,6,6,6,6,7,7,7,7,7,7,7,7,7,7,7,7,7,7,7,7,7,7,7,7,7,7,7,7,7,7,7,7,7,7,7,7,7,7,7,7,7,7,7,7,7,7,7,7,7,7,7,7,7,7,7,7,7,7,7,7,7,7,7,7,7,7,7,7,8,8,8,8,8,8,8,8,8,8,8,8,8,8,8,8,8,8,8,8,8,8,8,8,8,8,8,8,8,8,8,8,8,8,8,8,8,8,8,8,8,8,8,8,8,8,8,8,8,8,8,8,8,8,8,8,8,8,8,8,8,8,8,8,8,8,8,8,8,8,8,8,8,8,8,8,8,8,8,8,8,8,8,8,8,8,8,8,8,8,8,8,8,8,8,8,8,8,8,8,8,8,8,8,8,8,8,8,8,8,8,8,8,8,8,8,8,8,8,8,8,8,8,8,8,8,8,8]⟩:ByteArray) ((x0 / 256) % 256)))))) else (none)) else (none)) else (if 0≤((x0) % 256) then (if ((x0) % 256) < 256 then (some (wrap64 (x2 + (wrap64 (bt (⟨#[0,1,2,2,3,3,3,3,4,4,4,4,4,4,4,4,5,5,5,5,5,5,5,5,5,5,5,5,5,5,5,5,6,6,6,6,6,6,6,6,6,6,6,6,6,6,6,6,6,6,6,6,6,6,6,6,6,6,6,6,6,6,6,6,7,7,7,7,7,7,7,7,7,7,7,7,7,7,7,7,7,7,7,7,7,7,7,7,7,7,7,7,7,7,7,7,7,7,7,7,7,7,7,7,7,7,7,7,7,7,7,7,7,7,7,7,7,7,7,7,7,7,7,7,7,7,7,7,8,8,8,8,8,8,8,8,8,8,8,8,8,8,8,8,8,8,8,8,8,8,8,8,8,8,8,8,8,8,8,8,8,8,8,8,8,8,8,8,8,8,8,8,8,8,8,8,8,8,8,8,8,8,8,8,8,8,8,8,8,8,8,8,8,8,8,8,8,8,8,8,8,8,8,8,8,8,8,8,8,8,8,8,8,8,8,8,8,8,8,8,8,8,8,8,8,8,8,8,8,8,8,8,8,8,8,8,8,8,8,8,8,8,8,8,8,8,8,8,8,8,8,8,8,8,8,8]⟩:ByteArray) ((x0) % 256)))))) else (none)) else (none)))
def bits_Len64.f (k:Nat) (a0:Int):Option (Int):=if a0 ≥ 4294967296 then (bits_Len64.j0 k (a0 / 4294967296) 32) else (bits_Len64.j0 k a0 0)
theorem bits_Len64.mono_l : ∀ k,(∀ y0 y1,LeO (bits_Len64.j0 k y0 y1) (bits_Len64.j0 (k + 1) y0 y1))
  | 0=>fun _ _ r h=>by simp [bits_Len64.j0] at h
  | k + 1=>by
    have ih0:=bits_Len64.mono_l k
    · intro y0 y1
      unfold bits_Len64.j0
      repeat' first
      | (with_reducible exact ih0 _ _)
      | (with_reducible exact LeO.refl _)
      | (with_reducible exact LeO.none _)
      | (with_reducible refine LeO.ite ?_ ?_)
      | (with_reducible refine LeO.bind ?_ (fun _=>?_))
      | exact ih0 _ _
      | exact LeO.none _
      | refine LeO.ite ?_ ?_
      | refine LeO.bind ?_ (fun _=>?_)
theorem bits_Len64.mono : ∀ a0 k,LeO (bits_Len64.f k a0) (bits_Len64.f (k + 1) a0):=by
  intro a0 k
  have ih0:=bits_Len64.mono_l k
  unfold bits_Len64.f
  repeat' first
      | (with_reducible exact ih0 _ _)
      | (with_reducible exact LeO.refl _)
      | (with_reducible exact LeO.none _)
      | (with_reducible refine LeO.ite ?_ ?_)
      | (with_reducible refine LeO.bind ?_ (fun _=>?_))
      | exact ih0 _ _
      | exact LeO.none _
      | refine LeO.ite ?_ ?_
      | refine LeO.bind ?_ (fun _=>?_)
def bits_LeadingZeros64.f (k:Nat) (a0:Int):Option (Int):=(bits_Len64.f k a0).bind fun t163=>(some (wrap64 (64 - t163)))
theorem bits_LeadingZeros64.mono : ∀ a0 k,LeO (bits_LeadingZeros64.f k a0) (bits_LeadingZeros64.f (k + 1) a0):=by
  intro a0 k
  unfold bits_LeadingZeros64.f
  repeat' first
      | (with_reducible exact bits_Len64.mono _ _)
      | (with_reducible exact LeO.refl _)
      | (with_reducible exact LeO.none _)
      | (with_reducible refine LeO.ite ?_ ?_)
      | (with_reducible refine LeO.bind ?_ (fun _=>?_))
      | exact bits_Len64.mono _ _
      | exact LeO.none _
      | refine LeO.ite ?_ ?_
      | refine LeO.bind ?_ (fun _=>?_)
mutual
def bits_Div64.j2:Nat→Int→Int→Int→Int→Int→Int→Int→Int→Option (Int×Int)
  | 0,_,_,_,_,_,_,_,_=>none
  | k + 1,x2,x8,x9,x10,x11,x13,x14,x15=>if x9=0 then (none) else (bits_Div64.l1 k x2 x8 x9 x10 x14 x15 (IntKind.u64.wrap ((IntKind.u64.wrap ((IntKind.u64.wrap ((IntKind.u64.wrap (x11 * 4294967296)) + x13)) - (IntKind.u64.wrap (x15 * x2)))) - (IntKind.u64.wrap ((IntKind.u64.wrap (Int.tdiv (IntKind.u64.wrap ((IntKind.u64.wrap ((IntKind.u64.wrap (x11 * 4294967296)) + x13)) - (IntKind.u64.wrap (x15 * x2)))) x9)) * x9)))) (IntKind.u64.wrap ((IntKind.u64.wrap ((IntKind.u64.wrap (x11 * 4294967296)) + x13)) - (IntKind.u64.wrap (x15 * x2)))) (IntKind.u64.wrap (Int.tdiv (IntKind.u64.wrap ((IntKind.u64.wrap ((IntKind.u64.wrap (x11 * 4294967296)) + x13)) - (IntKind.u64.wrap (x15 * x2)))) x9)))
def bits_Div64.l1:Nat→Int→Int→Int→Int→Int→Int→Int→Int→Int→Option (Int×Int)
  | 0,_,_,_,_,_,_,_,_,_=>none
  | k + 1,x2,x8,x9,x10,x14,x15,x16,x17,x18=>if x18 ≥ 4294967296 then (bits_Div64.j4 k x2 x8 x9 x10 x14 x15 x16 x17 x18 true) else (bits_Div64.j4 k x2 x8 x9 x10 x14 x15 x16 x17 x18 (decide ((IntKind.u64.wrap (x18 * x10)) > (IntKind.u64.wrap ((IntKind.u64.wrap (4294967296 * x16)) + x14)))))
def bits_Div64.j4:Nat→Int→Int→Int→Int→Int→Int→Int→Int→Int→Bool→Option (Int×Int)
  | 0,_,_,_,_,_,_,_,_,_,_=>none
  | k + 1,x2,x8,x9,x10,x14,x15,x16,x17,x18,x113=>if x113=true then (if (IntKind.u64.wrap (x16 + x9)) ≥ 4294967296 then (if 0≤x8 then (some (IntKind.u64.wrap ((IntKind.u64.wrap (x15 * 4294967296)) + (IntKind.u64.wrap (x18 - 1))),shr .u64 (IntKind.u64.wrap ((IntKind.u64.wrap ((IntKind.u64.wrap (x17 * 4294967296)) + x14)) - (IntKind.u64.wrap ((IntKind.u64.wrap (x18 - 1)) * x2)))) x8)) else (none)) else (bits_Div64.l1 k x2 x8 x9 x10 x14 x15 (IntKind.u64.wrap (x16 + x9)) x17 (IntKind.u64.wrap (x18 - 1)))) else (if 0≤x8 then (some (IntKind.u64.wrap ((IntKind.u64.wrap (x15 * 4294967296)) + x18),shr .u64 (IntKind.u64.wrap ((IntKind.u64.wrap ((IntKind.u64.wrap (x17 * 4294967296)) + x14)) - (IntKind.u64.wrap (x18 * x2)))) x8)) else (none))
def bits_Div64.l0:Nat→Int→Int→Int→Int→Int→Int→Int→Int→Int→Option (Int×Int)
  | 0,_,_,_,_,_,_,_,_,_=>none
  | k + 1,x2,x8,x9,x10,x11,x13,x14,x15,x16=>if x15 ≥ 4294967296 then (bits_Div64.j1 k x2 x8 x9 x10 x11 x13 x14 x15 x16 true) else (bits_Div64.j1 k x2 x8 x9 x10 x11 x13 x14 x15 x16 (decide ((IntKind.u64.wrap (x15 * x10)) > (IntKind.u64.wrap ((IntKind.u64.wrap (4294967296 * x16)) + x13)))))
def bits_Div64.j1:Nat→Int→Int→Int→Int→Int→Int→Int→Int→Int→Bool→Option (Int×Int)
  | 0,_,_,_,_,_,_,_,_,_,_=>none
  | k + 1,x2,x8,x9,x10,x11,x13,x14,x15,x16,x78=>if x78=true then (if (IntKind.u64.wrap (x16 + x9)) ≥ 4294967296 then (bits_Div64.j2 k x2 x8 x9 x10 x11 x13 x14 (IntKind.u64.wrap (x15 - 1))) else (bits_Div64.l0 k x2 x8 x9 x10 x11 x13 x14 (IntKind.u64.wrap (x15 - 1)) (IntKind.u64.wrap (x16 + x9)))) else (bits_Div64.j2 k x2 x8 x9 x10 x11 x13 x14 x15)
end
def bits_Div64.f (k:Nat) (a0:Int) (a1:Int) (a2:Int):Option (Int×Int):=if a2=0 then (none) else (if a2≤a0 then (none) else (if a0=0 then (some (IntKind.u64.wrap (Int.tdiv a1 a2),Int.tmod a1 a2)) else ((bits_LeadingZeros64.f k a2).bind fun t164=>(if 0≤(IntKind.u64.wrap (t164)) then (if 0≤(IntKind.u64.wrap (64 - (IntKind.u64.wrap (t164)))) then (if ((shl .u64 a2 (IntKind.u64.wrap (t164))) / 4294967296)=0 then (none) else (bits_Div64.l0 k (shl .u64 a2 (IntKind.u64.wrap (t164))) (IntKind.u64.wrap (t164)) ((shl .u64 a2 (IntKind.u64.wrap (t164))) / 4294967296) (Go.bits .and .u64 (shl .u64 a2 (IntKind.u64.wrap (t164))) 4294967295) (Go.bits .or .u64 (shl .u64 a0 (IntKind.u64.wrap (t164))) (shr .u64 a1 (IntKind.u64.wrap (64 - (IntKind.u64.wrap (t164)))))) ((shl .u64 a1 (IntKind.u64.wrap (t164))) / 4294967296) (Go.bits .and .u64 (shl .u64 a1 (IntKind.u64.wrap (t164))) 4294967295) (IntKind.u64.wrap (Int.tdiv (Go.bits .or .u64 (shl .u64 a0 (IntKind.u64.wrap (t164))) (shr .u64 a1 (IntKind.u64.wrap (64 - (IntKind.u64.wrap (t164)))))) ((shl .u64 a2 (IntKind.u64.wrap (t164))) / 4294967296))) (IntKind.u64.wrap ((Go.bits .or .u64 (shl .u64 a0 (IntKind.u64.wrap (t164))) (shr .u64 a1 (IntKind.u64.wrap (64 - (IntKind.u64.wrap (t164)))))) - (IntKind.u64.wrap ((IntKind.u64.wrap (Int.tdiv (Go.bits .or .u64 (shl .u64 a0 (IntKind.u64.wrap (t164))) (shr .u64 a1 (IntKind.u64.wrap (64 - (IntKind.u64.wrap (t164)))))) ((shl .u64 a2 (IntKind.u64.wrap (t164))) / 4294967296))) * ((shl .u64 a2 (IntKind.u64.wrap (t164))) / 4294967296))))))) else (none)) else (none)))))
theorem bits_Div64.mono_l : ∀ k,(∀ y0 y1 y2 y3 y4 y5 y6 y7,LeO (bits_Div64.j2 k y0 y1 y2 y3 y4 y5 y6 y7) (bits_Div64.j2 (k + 1) y0 y1 y2 y3 y4 y5 y6 y7))∧(∀ y0 y1 y2 y3 y4 y5 y6 y7 y8,LeO (bits_Div64.l1 k y0 y1 y2 y3 y4 y5 y6 y7 y8) (bits_Div64.l1 (k + 1) y0 y1 y2 y3 y4 y5 y6 y7 y8))∧(∀ y0 y1 y2 y3 y4 y5 y6 y7 y8 y9,LeO (bits_Div64.j4 k y0 y1 y2 y3 y4 y5 y6 y7 y8 y9) (bits_Div64.j4 (k + 1) y0 y1 y2 y3 y4 y5 y6 y7 y8 y9))∧(∀ y0 y1 y2 y3 y4 y5 y6 y7 y8,LeO (bits_Div64.l0 k y0 y1 y2 y3 y4 y5 y6 y7 y8) (bits_Div64.l0 (k + 1) y0 y1 y2 y3 y4 y5 y6 y7 y8))∧(∀ y0 y1 y2 y3 y4 y5 y6 y7 y8 y9,LeO (bits_Div64.j1 k y0 y1 y2 y3 y4 y5 y6 y7 y8 y9) (bits_Div64.j1 (k + 1) y0 y1 y2 y3 y4 y5 y6 y7 y8 y9))
  | 0=>⟨fun _ _ _ _ _ _ _ _ r h=>by simp [bits_Div64.j2] at h,fun _ _ _ _ _ _ _ _ _ r h=>by simp [bits_Div64.l1] at h,fun _ _ _ _ _ _ _ _ _ _ r h=>by simp [bits_Div64.j4] at h,fun _ _ _ _ _ _ _ _ _ r h=>by simp [bits_Div64.l0] at h,fun _ _ _ _ _ _ _ _ _ _ r h=>by simp [bits_Div64.j1] at h⟩
  | k + 1=>by
    obtain ⟨ih0,ih1,ih2,ih3,ih4⟩:=bits_Div64.mono_l k
    refine ⟨?_,?_,?_,?_,?_⟩
    · intro y0 y1 y2 y3 y4 y5 y6 y7
      unfold bits_Div64.j2
      repeat' first
      | (with_reducible exact ih0 _ _ _ _ _ _ _ _)
      | (with_reducible exact ih1 _ _ _ _ _ _ _ _ _)
      | (with_reducible exact ih2 _ _ _ _ _ _ _ _ _ _)
      | (with_reducible exact ih3 _ _ _ _ _ _ _ _ _)
      | (with_reducible exact ih4 _ _ _ _ _ _ _ _ _ _)
      | (with_reducible exact bits_LeadingZeros64.mono _ _)
      | (with_reducible exact LeO.refl _)
      | (with_reducible exact LeO.none _)
      | (with_reducible refine LeO.ite ?_ ?_)
      | (with_reducible refine LeO.bind ?_ (fun _=>?_))
      | exact ih0 _ _ _ _ _ _ _ _
      | exact ih1 _ _ _ _ _ _ _ _ _
      | exact ih2 _ _ _ _ _ _ _ _ _ _
      | exact ih3 _ _ _ _ _ _ _ _ _
      | exact ih4 _ _ _ _ _ _ _ _ _ _
      | exact bits_LeadingZeros64.mono _ _
      | exact LeO.none _
      | refine LeO.ite ?_ ?_
      | refine LeO.bind ?_ (fun _=>?_)
    · intro y0 y1 y2 y3 y4 y5 y6 y7 y8
      unfold bits_Div64.l1
      repeat' first
      | (with_reducible exact ih0 _ _ _ _ _ _ _ _)
      | (with_reducible exact ih1 _ _ _ _ _ _ _ _ _)
      | (with_reducible exact ih2 _ _ _ _ _ _ _ _ _ _)
      | (with_reducible exact ih3 _ _ _ _ _ _ _ _ _)
      | (with_reducible exact ih4 _ _ _ _ _ _ _ _ _ _)
      | (with_reducible exact bits_LeadingZeros64.mono _ _)
      | (with_reducible exact LeO.refl _)
      | (with_reducible exact LeO.none _)
      | (with_reducible refine LeO.ite ?_ ?_)
      | (with_reducible refine LeO.bind ?_ (fun _=>?_))
      | exact ih0 _ _ _ _ _ _ _ _
      | exact ih1 _ _ _ _ _ _ _ _ _
      | exact ih2 _ _ _ _ _ _ _ _ _ _
      | exact ih3 _ _ _ _ _ _ _ _ _
      | exact ih4 _ _ _ _ _ _ _ _ _ _
      | exact bits_LeadingZeros64.mono _ _
      | exact LeO.none _
      | refine LeO.ite ?_ ?_
      | refine LeO.bind ?_ (fun _=>?_)
    · intro y0 y1 y2 y3 y4 y5 y6 y7 y8 y9
      unfold bits_Div64.j4
      repeat' first
      | (with_reducible exact ih0 _ _ _ _ _ _ _ _)
      | (with_reducible exact ih1 _ _ _ _ _ _ _ _ _)
      | (with_reducible exact ih2 _ _ _ _ _ _ _ _ _ _)
      | (with_reducible exact ih3 _ _ _ _ _ _ _ _ _)
      | (with_reducible exact ih4 _ _ _ _ _ _ _ _ _ _)
      | (with_reducible exact bits_LeadingZeros64.mono _ _)
      | (with_reducible exact LeO.refl _)
      | (with_reducible exact LeO.none _)
      | (with_reducible refine LeO.ite ?_ ?_)
      | (with_reducible refine LeO.bind ?_ (fun _=>?_))
      | exact ih0 _ _ _ _ _ _ _ _
      | exact ih1 _ _ _ _ _ _ _ _ _
      | exact ih2 _ _ _ _ _ _ _ _ _ _
      | exact ih3 _ _ _ _ _ _ _ _ _
      | exact ih4 _ _ _ _ _ _ _ _ _ _
      | exact bits_LeadingZeros64.mono _ _
      | exact LeO.none _
      | refine LeO.ite ?_ ?_
      | refine LeO.bind ?_ (fun _=>?_)
    · intro y0 y1 y2 y3 y4 y5 y6 y7 y8
      unfold bits_Div64.l0
      repeat' first
      | (with_reducible exact ih0 _ _ _ _ _ _ _ _)
      | (with_reducible exact ih1 _ _ _ _ _ _ _ _ _)
      | (with_reducible exact ih2 _ _ _ _ _ _ _ _ _ _)
      | (with_reducible exact ih3 _ _ _ _ _ _ _ _ _)
      | (with_reducible exact ih4 _ _ _ _ _ _ _ _ _ _)
      | (with_reducible exact bits_LeadingZeros64.mono _ _)
      | (with_reducible exact LeO.refl _)
      | (with_reducible exact LeO.none _)
      | (with_reducible refine LeO.ite ?_ ?_)
      | (with_reducible refine LeO.bind ?_ (fun _=>?_))
      | exact ih0 _ _ _ _ _ _ _ _
      | exact ih1 _ _ _ _ _ _ _ _ _
      | exact ih2 _ _ _ _ _ _ _ _ _ _
      | exact ih3 _ _ _ _ _ _ _ _ _
      | exact ih4 _ _ _ _ _ _ _ _ _ _
      | exact bits_LeadingZeros64.mono _ _
      | exact LeO.none _
      | refine LeO.ite ?_ ?_
      | refine LeO.bind ?_ (fun _=>?_)
    · intro y0 y1 y2 y3 y4 y5 y6 y7 y8 y9
      unfold bits_Div64.j1
      repeat' first
      | (with_reducible exact ih0 _ _ _ _ _ _ _ _)
      | (with_reducible exact ih1 _ _ _ _ _ _ _ _ _)
      | (with_reducible exact ih2 _ _ _ _ _ _ _ _ _ _)
      | (with_reducible exact ih3 _ _ _ _ _ _ _ _ _)
      | (with_reducible exact ih4 _ _ _ _ _ _ _ _ _ _)
      | (with_reducible exact bits_LeadingZeros64.mono _ _)
      | (with_reducible exact LeO.refl _)
      | (with_reducible exact LeO.none _)
      | (with_reducible refine LeO.ite ?_ ?_)
      | (with_reducible refine LeO.bind ?_ (fun _=>?_))
      | exact ih0 _ _ _ _ _ _ _ _
      | exact ih1 _ _ _ _ _ _ _ _ _
      | exact ih2 _ _ _ _ _ _ _ _ _ _
      | exact ih3 _ _ _ _ _ _ _ _ _
      | exact ih4 _ _ _ _ _ _ _ _ _ _
      | exact bits_LeadingZeros64.mono _ _
      | exact LeO.none _
      | refine LeO.ite ?_ ?_
      | refine LeO.bind ?_ (fun _=>?_)
theorem bits_Div64.mono : ∀ a0 a1 a2 k,LeO (bits_Div64.f k a0 a1 a2) (bits_Div64.f (k + 1) a0 a1 a2):=by
  intro a0 a1 a2 k
  obtain ⟨ih0,ih1,ih2,ih3,ih4⟩:=bits_Div64.mono_l k
  unfold bits_Div64.f
  repeat' first
      | (with_reducible exact ih0 _ _ _ _ _ _ _ _)
      | (with_reducible exact ih1 _ _ _ _ _ _ _ _ _)
      | (with_reducible exact ih2 _ _ _ _ _ _ _ _ _ _)
      | (with_reducible exact ih3 _ _ _ _ _ _ _ _ _)
      | (with_reducible exact ih4 _ _ _ _ _ _ _ _ _ _)
      | (with_reducible exact bits_LeadingZeros64.mono _ _)
      | (with_reducible exact LeO.refl _)
      | (with_reducible exact LeO.none _)
      | (with_reducible refine LeO.ite ?_ ?_)
      | (with_reducible refine LeO.bind ?_ (fun _=>?_))
      | exact ih0 _ _ _ _ _ _ _ _
      | exact ih1 _ _ _ _ _ _ _ _ _
      | exact ih2 _ _ _ _ _ _ _ _ _ _
      | exact ih3 _ _ _ _ _ _ _ _ _
      | exact ih4 _ _ _ _ _ _ _ _ _ _
      | exact bits_LeadingZeros64.mono _ _
      | exact LeO.none _
      | refine LeO.ite ?_ ?_
      | refine LeO.bind ?_ (fun _=>?_)
def quot_by.l0:Nat→List Int→Int→List Int→Int→Int→Option (List Int×Int)
  | 0,_,_,_,_,_=>none
  | k + 1,x0,x1,x6,x7,x8=>if x8 ≥ 0 then (if 0≤x8 then (if x8 < (x0.length:Int) then ((bits_Div64.f k x7 (rd x0 x8) x1).bind fun bt169=>(if x8 < (x6.length:Int) then (quot_by.l0 k x0 x1 (x6.set (x8:Int).toNat bt169.1) bt169.2 (wrap64 (x8 - 1))) else (none))) else (none)) else (none)) else (some (x6,x7))
def quot_by.f (k:Nat) (l0:List Int) (a1:Int):Option (List Int×Int):=if 0≤(l0.length:Int) then (if ((l0.length:Int):Int).toNat≤35184372088832 then (quot_by.l0 k l0 a1 (List.replicate ((l0.length:Int):Int).toNat 0) 0 (wrap64 ((l0.length:Int) - 1))) else (none)) else (none)
theorem quot_by.mono_l : ∀ k,(∀ y0 y1 y2 y3 y4,LeO (quot_by.l0 k y0 y1 y2 y3 y4) (quot_by.l0 (k + 1) y0 y1 y2 y3 y4))
  | 0=>fun _ _ _ _ _ r h=>by simp [quot_by.l0] at h
  | k + 1=>by
    have ih0:=quot_by.mono_l k
    · intro y0 y1 y2 y3 y4
      unfold quot_by.l0
      repeat' first
      | (with_reducible exact ih0 _ _ _ _ _)
      | (with_reducible exact bits_Div64.mono _ _ _ _)
      | (with_reducible exact LeO.refl _)
      | (with_reducible exact LeO.none _)
      | (with_reducible refine LeO.ite ?_ ?_)
      | (with_reducible refine LeO.bind ?_ (fun _=>?_))
      | exact ih0 _ _ _ _ _
      | exact bits_Div64.mono _ _ _ _
      | exact LeO.none _
      | refine LeO.ite ?_ ?_
      | refine LeO.bind ?_ (fun _=>?_)
theorem quot_by.mono : ∀ a0 a1 k,LeO (quot_by.f k a0 a1) (quot_by.f (k + 1) a0 a1):=by
  intro a0 a1 k
  have ih0:=quot_by.mono_l k
  unfold quot_by.f
  repeat' first
      | (with_reducible exact ih0 _ _ _ _ _)
      | (with_reducible exact bits_Div64.mono _ _ _ _)
      | (with_reducible exact LeO.refl _)
      | (with_reducible exact LeO.none _)
      | (with_reducible refine LeO.ite ?_ ?_)
      | (with_reducible refine LeO.bind ?_ (fun _=>?_))
      | exact ih0 _ _ _ _ _
      | exact bits_Div64.mono _ _ _ _
      | exact LeO.none _
      | refine LeO.ite ?_ ?_
      | refine LeO.bind ?_ (fun _=>?_)
def quot_moved.l0:Nat→Int→List Int→List Int→Int→Int→Option (List Int)
  | 0,_,_,_,_,_=>none
  | k + 1,x1,x5,x12,x13,x14=>if x14 < x13 then (if 0≤x14 then (if x14 < (x12.length:Int) then (if x14 < (x5.length:Int) then (if 0≤x1 then (if 0≤(IntKind.u64.wrap (64 - x1)) then (if 0≤(wrap64 (x14 + 1)) then (if (wrap64 (x14 + 1)) < (x5.length:Int) then (quot_moved.l0 k x1 ((x5.set (x14:Int).toNat (Go.bits .or .u64 (rd x5 x14) (shl .u64 (rd x12 x14) x1))).set ((wrap64 (x14 + 1)):Int).toNat (shr .u64 (rd x12 x14) (IntKind.u64.wrap (64 - x1)))) x12 x13 (wrap64 (x14 + 1))) else (none)) else (none)) else (none)) else (none)) else (none)) else (none)) else (none)) else (some x5)
def quot_moved.f (k:Nat) (l0:List Int) (a1:Int):Option (List Int):=if 0≤(wrap64 ((l0.length:Int) + 1)) then (if (wrap64 ((l0.length:Int) + 1):Int).toNat≤35184372088832 then (quot_moved.l0 k a1 (List.replicate (wrap64 ((l0.length:Int) + 1):Int).toNat 0) l0 (l0.length:Int) 0) else (none)) else (none)
theorem quot_moved.mono_l : ∀ k,(∀ y0 y1 y2 y3 y4,LeO (quot_moved.l0 k y0 y1 y2 y3 y4) (quot_moved.l0 (k + 1) y0 y1 y2 y3 y4))
  | 0=>fun _ _ _ _ _ r h=>by simp [quot_moved.l0] at h
  | k + 1=>by
    have ih0:=quot_moved.mono_l k
    · intro y0 y1 y2 y3 y4
      unfold quot_moved.l0
      repeat' first
      | (with_reducible exact ih0 _ _ _ _ _)
      | (with_reducible exact LeO.refl _)
      | (with_reducible exact LeO.none _)
      | (with_reducible refine LeO.ite ?_ ?_)
      | (with_reducible refine LeO.bind ?_ (fun _=>?_))
      | exact ih0 _ _ _ _ _
      | exact LeO.none _
      | refine LeO.ite ?_ ?_
      | refine LeO.bind ?_ (fun _=>?_)
theorem quot_moved.mono : ∀ a0 a1 k,LeO (quot_moved.f k a0 a1) (quot_moved.f (k + 1) a0 a1):=by
  intro a0 a1 k
  have ih0:=quot_moved.mono_l k
  unfold quot_moved.f
  repeat' first
      | (with_reducible exact ih0 _ _ _ _ _)
      | (with_reducible exact LeO.refl _)
      | (with_reducible exact LeO.none _)
      | (with_reducible refine LeO.ite ?_ ?_)
      | (with_reducible refine LeO.bind ?_ (fun _=>?_))
      | exact ih0 _ _ _ _ _
      | exact LeO.none _
      | refine LeO.ite ?_ ?_
      | refine LeO.bind ?_ (fun _=>?_)
def bits_Mul64.f (a0:Int) (a1:Int):Option (Int×Int):=some (IntKind.u64.wrap ((IntKind.u64.wrap ((IntKind.u64.wrap ((a0 / 4294967296) * (a1 / 4294967296))) + ((IntKind.u64.wrap ((IntKind.u64.wrap ((a0 / 4294967296) * (Go.bits .and .u64 a1 4294967295))) + ((IntKind.u64.wrap ((Go.bits .and .u64 a0 4294967295) * (Go.bits .and .u64 a1 4294967295))) / 4294967296))) / 4294967296))) + ((IntKind.u64.wrap ((Go.bits .and .u64 (IntKind.u64.wrap ((IntKind.u64.wrap ((a0 / 4294967296) * (Go.bits .and .u64 a1 4294967295))) + ((IntKind.u64.wrap ((Go.bits .and .u64 a0 4294967295) * (Go.bits .and .u64 a1 4294967295))) / 4294967296))) 4294967295) + (IntKind.u64.wrap ((Go.bits .and .u64 a0 4294967295) * (a1 / 4294967296))))) / 4294967296)),IntKind.u64.wrap (a0 * a1))
mutual
def quot_guess.l0:Nat→List Int→Int→Int→Int→Int→Option (Int)
  | 0,_,_,_,_,_=>none
  | k + 1,x1,x5,x8,x9,x10=>if 0≤(wrap64 (x5 - 2)) then (if (wrap64 (x5 - 2)) < (x1.length:Int) then ((bits_Mul64.f x9 (rd x1 (wrap64 (x5 - 2)))).bind fun bt187=>(if bt187.1 < x10 then (quot_guess.j1 k x1 x5 x8 x9 x10 true) else (if bt187.1=x10 then (quot_guess.j1 k x1 x5 x8 x9 x10 (decide (bt187.2≤x8))) else (quot_guess.j1 k x1 x5 x8 x9 x10 false)))) else (none)) else (none)
def quot_guess.j1:Nat→List Int→Int→Int→Int→Int→Bool→Option (Int)
  | 0,_,_,_,_,_,_=>none
  | k + 1,x1,x5,x8,x9,x10,x71=>if x71=true then (some x9) else (if 0≤(wrap64 (x5 - 1)) then (if (wrap64 (x5 - 1)) < (x1.length:Int) then (if (add64c x10 (rd x1 (wrap64 (x5 - 1))) 0)=0 then (quot_guess.l0 k x1 x5 x8 (IntKind.u64.wrap (x9 - 1)) (add64s x10 (rd x1 (wrap64 (x5 - 1))) 0)) else (some (IntKind.u64.wrap (x9 - 1)))) else (none)) else (none))
end
def quot_guess.f (k:Nat) (l0:List Int) (l1:List Int):Option (Int):=if 0≤(l1.length:Int) then (if (l1.length:Int) < (l0.length:Int) then (if 0≤(wrap64 ((l1.length:Int) - 1)) then (if (wrap64 ((l1.length:Int) - 1)) < (l0.length:Int) then (if 0≤(wrap64 ((l1.length:Int) - 2)) then (if (wrap64 ((l1.length:Int) - 2)) < (l0.length:Int) then (if (wrap64 ((l1.length:Int) - 1)) < (l1.length:Int) then (if (rd l0 (l1.length:Int)) ≥ (rd l1 (wrap64 ((l1.length:Int) - 1))) then (some 18446744073709551615) else ((bits_Div64.f k (rd l0 (l1.length:Int)) (rd l0 (wrap64 ((l1.length:Int) - 1))) (rd l1 (wrap64 ((l1.length:Int) - 1)))).bind fun bt184=>(quot_guess.l0 k l1 (l1.length:Int) (rd l0 (wrap64 ((l1.length:Int) - 2))) bt184.1 bt184.2))) else (none)) else (none)) else (none)) else (none)) else (none)) else (none)) else (none)
theorem quot_guess.mono_l : ∀ k,(∀ y0 y1 y2 y3 y4,LeO (quot_guess.l0 k y0 y1 y2 y3 y4) (quot_guess.l0 (k + 1) y0 y1 y2 y3 y4))∧(∀ y0 y1 y2 y3 y4 y5,LeO (quot_guess.j1 k y0 y1 y2 y3 y4 y5) (quot_guess.j1 (k + 1) y0 y1 y2 y3 y4 y5))
  | 0=>⟨fun _ _ _ _ _ r h=>by simp [quot_guess.l0] at h,fun _ _ _ _ _ _ r h=>by simp [quot_guess.j1] at h⟩
  | k + 1=>by
    obtain ⟨ih0,ih1⟩:=quot_guess.mono_l k
    refine ⟨?_,?_⟩
    · intro y0 y1 y2 y3 y4
      unfold quot_guess.l0
      repeat' first
      | (with_reducible exact ih0 _ _ _ _ _)
      | (with_reducible exact ih1 _ _ _ _ _ _)
      | (with_reducible exact bits_Div64.mono _ _ _ _)
      | (with_reducible exact LeO.refl _)
      | (with_reducible exact LeO.none _)
      | (with_reducible refine LeO.ite ?_ ?_)
      | (with_reducible refine LeO.bind ?_ (fun _=>?_))
      | exact ih0 _ _ _ _ _
      | exact ih1 _ _ _ _ _ _
      | exact bits_Div64.mono _ _ _ _
      | exact LeO.none _
      | refine LeO.ite ?_ ?_
      | refine LeO.bind ?_ (fun _=>?_)
    · intro y0 y1 y2 y3 y4 y5
      unfold quot_guess.j1
      repeat' first
      | (with_reducible exact ih0 _ _ _ _ _)
      | (with_reducible exact ih1 _ _ _ _ _ _)
      | (with_reducible exact bits_Div64.mono _ _ _ _)
      | (with_reducible exact LeO.refl _)
      | (with_reducible exact LeO.none _)
      | (with_reducible refine LeO.ite ?_ ?_)
      | (with_reducible refine LeO.bind ?_ (fun _=>?_))
      | exact ih0 _ _ _ _ _
      | exact ih1 _ _ _ _ _ _
      | exact bits_Div64.mono _ _ _ _
      | exact LeO.none _
      | refine LeO.ite ?_ ?_
      | refine LeO.bind ?_ (fun _=>?_)
theorem quot_guess.mono : ∀ a0 a1 k,LeO (quot_guess.f k a0 a1) (quot_guess.f (k + 1) a0 a1):=by
  intro a0 a1 k
  obtain ⟨ih0,ih1⟩:=quot_guess.mono_l k
  unfold quot_guess.f
  repeat' first
      | (with_reducible exact ih0 _ _ _ _ _)
      | (with_reducible exact ih1 _ _ _ _ _ _)
      | (with_reducible exact bits_Div64.mono _ _ _ _)
      | (with_reducible exact LeO.refl _)
      | (with_reducible exact LeO.none _)
      | (with_reducible refine LeO.ite ?_ ?_)
      | (with_reducible refine LeO.bind ?_ (fun _=>?_))
      | exact ih0 _ _ _ _ _
      | exact ih1 _ _ _ _ _ _
      | exact bits_Div64.mono _ _ _ _
      | exact LeO.none _
      | refine LeO.ite ?_ ?_
      | refine LeO.bind ?_ (fun _=>?_)
def quot_guessW.f (k:Nat) (l0:List Int) (lo_ hi_:Int) (l1:List Int):Option (Int):=if 0≤lo_∧lo_ < hi_∧hi_≤(l0.length:Int) then quot_guess.f k ((l0.take hi_.toNat).drop lo_.toNat) l1 else none
theorem quot_guessW.mono : ∀ a0 a1 a2 a3 k,LeO (quot_guessW.f k a0 a1 a2 a3) (quot_guessW.f (k + 1) a0 a1 a2 a3):=by
  intro a0 a1 a2 a3 k
  unfold quot_guessW.f
  refine LeO.ite ?_ (LeO.none _)
  exact quot_guess.mono _ _ _
def quot_less.l0:Nat→List Int→List Int→Int→Int→Int→List Int→Int→Int→Option (Int×List Int)
  | 0,_,_,_,_,_,_,_,_=>none
  | k + 1,x0,x1,x2,x7,x8,x14,x15,x16=>if x16 < x15 then (if 0≤x16 then (if x16 < (x14.length:Int) then ((bits_Mul64.f (rd x14 x16) x2).bind fun bt191=>(if x16 < (x0.length:Int) then (if x8≤1 then (quot_less.l0 k (x0.set (x16:Int).toNat (sub64d (rd x0 x16) (add64s bt191.2 x7 0) x8)) x1 x2 (IntKind.u64.wrap (bt191.1 + (add64c bt191.2 x7 0))) (sub64b (rd x0 x16) (add64s bt191.2 x7 0) x8) x14 x15 (wrap64 (x16 + 1))) else (none)) else (none))) else (none)) else (none)) else (if 0≤(x1.length:Int) then (if (x1.length:Int) < (x0.length:Int) then (if x8≤1 then (some (sub64b (rd x0 (x1.length:Int)) x7 x8,(x0.set ((x1.length:Int):Int).toNat (sub64d (rd x0 (x1.length:Int)) x7 x8)))) else (none)) else (none)) else (none))
def quot_less.f (k:Nat) (l0:List Int) (l1:List Int) (a2:Int):Option (Int×List Int):=quot_less.l0 k l0 l1 a2 0 0 l1 (l1.length:Int) 0
theorem quot_less.mono_l : ∀ k,(∀ y0 y1 y2 y3 y4 y5 y6 y7,LeO (quot_less.l0 k y0 y1 y2 y3 y4 y5 y6 y7) (quot_less.l0 (k + 1) y0 y1 y2 y3 y4 y5 y6 y7))
  | 0=>fun _ _ _ _ _ _ _ _ r h=>by simp [quot_less.l0] at h
  | k + 1=>by
    have ih0:=quot_less.mono_l k
    · intro y0 y1 y2 y3 y4 y5 y6 y7
      unfold quot_less.l0
      repeat' first
      | (with_reducible exact ih0 _ _ _ _ _ _ _ _)
      | (with_reducible exact LeO.refl _)
      | (with_reducible exact LeO.none _)
      | (with_reducible refine LeO.ite ?_ ?_)
      | (with_reducible refine LeO.bind ?_ (fun _=>?_))
      | exact ih0 _ _ _ _ _ _ _ _
      | exact LeO.none _
      | refine LeO.ite ?_ ?_
      | refine LeO.bind ?_ (fun _=>?_)
theorem quot_less.mono : ∀ a0 a1 a2 k,LeO (quot_less.f k a0 a1 a2) (quot_less.f (k + 1) a0 a1 a2):=by
  intro a0 a1 a2 k
  have ih0:=quot_less.mono_l k
  unfold quot_less.f
  repeat' first
      | (with_reducible exact ih0 _ _ _ _ _ _ _ _)
      | (with_reducible exact LeO.refl _)
      | (with_reducible exact LeO.none _)
      | (with_reducible refine LeO.ite ?_ ?_)
      | (with_reducible refine LeO.bind ?_ (fun _=>?_))
      | exact ih0 _ _ _ _ _ _ _ _
      | exact LeO.none _
      | refine LeO.ite ?_ ?_
      | refine LeO.bind ?_ (fun _=>?_)
def quot_lessW.f (k:Nat) (l0:List Int) (lo_ hi_:Int) (l1:List Int) (a2:Int):Option (Int×List Int):=if 0≤lo_∧lo_ < hi_∧hi_≤(l0.length:Int) then (quot_less.f k ((l0.take hi_.toNat).drop lo_.toNat) l1 a2).map (fun r_=>(r_.1,l0.take lo_.toNat ++ r_.2 ++ l0.drop hi_.toNat)) else none
theorem quot_lessW.mono : ∀ a0 a1 a2 a3 a4 k,LeO (quot_lessW.f k a0 a1 a2 a3 a4) (quot_lessW.f (k + 1) a0 a1 a2 a3 a4):=by
  intro a0 a1 a2 a3 a4 k
  unfold quot_lessW.f
  refine LeO.ite ?_ (LeO.none _)
  intro r hr
  obtain ⟨r',h1,h2⟩:=Option.map_eq_some_iff.mp hr
  exact Option.map_eq_some_iff.mpr ⟨r',quot_less.mono _ _ _  k r' h1,h2⟩
def quot_back.l0:Nat→List Int→List Int→Int→List Int→Int→Int→Option (List Int)
  | 0,_,_,_,_,_,_=>none
  | k + 1,x0,x1,x4,x7,x8,x9=>if x9 < x8 then (if 0≤x9 then (if x9 < (x7.length:Int) then (if x9 < (x0.length:Int) then (if x4≤1 then (quot_back.l0 k (x0.set (x9:Int).toNat (add64s (rd x0 x9) (rd x7 x9) x4)) x1 (add64c (rd x0 x9) (rd x7 x9) x4) x7 x8 (wrap64 (x9 + 1))) else (none)) else (none)) else (none)) else (none)) else (if 0≤(x1.length:Int) then (if (x1.length:Int) < (x0.length:Int) then (some (x0.set ((x1.length:Int):Int).toNat (IntKind.u64.wrap ((rd x0 (x1.length:Int)) + x4)))) else (none)) else (none))
def quot_back.f (k:Nat) (l0:List Int) (l1:List Int):Option (List Int):=quot_back.l0 k l0 l1 0 l1 (l1.length:Int) 0
theorem quot_back.mono_l : ∀ k,(∀ y0 y1 y2 y3 y4 y5,LeO (quot_back.l0 k y0 y1 y2 y3 y4 y5) (quot_back.l0 (k + 1) y0 y1 y2 y3 y4 y5))
  | 0=>fun _ _ _ _ _ _ r h=>by simp [quot_back.l0] at h
  | k + 1=>by
    have ih0:=quot_back.mono_l k
    · intro y0 y1 y2 y3 y4 y5
      unfold quot_back.l0
      repeat' first
      | (with_reducible exact ih0 _ _ _ _ _ _)
      | (with_reducible exact LeO.refl _)
      | (with_reducible exact LeO.none _)
      | (with_reducible refine LeO.ite ?_ ?_)
      | (with_reducible refine LeO.bind ?_ (fun _=>?_))
      | exact ih0 _ _ _ _ _ _
      | exact LeO.none _
      | refine LeO.ite ?_ ?_
      | refine LeO.bind ?_ (fun _=>?_)
theorem quot_back.mono : ∀ a0 a1 k,LeO (quot_back.f k a0 a1) (quot_back.f (k + 1) a0 a1):=by
  intro a0 a1 k
  have ih0:=quot_back.mono_l k
  unfold quot_back.f
  repeat' first
      | (with_reducible exact ih0 _ _ _ _ _ _)
      | (with_reducible exact LeO.refl _)
      | (with_reducible exact LeO.none _)
      | (with_reducible refine LeO.ite ?_ ?_)
      | (with_reducible refine LeO.bind ?_ (fun _=>?_))
      | exact ih0 _ _ _ _ _ _
      | exact LeO.none _
      | refine LeO.ite ?_ ?_
      | refine LeO.bind ?_ (fun _=>?_)
def quot_backW.f (k:Nat) (l0:List Int) (lo_ hi_:Int) (l1:List Int):Option (List Int):=if 0≤lo_∧lo_ < hi_∧hi_≤(l0.length:Int) then (quot_back.f k ((l0.take hi_.toNat).drop lo_.toNat) l1).map (fun r_=>l0.take lo_.toNat ++ r_ ++ l0.drop hi_.toNat) else none
theorem quot_backW.mono : ∀ a0 a1 a2 a3 k,LeO (quot_backW.f k a0 a1 a2 a3) (quot_backW.f (k + 1) a0 a1 a2 a3):=by
  intro a0 a1 a2 a3 k
  unfold quot_backW.f
  refine LeO.ite ?_ (LeO.none _)
  intro r hr
  obtain ⟨r',h1,h2⟩:=Option.map_eq_some_iff.mp hr
  exact Option.map_eq_some_iff.mpr ⟨r',quot_back.mono _ _  k r' h1,h2⟩
def quot_wrong.f (a0:Int):Option (Bool):=if a0 < 0 then (some true) else (some (decide (a0 > 262144)))
def quot_Shr.l0:Nat→List Int→Int→Int→Int→Option (List Int×Int)
  | 0,_,_,_,_=>none
  | k + 1,x6,x7,x25,x26=>if x26 < x25 then (if 0≤x26 then (if x26 < (x6.length:Int) then (if 0≤x7 then ((some (x6.set (x26:Int).toNat (shr .u64 (rd x6 x26) x7):List Int)).bind fun y212=>(if (wrap64 (x26 + 1)) < (x6.length:Int) then (if 0≤(wrap64 (x26 + 1)) then (if 0≤(IntKind.u64.wrap (64 - x7)) then (quot_Shr.l0 k (y212.set (x26:Int).toNat (Go.bits .or .u64 (rd y212 x26) (shl .u64 (rd y212 (wrap64 (x26 + 1))) (IntKind.u64.wrap (64 - x7))))) x7 x25 (wrap64 (x26 + 1))) else (none)) else (none)) else (quot_Shr.l0 k y212 x7 x25 (wrap64 (x26 + 1))))) else (none)) else (none)) else (none)) else ((nat_Of.f k x6).bind fun t216=>(some (t216,0)))
def quot_Shr.f (k:Nat) (l0_0:List Int) (a1:Int):Option (List Int×Int):=(quot_wrong.f a1).bind fun t204=>(if t204=true then (some (([]:List Int),2)) else ((nat_Nat_Limbs.f l0_0).bind fun t205=>(if 0≤(mn (wrap64 (Int.tdiv a1 64)) (t205.length:Int)) then (if (mn (wrap64 (Int.tdiv a1 64)) (t205.length:Int))≤(t205.length:Int) then ((some (t205.drop ((mn (wrap64 (Int.tdiv a1 64)) (t205.length:Int)):Int).toNat:List Int)).bind fun y208=>(quot_Shr.l0 k y208 (IntKind.u64.wrap (Int.tmod a1 64)) (y208.length:Int) 0)) else (none)) else (none))))
theorem quot_Shr.mono_l : ∀ k,(∀ y0 y1 y2 y3,LeO (quot_Shr.l0 k y0 y1 y2 y3) (quot_Shr.l0 (k + 1) y0 y1 y2 y3))
  | 0=>fun _ _ _ _ r h=>by simp [quot_Shr.l0] at h
  | k + 1=>by
    have ih0:=quot_Shr.mono_l k
    · intro y0 y1 y2 y3
      unfold quot_Shr.l0
      repeat' first
      | (with_reducible exact ih0 _ _ _ _)
      | (with_reducible exact nat_Of.mono _ _)
      | (with_reducible exact LeO.refl _)
      | (with_reducible exact LeO.none _)
      | (with_reducible refine LeO.ite ?_ ?_)
      | (with_reducible refine LeO.bind ?_ (fun _=>?_))
      | exact ih0 _ _ _ _
      | exact nat_Of.mono _ _
      | exact LeO.none _
      | refine LeO.ite ?_ ?_
      | refine LeO.bind ?_ (fun _=>?_)
theorem quot_Shr.mono : ∀ a0 a1 k,LeO (quot_Shr.f k a0 a1) (quot_Shr.f (k + 1) a0 a1):=by
  intro a0 a1 k
  have ih0:=quot_Shr.mono_l k
  unfold quot_Shr.f
  repeat' first
      | (with_reducible exact ih0 _ _ _ _)
      | (with_reducible exact nat_Of.mono _ _)
      | (with_reducible exact LeO.refl _)
      | (with_reducible exact LeO.none _)
      | (with_reducible refine LeO.ite ?_ ?_)
      | (with_reducible refine LeO.bind ?_ (fun _=>?_))
      | exact ih0 _ _ _ _
      | exact nat_Of.mono _ _
      | exact LeO.none _
      | refine LeO.ite ?_ ?_
      | refine LeO.bind ?_ (fun _=>?_)
mutual
def quot_long.l0:Nat→List Int→List Int→Int→List Int→Int→Option (List Int×List Int)
  | 0,_,_,_,_,_=>none
  | k + 1,x0,x1,x6,x7,x8=>if x8 ≥ 0 then (if 0≤x8 then (if x8 < (wrap64 ((wrap64 (x8 + (x1.length:Int))) + 1)) then (if (wrap64 ((wrap64 (x8 + (x1.length:Int))) + 1))≤(x0.length:Int) then ((quot_guessW.f k x0 x8 (wrap64 ((wrap64 (x8 + (x1.length:Int))) + 1)) x1).bind fun t244=>((quot_lessW.f k x0 x8 (wrap64 ((wrap64 (x8 + (x1.length:Int))) + 1)) x1 t244).bind fun bt245=>(quot_long.l1 k bt245.2 x1 x6 x7 x8 t244 bt245.1))) else (none)) else (none)) else (none)) else ((nat_Of.f k x0).bind fun t233=>((quot_Shr.f k t233 (wrap64 (x6))).bind fun bt236=>((nat_Nat_Limbs.f bt236.1).bind fun t241=>(some (x7,t241)))))
def quot_long.l1:Nat→List Int→List Int→Int→List Int→Int→Int→Int→Option (List Int×List Int)
  | 0,_,_,_,_,_,_,_=>none
  | k + 1,x0,x1,x6,x7,x8,x10,x11=>if x11=0 then (if 0≤x8 then (if x8 < (x7.length:Int) then (quot_long.l0 k x0 x1 x6 (x7.set (x8:Int).toNat x10) (wrap64 (x8 - 1))) else (none)) else (none)) else ((quot_backW.f k x0 x8 (wrap64 ((wrap64 (x8 + (x1.length:Int))) + 1)) x1).bind fun t248=>(if 0≤x8 then (if 0≤(x1.length:Int) then (if (x1.length:Int) < (wrap64 ((wrap64 (x8 + (x1.length:Int))) + 1)) - x8 then (if 0≤((x1.length:Int) + x8) then (if ((x1.length:Int) + x8) < (x0.length:Int) then (if (rd t248 ((x1.length:Int) + x8))=0 then (quot_long.l1 k t248 x1 x6 x7 x8 (IntKind.u64.wrap (x10 - 1)) 0) else (quot_long.l1 k t248 x1 x6 x7 x8 (IntKind.u64.wrap (x10 - 1)) x11)) else (none)) else (none)) else (none)) else (none)) else (none)))
end
def quot_long.f (k:Nat) (l0:List Int) (l1:List Int):Option (List Int×List Int):=if 0≤(wrap64 ((l1.length:Int) - 1)) then (if (wrap64 ((l1.length:Int) - 1)) < (l1.length:Int) then ((bits_LeadingZeros64.f k (rd l1 (wrap64 ((l1.length:Int) - 1)))).bind fun t220=>((quot_moved.f k l0 (IntKind.u64.wrap (t220))).bind fun t221=>((quot_moved.f k l1 (IntKind.u64.wrap (t220))).bind fun t224=>(if 0≤(l1.length:Int) then (if (l1.length:Int)≤(t224.length:Int) then ((some (t224.take ((l1.length:Int):Int).toNat:List Int)).bind fun y227=>(if 0≤(wrap64 ((t221.length:Int) - (y227.length:Int))) then (if (wrap64 ((t221.length:Int) - (y227.length:Int)):Int).toNat≤35184372088832 then ((some (List.replicate (wrap64 ((t221.length:Int) - (y227.length:Int)):Int).toNat 0:List Int)).bind fun y230=>(quot_long.l0 k t221 y227 (IntKind.u64.wrap (t220)) y230 (wrap64 ((y230.length:Int) - 1)))) else (none)) else (none))) else (none)) else (none))))) else (none)) else (none)
theorem quot_long.mono_l : ∀ k,(∀ y0 y1 y2 y3 y4,LeO (quot_long.l0 k y0 y1 y2 y3 y4) (quot_long.l0 (k + 1) y0 y1 y2 y3 y4))∧(∀ y0 y1 y2 y3 y4 y5 y6,LeO (quot_long.l1 k y0 y1 y2 y3 y4 y5 y6) (quot_long.l1 (k + 1) y0 y1 y2 y3 y4 y5 y6))
  | 0=>⟨fun _ _ _ _ _ r h=>by simp [quot_long.l0] at h,fun _ _ _ _ _ _ _ r h=>by simp [quot_long.l1] at h⟩
  | k + 1=>by
    obtain ⟨ih0,ih1⟩:=quot_long.mono_l k
    refine ⟨?_,?_⟩
    · intro y0 y1 y2 y3 y4
      unfold quot_long.l0
      repeat' first
      | (with_reducible exact ih0 _ _ _ _ _)
      | (with_reducible exact ih1 _ _ _ _ _ _ _)
      | (with_reducible exact bits_LeadingZeros64.mono _ _)
      | (with_reducible exact nat_Of.mono _ _)
      | (with_reducible exact quot_Shr.mono _ _ _)
      | (with_reducible exact quot_backW.mono _ _ _ _ _)
      | (with_reducible exact quot_guessW.mono _ _ _ _ _)
      | (with_reducible exact quot_lessW.mono _ _ _ _ _ _)
      | (with_reducible exact quot_moved.mono _ _ _)
      | (with_reducible exact LeO.refl _)
      | (with_reducible exact LeO.none _)
      | (with_reducible refine LeO.ite ?_ ?_)
      | (with_reducible refine LeO.bind ?_ (fun _=>?_))
      | exact ih0 _ _ _ _ _
      | exact ih1 _ _ _ _ _ _ _
      | exact bits_LeadingZeros64.mono _ _
      | exact nat_Of.mono _ _
      | exact quot_Shr.mono _ _ _
      | exact quot_backW.mono _ _ _ _ _
      | exact quot_guessW.mono _ _ _ _ _
      | exact quot_lessW.mono _ _ _ _ _ _
      | exact quot_moved.mono _ _ _
      | exact LeO.none _
      | refine LeO.ite ?_ ?_
      | refine LeO.bind ?_ (fun _=>?_)
    · intro y0 y1 y2 y3 y4 y5 y6
      unfold quot_long.l1
      repeat' first
      | (with_reducible exact ih0 _ _ _ _ _)
      | (with_reducible exact ih1 _ _ _ _ _ _ _)
      | (with_reducible exact bits_LeadingZeros64.mono _ _)
      | (with_reducible exact nat_Of.mono _ _)
      | (with_reducible exact quot_Shr.mono _ _ _)
      | (with_reducible exact quot_backW.mono _ _ _ _ _)
      | (with_reducible exact quot_guessW.mono _ _ _ _ _)
      | (with_reducible exact quot_lessW.mono _ _ _ _ _ _)
      | (with_reducible exact quot_moved.mono _ _ _)
      | (with_reducible exact LeO.refl _)
      | (with_reducible exact LeO.none _)
      | (with_reducible refine LeO.ite ?_ ?_)
      | (with_reducible refine LeO.bind ?_ (fun _=>?_))
      | exact ih0 _ _ _ _ _
      | exact ih1 _ _ _ _ _ _ _
      | exact bits_LeadingZeros64.mono _ _
      | exact nat_Of.mono _ _
      | exact quot_Shr.mono _ _ _
      | exact quot_backW.mono _ _ _ _ _
      | exact quot_guessW.mono _ _ _ _ _
      | exact quot_lessW.mono _ _ _ _ _ _
      | exact quot_moved.mono _ _ _
      | exact LeO.none _
      | refine LeO.ite ?_ ?_
      | refine LeO.bind ?_ (fun _=>?_)
theorem quot_long.mono : ∀ a0 a1 k,LeO (quot_long.f k a0 a1) (quot_long.f (k + 1) a0 a1):=by
  intro a0 a1 k
  obtain ⟨ih0,ih1⟩:=quot_long.mono_l k
  unfold quot_long.f
  repeat' first
      | (with_reducible exact ih0 _ _ _ _ _)
      | (with_reducible exact ih1 _ _ _ _ _ _ _)
      | (with_reducible exact bits_LeadingZeros64.mono _ _)
      | (with_reducible exact nat_Of.mono _ _)
      | (with_reducible exact quot_Shr.mono _ _ _)
      | (with_reducible exact quot_backW.mono _ _ _ _ _)
      | (with_reducible exact quot_guessW.mono _ _ _ _ _)
      | (with_reducible exact quot_lessW.mono _ _ _ _ _ _)
      | (with_reducible exact quot_moved.mono _ _ _)
      | (with_reducible exact LeO.refl _)
      | (with_reducible exact LeO.none _)
      | (with_reducible refine LeO.ite ?_ ?_)
      | (with_reducible refine LeO.bind ?_ (fun _=>?_))
      | exact ih0 _ _ _ _ _
      | exact ih1 _ _ _ _ _ _ _
      | exact bits_LeadingZeros64.mono _ _
      | exact nat_Of.mono _ _
      | exact quot_Shr.mono _ _ _
      | exact quot_backW.mono _ _ _ _ _
      | exact quot_guessW.mono _ _ _ _ _
      | exact quot_lessW.mono _ _ _ _ _ _
      | exact quot_moved.mono _ _ _
      | exact LeO.none _
      | refine LeO.ite ?_ ?_
      | refine LeO.bind ?_ (fun _=>?_)
def quot_Div.f (k:Nat) (l0_0:List Int) (l1_0:List Int):Option (List Int×List Int×Int):=(nat_Nat_Zero.f l1_0).bind fun t254=>(if t254=true then (some (([]:List Int),([]:List Int),8)) else ((nat_Nat_Cmp.f k l0_0 l1_0).bind fun t255=>(if t255 < 0 then (some (([]:List Int),l0_0,0)) else ((nat_Nat_Limbs.f l0_0).bind fun t256=>((nat_Nat_Limbs.f l1_0).bind fun t259=>(if (t259.length:Int)=1 then (if 0 < (t259.length:Int) then ((quot_by.f k t256 (rd t259 0)).bind fun bt263=>((nat_Of.f k bt263.1).bind fun t267=>((nat_Of.f k (([bt263.2]:List Int))).bind fun t273=>(some (t267,t273,0))))) else (none)) else ((quot_long.f k t256 t259).bind fun bt276=>((nat_Of.f k bt276.1).bind fun t282=>((nat_Of.f k bt276.2).bind fun t285=>(some (t282,t285,0)))))))))))
theorem quot_Div.mono : ∀ a0 a1 k,LeO (quot_Div.f k a0 a1) (quot_Div.f (k + 1) a0 a1):=by
  intro a0 a1 k
  unfold quot_Div.f
  repeat' first
      | (with_reducible exact nat_Nat_Cmp.mono _ _ _)
      | (with_reducible exact nat_Of.mono _ _)
      | (with_reducible exact quot_by.mono _ _ _)
      | (with_reducible exact quot_long.mono _ _ _)
      | (with_reducible exact LeO.refl _)
      | (with_reducible exact LeO.none _)
      | (with_reducible refine LeO.ite ?_ ?_)
      | (with_reducible refine LeO.bind ?_ (fun _=>?_))
      | exact nat_Nat_Cmp.mono _ _ _
      | exact nat_Of.mono _ _
      | exact quot_by.mono _ _ _
      | exact quot_long.mono _ _ _
      | exact LeO.none _
      | refine LeO.ite ?_ ?_
      | refine LeO.bind ?_ (fun _=>?_)
def quot_Gcd.l0:Nat→List Int→List Int→Option (List Int)
  | 0,_,_=>none
  | k + 1,x289000,x290000=>(nat_Nat_Zero.f x290000).bind fun t291=>(if t291=true then (some x289000) else ((quot_Div.f k x289000 x290000).bind fun bt292=>(quot_Gcd.l0 k x290000 bt292.2.1)))
def quot_Gcd.f (k:Nat) (l0_0:List Int) (l1_0:List Int):Option (List Int):=quot_Gcd.l0 k l0_0 l1_0
theorem quot_Gcd.mono_l : ∀ k,(∀ y0 y1,LeO (quot_Gcd.l0 k y0 y1) (quot_Gcd.l0 (k + 1) y0 y1))
  | 0=>fun _ _ r h=>by simp [quot_Gcd.l0] at h
  | k + 1=>by
    have ih0:=quot_Gcd.mono_l k
    · intro y0 y1
      unfold quot_Gcd.l0
      repeat' first
      | (with_reducible exact ih0 _ _)
      | (with_reducible exact quot_Div.mono _ _ _)
      | (with_reducible exact LeO.refl _)
      | (with_reducible exact LeO.none _)
      | (with_reducible refine LeO.ite ?_ ?_)
      | (with_reducible refine LeO.bind ?_ (fun _=>?_))
      | exact ih0 _ _
      | exact quot_Div.mono _ _ _
      | exact LeO.none _
      | refine LeO.ite ?_ ?_
      | refine LeO.bind ?_ (fun _=>?_)
theorem quot_Gcd.mono : ∀ a0 a1 k,LeO (quot_Gcd.f k a0 a1) (quot_Gcd.f (k + 1) a0 a1):=by
  intro a0 a1 k
  have ih0:=quot_Gcd.mono_l k
  unfold quot_Gcd.f
  repeat' first
      | (with_reducible exact ih0 _ _)
      | (with_reducible exact quot_Div.mono _ _ _)
      | (with_reducible exact LeO.refl _)
      | (with_reducible exact LeO.none _)
      | (with_reducible refine LeO.ite ?_ ?_)
      | (with_reducible refine LeO.bind ?_ (fun _=>?_))
      | exact ih0 _ _
      | exact quot_Div.mono _ _ _
      | exact LeO.none _
      | refine LeO.ite ?_ ?_
      | refine LeO.bind ?_ (fun _=>?_)
def frac_made.f (k:Nat) (l0_0:List Int) (a0_1:Bool) (l1_0:List Int):Option (List Int×Bool×List Int):=(whole_Int_Abs.f l0_0 a0_1).bind fun t304=>((quot_Gcd.f k t304 l1_0).bind fun t307=>((whole_Int_Abs.f l0_0 a0_1).bind fun t311=>((quot_Div.f k t311 t307).bind fun bt314=>((quot_Div.f k l1_0 t307).bind fun bt323=>((nat_Of.f k (([1]:List Int))).bind fun t335=>((nat_Nat_Sub.f k bt323.1 t335).bind fun bt338=>((whole_Int_Sign.f l0_0 a0_1).bind fun t343=>((whole_Of.f bt314.1 (decide (t343 < 0))).bind fun bt344=>(some (bt344.1,bt344.2,bt338.1))))))))))
theorem frac_made.mono : ∀ a0 a1 a2 k,LeO (frac_made.f k a0 a1 a2) (frac_made.f (k + 1) a0 a1 a2):=by
  intro a0 a1 a2 k
  unfold frac_made.f
  repeat' first
      | (with_reducible exact nat_Nat_Sub.mono _ _ _)
      | (with_reducible exact nat_Of.mono _ _)
      | (with_reducible exact quot_Div.mono _ _ _)
      | (with_reducible exact quot_Gcd.mono _ _ _)
      | (with_reducible exact LeO.refl _)
      | (with_reducible exact LeO.none _)
      | (with_reducible refine LeO.ite ?_ ?_)
      | (with_reducible refine LeO.bind ?_ (fun _=>?_))
      | exact nat_Nat_Sub.mono _ _ _
      | exact nat_Of.mono _ _
      | exact quot_Div.mono _ _ _
      | exact quot_Gcd.mono _ _ _
      | exact LeO.none _
      | refine LeO.ite ?_ ?_
      | refine LeO.bind ?_ (fun _=>?_)
def whole_Int_Neg.f (l0_0:List Int) (a0_1:Bool):Option (List Int×Bool):=(whole_Of.f l0_0 (!a0_1)).bind fun bt350=>(some (bt350.1,bt350.2))
def frac_Of.f (k:Nat) (l0_0:List Int) (a0_1:Bool) (l1_0:List Int) (a1_1:Bool):Option (List Int×Bool×List Int×Int):=(whole_Int_Sign.f l1_0 a1_1).bind fun t357=>(if t357=0 then (some (([]:List Int),false,([]:List Int),8)) else (if t357=(-1) then ((whole_Int_Neg.f l0_0 a0_1).bind fun bt358=>((whole_Int_Abs.f l1_0 a1_1).bind fun t362=>((frac_made.f k bt358.1 bt358.2 t362).bind fun bt365=>(some (bt365.1,bt365.2.1,bt365.2.2,0))))) else ((whole_Int_Abs.f l1_0 a1_1).bind fun t372=>((frac_made.f k l0_0 a0_1 t372).bind fun bt375=>(some (bt375.1,bt375.2.1,bt375.2.2,0))))))
theorem frac_Of.mono : ∀ a0 a1 a2 a3 k,LeO (frac_Of.f k a0 a1 a2 a3) (frac_Of.f (k + 1) a0 a1 a2 a3):=by
  intro a0 a1 a2 a3 k
  unfold frac_Of.f
  repeat' first
      | (with_reducible exact frac_made.mono _ _ _ _)
      | (with_reducible exact LeO.refl _)
      | (with_reducible exact LeO.none _)
      | (with_reducible refine LeO.ite ?_ ?_)
      | (with_reducible refine LeO.bind ?_ (fun _=>?_))
      | exact frac_made.mono _ _ _ _
      | exact LeO.none _
      | refine LeO.ite ?_ ?_
      | refine LeO.bind ?_ (fun _=>?_)
def whole_From.f (k:Nat) (a0:Int):Option (List Int×Bool):=if a0 < 0 then ((nat_Of.f k (([IntKind.u64.wrap (-(IntKind.u64.wrap (a0)))]:List Int))).bind fun t386=>((whole_Of.f t386 true).bind fun bt389=>(some (bt389.1,bt389.2)))) else ((nat_Of.f k (([IntKind.u64.wrap (a0)]:List Int))).bind fun t396=>((whole_Of.f t396 false).bind fun bt399=>(some (bt399.1,bt399.2))))
theorem whole_From.mono : ∀ a0 k,LeO (whole_From.f k a0) (whole_From.f (k + 1) a0):=by
  intro a0 k
  unfold whole_From.f
  repeat' first
      | (with_reducible exact nat_Of.mono _ _)
      | (with_reducible exact LeO.refl _)
      | (with_reducible exact LeO.none _)
      | (with_reducible refine LeO.ite ?_ ?_)
      | (with_reducible refine LeO.bind ?_ (fun _=>?_))
      | exact nat_Of.mono _ _
      | exact LeO.none _
      | refine LeO.ite ?_ ?_
      | refine LeO.bind ?_ (fun _=>?_)
def chattelref04_Of.f (l0:List Int) (a1:Bool):Option (List Int×Bool):=if a1=true then (some (l0,decide ((l0.length:Int) > 0))) else (some (l0,false))
def chattelref01_Small.l0:Nat→Int→List Int→Option (List Int)
  | 0,_,_=>none
  | k + 1,x0,x3=>if x0 > 0 then (if x3.length < 17592186044416 then (chattelref01_Small.l0 k (wrap64 (Int.tdiv x0 10000)) (x3 ++ [Int.tmod x0 10000])) else (none)) else (some x3)
def chattelref01_Small.f (k:Nat) (a0:Int):Option (List Int):=chattelref01_Small.l0 k a0 ([]:List Int)
theorem chattelref01_Small.mono_l : ∀ k,(∀ y0 y1,LeO (chattelref01_Small.l0 k y0 y1) (chattelref01_Small.l0 (k + 1) y0 y1))
  | 0=>fun _ _ r h=>by simp [chattelref01_Small.l0] at h
  | k + 1=>by
    have ih0:=chattelref01_Small.mono_l k
    · intro y0 y1
      unfold chattelref01_Small.l0
      repeat' first
      | (with_reducible exact ih0 _ _)
      | (with_reducible exact LeO.refl _)
      | (with_reducible exact LeO.none _)
      | (with_reducible refine LeO.ite ?_ ?_)
      | (with_reducible refine LeO.bind ?_ (fun _=>?_))
      | exact ih0 _ _
      | exact LeO.none _
      | refine LeO.ite ?_ ?_
      | refine LeO.bind ?_ (fun _=>?_)
theorem chattelref01_Small.mono : ∀ a0 k,LeO (chattelref01_Small.f k a0) (chattelref01_Small.f (k + 1) a0):=by
  intro a0 k
  have ih0:=chattelref01_Small.mono_l k
  unfold chattelref01_Small.f
  repeat' first
      | (with_reducible exact ih0 _ _)
      | (with_reducible exact LeO.refl _)
      | (with_reducible exact LeO.none _)
      | (with_reducible refine LeO.ite ?_ ?_)
      | (with_reducible refine LeO.bind ?_ (fun _=>?_))
      | exact ih0 _ _
      | exact LeO.none _
      | refine LeO.ite ?_ ?_
      | refine LeO.bind ?_ (fun _=>?_)
def chattelref04_From.f (k:Nat) (a0:Int):Option (List Int×Bool):=if a0 < 0 then ((chattelref01_Small.f k (wrap64 (-a0))).bind fun t408=>((chattelref04_Of.f t408 true).bind fun bt411=>(some (bt411.1,bt411.2)))) else ((chattelref01_Small.f k a0).bind fun t415=>((chattelref04_Of.f t415 false).bind fun bt418=>(some (bt418.1,bt418.2))))
theorem chattelref04_From.mono : ∀ a0 k,LeO (chattelref04_From.f k a0) (chattelref04_From.f (k + 1) a0):=by
  intro a0 k
  unfold chattelref04_From.f
  repeat' first
      | (with_reducible exact chattelref01_Small.mono _ _)
      | (with_reducible exact LeO.refl _)
      | (with_reducible exact LeO.none _)
      | (with_reducible refine LeO.ite ?_ ?_)
      | (with_reducible refine LeO.bind ?_ (fun _=>?_))
      | exact chattelref01_Small.mono _ _
      | exact LeO.none _
      | refine LeO.ite ?_ ?_
      | refine LeO.bind ?_ (fun _=>?_)
def chattelref01_at.f (l0:List Int) (a1:Int):Option (Int):=if a1 ≥ (l0.length:Int) then (some 0) else (if 0≤a1 then (if a1 < (l0.length:Int) then (some (rd l0 a1)) else (none)) else (none))
def chattelref01_Trim.l0:Nat→List Int→Int→Option (List Int)
  | 0,_,_=>none
  | k + 1,x0,x3=>if x3 > 0 then (if 0≤(wrap64 (x3 - 1)) then (if (wrap64 (x3 - 1)) < (x0.length:Int) then (if (rd x0 (wrap64 (x3 - 1)))=0 then (chattelref01_Trim.l0 k x0 (wrap64 (x3 - 1))) else (if 0≤x3 then (if x3≤(x0.length:Int) then (some (x0.take (x3:Int).toNat)) else (none)) else (none))) else (none)) else (none)) else (if 0≤x3 then (if x3≤(x0.length:Int) then (some (x0.take (x3:Int).toNat)) else (none)) else (none))
def chattelref01_Trim.f (k:Nat) (l0:List Int):Option (List Int):=chattelref01_Trim.l0 k l0 (l0.length:Int)
theorem chattelref01_Trim.mono_l : ∀ k,(∀ y0 y1,LeO (chattelref01_Trim.l0 k y0 y1) (chattelref01_Trim.l0 (k + 1) y0 y1))
  | 0=>fun _ _ r h=>by simp [chattelref01_Trim.l0] at h
  | k + 1=>by
    have ih0:=chattelref01_Trim.mono_l k
    · intro y0 y1
      unfold chattelref01_Trim.l0
      repeat' first
      | (with_reducible exact ih0 _ _)
      | (with_reducible exact LeO.refl _)
      | (with_reducible exact LeO.none _)
      | (with_reducible refine LeO.ite ?_ ?_)
      | (with_reducible refine LeO.bind ?_ (fun _=>?_))
      | exact ih0 _ _
      | exact LeO.none _
      | refine LeO.ite ?_ ?_
      | refine LeO.bind ?_ (fun _=>?_)
theorem chattelref01_Trim.mono : ∀ a0 k,LeO (chattelref01_Trim.f k a0) (chattelref01_Trim.f (k + 1) a0):=by
  intro a0 k
  have ih0:=chattelref01_Trim.mono_l k
  unfold chattelref01_Trim.f
  repeat' first
      | (with_reducible exact ih0 _ _)
      | (with_reducible exact LeO.refl _)
      | (with_reducible exact LeO.none _)
      | (with_reducible refine LeO.ite ?_ ?_)
      | (with_reducible refine LeO.bind ?_ (fun _=>?_))
      | exact ih0 _ _
      | exact LeO.none _
      | refine LeO.ite ?_ ?_
      | refine LeO.bind ?_ (fun _=>?_)
mutual
def chattelref01_Mul.l0:Nat→List Int→List Int→List Int→Int→Option (List Int)
  | 0,_,_,_,_=>none
  | k + 1,x0,x1,x5,x6=>if x6 < (x0.length:Int) then (chattelref01_Mul.l1 k x0 x1 x5 x6 0 0) else ((chattelref01_Trim.f k x5).bind fun t437=>(some t437))
def chattelref01_Mul.l1:Nat→List Int→List Int→List Int→Int→Int→Int→Option (List Int)
  | 0,_,_,_,_,_,_=>none
  | k + 1,x0,x1,x5,x6,x7,x8=>if x8 < (x1.length:Int) then ((chattelref01_at.f x1 x8).bind fun t440=>(if 0≤(wrap64 (x6 + x8)) then (if (wrap64 (x6 + x8)) < (x5.length:Int) then (if 0≤x6 then (if x6 < (x0.length:Int) then (chattelref01_Mul.l1 k x0 x1 (x5.set ((wrap64 (x6 + x8)):Int).toNat (Int.tmod (wrap64 ((wrap64 ((rd x5 (wrap64 (x6 + x8))) + (wrap64 ((rd x0 x6) * t440)))) + x7)) 10000)) x6 (wrap64 (Int.tdiv (wrap64 ((wrap64 ((rd x5 (wrap64 (x6 + x8))) + (wrap64 ((rd x0 x6) * t440)))) + x7)) 10000)) (wrap64 (x8 + 1))) else (none)) else (none)) else (none)) else (none))) else (if x7 > 0 then ((chattelref01_at.f x1 x8).bind fun t444=>(if 0≤(wrap64 (x6 + x8)) then (if (wrap64 (x6 + x8)) < (x5.length:Int) then (if 0≤x6 then (if x6 < (x0.length:Int) then (chattelref01_Mul.l1 k x0 x1 (x5.set ((wrap64 (x6 + x8)):Int).toNat (Int.tmod (wrap64 ((wrap64 ((rd x5 (wrap64 (x6 + x8))) + (wrap64 ((rd x0 x6) * t444)))) + x7)) 10000)) x6 (wrap64 (Int.tdiv (wrap64 ((wrap64 ((rd x5 (wrap64 (x6 + x8))) + (wrap64 ((rd x0 x6) * t444)))) + x7)) 10000)) (wrap64 (x8 + 1))) else (none)) else (none)) else (none)) else (none))) else (chattelref01_Mul.l0 k x0 x1 x5 (wrap64 (x6 + 1))))
end
def chattelref01_Mul.f (k:Nat) (l0:List Int) (l1:List Int):Option (List Int):=if 0≤(wrap64 ((wrap64 ((l0.length:Int) + (l1.length:Int))) + 1)) then (if (wrap64 ((wrap64 ((l0.length:Int) + (l1.length:Int))) + 1):Int).toNat≤35184372088832 then (chattelref01_Mul.l0 k l0 l1 (List.replicate (wrap64 ((wrap64 ((l0.length:Int) + (l1.length:Int))) + 1):Int).toNat 0) 0) else (none)) else (none)
theorem chattelref01_Mul.mono_l : ∀ k,(∀ y0 y1 y2 y3,LeO (chattelref01_Mul.l0 k y0 y1 y2 y3) (chattelref01_Mul.l0 (k + 1) y0 y1 y2 y3))∧(∀ y0 y1 y2 y3 y4 y5,LeO (chattelref01_Mul.l1 k y0 y1 y2 y3 y4 y5) (chattelref01_Mul.l1 (k + 1) y0 y1 y2 y3 y4 y5))
  | 0=>⟨fun _ _ _ _ r h=>by simp [chattelref01_Mul.l0] at h,fun _ _ _ _ _ _ r h=>by simp [chattelref01_Mul.l1] at h⟩
  | k + 1=>by
    obtain ⟨ih0,ih1⟩:=chattelref01_Mul.mono_l k
    refine ⟨?_,?_⟩
    · intro y0 y1 y2 y3
      unfold chattelref01_Mul.l0
      repeat' first
      | (with_reducible exact ih0 _ _ _ _)
      | (with_reducible exact ih1 _ _ _ _ _ _)
      | (with_reducible exact chattelref01_Trim.mono _ _)
      | (with_reducible exact LeO.refl _)
      | (with_reducible exact LeO.none _)
      | (with_reducible refine LeO.ite ?_ ?_)
      | (with_reducible refine LeO.bind ?_ (fun _=>?_))
      | exact ih0 _ _ _ _
      | exact ih1 _ _ _ _ _ _
      | exact chattelref01_Trim.mono _ _
      | exact LeO.none _
      | refine LeO.ite ?_ ?_
      | refine LeO.bind ?_ (fun _=>?_)
    · intro y0 y1 y2 y3 y4 y5
      unfold chattelref01_Mul.l1
      repeat' first
      | (with_reducible exact ih0 _ _ _ _)
      | (with_reducible exact ih1 _ _ _ _ _ _)
      | (with_reducible exact chattelref01_Trim.mono _ _)
      | (with_reducible exact LeO.refl _)
      | (with_reducible exact LeO.none _)
      | (with_reducible refine LeO.ite ?_ ?_)
      | (with_reducible refine LeO.bind ?_ (fun _=>?_))
      | exact ih0 _ _ _ _
      | exact ih1 _ _ _ _ _ _
      | exact chattelref01_Trim.mono _ _
      | exact LeO.none _
      | refine LeO.ite ?_ ?_
      | refine LeO.bind ?_ (fun _=>?_)
theorem chattelref01_Mul.mono : ∀ a0 a1 k,LeO (chattelref01_Mul.f k a0 a1) (chattelref01_Mul.f (k + 1) a0 a1):=by
  intro a0 a1 k
  obtain ⟨ih0,ih1⟩:=chattelref01_Mul.mono_l k
  unfold chattelref01_Mul.f
  repeat' first
      | (with_reducible exact ih0 _ _ _ _)
      | (with_reducible exact ih1 _ _ _ _ _ _)
      | (with_reducible exact chattelref01_Trim.mono _ _)
      | (with_reducible exact LeO.refl _)
      | (with_reducible exact LeO.none _)
      | (with_reducible refine LeO.ite ?_ ?_)
      | (with_reducible refine LeO.bind ?_ (fun _=>?_))
      | exact ih0 _ _ _ _
      | exact ih1 _ _ _ _ _ _
      | exact chattelref01_Trim.mono _ _
      | exact LeO.none _
      | refine LeO.ite ?_ ?_
      | refine LeO.bind ?_ (fun _=>?_)
def chattelref01_Cmp.l0:Nat→List Int→List Int→Int→Option (Int)
  | 0,_,_,_=>none
  | k + 1,x0,x1,x5=>if x5 ≥ 0 then (if 0≤x5 then (if x5 < (x0.length:Int) then (if x5 < (x1.length:Int) then (if (rd x0 x5) < (rd x1 x5) then (some (-1)) else (if (rd x0 x5) > (rd x1 x5) then (some 1) else (chattelref01_Cmp.l0 k x0 x1 (wrap64 (x5 - 1))))) else (none)) else (none)) else (none)) else (some 0)
def chattelref01_Cmp.f (k:Nat) (l0:List Int) (l1:List Int):Option (Int):=if (l0.length:Int)=(l1.length:Int) then (chattelref01_Cmp.l0 k l0 l1 (wrap64 ((l0.length:Int) - 1))) else (if (l0.length:Int) < (l1.length:Int) then (some (-1)) else (some 1))
theorem chattelref01_Cmp.mono_l : ∀ k,(∀ y0 y1 y2,LeO (chattelref01_Cmp.l0 k y0 y1 y2) (chattelref01_Cmp.l0 (k + 1) y0 y1 y2))
  | 0=>fun _ _ _ r h=>by simp [chattelref01_Cmp.l0] at h
  | k + 1=>by
    have ih0:=chattelref01_Cmp.mono_l k
    · intro y0 y1 y2
      unfold chattelref01_Cmp.l0
      repeat' first
      | (with_reducible exact ih0 _ _ _)
      | (with_reducible exact LeO.refl _)
      | (with_reducible exact LeO.none _)
      | (with_reducible refine LeO.ite ?_ ?_)
      | (with_reducible refine LeO.bind ?_ (fun _=>?_))
      | exact ih0 _ _ _
      | exact LeO.none _
      | refine LeO.ite ?_ ?_
      | refine LeO.bind ?_ (fun _=>?_)
theorem chattelref01_Cmp.mono : ∀ a0 a1 k,LeO (chattelref01_Cmp.f k a0 a1) (chattelref01_Cmp.f (k + 1) a0 a1):=by
  intro a0 a1 k
  have ih0:=chattelref01_Cmp.mono_l k
  unfold chattelref01_Cmp.f
  repeat' first
      | (with_reducible exact ih0 _ _ _)
      | (with_reducible exact LeO.refl _)
      | (with_reducible exact LeO.none _)
      | (with_reducible refine LeO.ite ?_ ?_)
      | (with_reducible refine LeO.bind ?_ (fun _=>?_))
      | exact ih0 _ _ _
      | exact LeO.none _
      | refine LeO.ite ?_ ?_
      | refine LeO.bind ?_ (fun _=>?_)
def chattelref01_Sub.l0:Nat→List Int→List Int→List Int→Int→Int→Option (List Int)
  | 0,_,_,_,_,_=>none
  | k + 1,x0,x1,x5,x6,x7=>if x7 < (x0.length:Int) then ((chattelref01_at.f x1 x7).bind fun t452=>(if 0≤x7 then (if (wrap64 ((wrap64 ((rd x0 x7) - t452)) - x6)) < 0 then (if x5.length < 17592186044416 then (chattelref01_Sub.l0 k x0 x1 (x5 ++ [wrap64 ((wrap64 ((wrap64 ((rd x0 x7) - t452)) - x6)) + 10000)]) 1 (wrap64 (x7 + 1))) else (none)) else (if x5.length < 17592186044416 then (chattelref01_Sub.l0 k x0 x1 (x5 ++ [wrap64 ((wrap64 ((rd x0 x7) - t452)) - x6)]) 0 (wrap64 (x7 + 1))) else (none))) else (none))) else ((chattelref01_Trim.f k x5).bind fun t460=>(some t460))
def chattelref01_Sub.f (k:Nat) (l0:List Int) (l1:List Int):Option (List Int):=chattelref01_Sub.l0 k l0 l1 ([]:List Int) 0 0
theorem chattelref01_Sub.mono_l : ∀ k,(∀ y0 y1 y2 y3 y4,LeO (chattelref01_Sub.l0 k y0 y1 y2 y3 y4) (chattelref01_Sub.l0 (k + 1) y0 y1 y2 y3 y4))
  | 0=>fun _ _ _ _ _ r h=>by simp [chattelref01_Sub.l0] at h
  | k + 1=>by
    have ih0:=chattelref01_Sub.mono_l k
    · intro y0 y1 y2 y3 y4
      unfold chattelref01_Sub.l0
      repeat' first
      | (with_reducible exact ih0 _ _ _ _ _)
      | (with_reducible exact chattelref01_Trim.mono _ _)
      | (with_reducible exact LeO.refl _)
      | (with_reducible exact LeO.none _)
      | (with_reducible refine LeO.ite ?_ ?_)
      | (with_reducible refine LeO.bind ?_ (fun _=>?_))
      | exact ih0 _ _ _ _ _
      | exact chattelref01_Trim.mono _ _
      | exact LeO.none _
      | refine LeO.ite ?_ ?_
      | refine LeO.bind ?_ (fun _=>?_)
theorem chattelref01_Sub.mono : ∀ a0 a1 k,LeO (chattelref01_Sub.f k a0 a1) (chattelref01_Sub.f (k + 1) a0 a1):=by
  intro a0 a1 k
  have ih0:=chattelref01_Sub.mono_l k
  unfold chattelref01_Sub.f
  repeat' first
      | (with_reducible exact ih0 _ _ _ _ _)
      | (with_reducible exact chattelref01_Trim.mono _ _)
      | (with_reducible exact LeO.refl _)
      | (with_reducible exact LeO.none _)
      | (with_reducible refine LeO.ite ?_ ?_)
      | (with_reducible refine LeO.bind ?_ (fun _=>?_))
      | exact ih0 _ _ _ _ _
      | exact chattelref01_Trim.mono _ _
      | exact LeO.none _
      | refine LeO.ite ?_ ?_
      | refine LeO.bind ?_ (fun _=>?_)
mutual
def chattelref01_DivMod.l0:Nat→List Int→List Int→List Int→List Int→Int→Option (List Int×List Int)
  | 0,_,_,_,_,_=>none
  | k + 1,x0,x1,x6,x7,x8=>if x8 ≥ 0 then (if 0≤x8 then (if x8 < (x0.length:Int) then ((some (([rd x0 x8]:List Int):List Int)).bind fun y470=>(if y470.length + x7.length < 17592186044416 then ((chattelref01_Trim.f k (y470 ++ x7)).bind fun t476=>(chattelref01_DivMod.l1 k x0 x1 x6 t476 x8 0 9999)) else (none))) else (none)) else (none)) else ((chattelref01_Trim.f k x6).bind fun t466=>(some (t466,x7)))
def chattelref01_DivMod.l1:Nat→List Int→List Int→List Int→List Int→Int→Int→Int→Option (List Int×List Int)
  | 0,_,_,_,_,_,_,_=>none
  | k + 1,x0,x1,x6,x7,x8,x10,x11=>if x10 < x11 then ((chattelref01_Small.f k (wrap64 (Int.tdiv (wrap64 ((wrap64 (x10 + x11)) + 1)) 2))).bind fun t489=>((chattelref01_Mul.f k x1 t489).bind fun t492=>((chattelref01_Cmp.f k t492 x7).bind fun t495=>(if t495≤0 then (chattelref01_DivMod.l1 k x0 x1 x6 x7 x8 (wrap64 (Int.tdiv (wrap64 ((wrap64 (x10 + x11)) + 1)) 2)) x11) else (chattelref01_DivMod.l1 k x0 x1 x6 x7 x8 x10 (wrap64 ((wrap64 (Int.tdiv (wrap64 ((wrap64 (x10 + x11)) + 1)) 2)) - 1))))))) else (if 0≤x8 then (if x8 < (x6.length:Int) then ((chattelref01_Small.f k x10).bind fun t480=>((chattelref01_Mul.f k x1 t480).bind fun t483=>((chattelref01_Sub.f k x7 t483).bind fun t486=>(chattelref01_DivMod.l0 k x0 x1 (x6.set (x8:Int).toNat x10) t486 (wrap64 (x8 - 1)))))) else (none)) else (none))
end
def chattelref01_DivMod.f (k:Nat) (l0:List Int) (l1:List Int):Option (List Int×List Int):=if 0≤(l0.length:Int) then (if ((l0.length:Int):Int).toNat≤35184372088832 then (chattelref01_DivMod.l0 k l0 l1 (List.replicate ((l0.length:Int):Int).toNat 0) ([]:List Int) (wrap64 ((l0.length:Int) - 1))) else (none)) else (none)
theorem chattelref01_DivMod.mono_l : ∀ k,(∀ y0 y1 y2 y3 y4,LeO (chattelref01_DivMod.l0 k y0 y1 y2 y3 y4) (chattelref01_DivMod.l0 (k + 1) y0 y1 y2 y3 y4))∧(∀ y0 y1 y2 y3 y4 y5 y6,LeO (chattelref01_DivMod.l1 k y0 y1 y2 y3 y4 y5 y6) (chattelref01_DivMod.l1 (k + 1) y0 y1 y2 y3 y4 y5 y6))
  | 0=>⟨fun _ _ _ _ _ r h=>by simp [chattelref01_DivMod.l0] at h,fun _ _ _ _ _ _ _ r h=>by simp [chattelref01_DivMod.l1] at h⟩
  | k + 1=>by
    obtain ⟨ih0,ih1⟩:=chattelref01_DivMod.mono_l k
    refine ⟨?_,?_⟩
    · intro y0 y1 y2 y3 y4
      unfold chattelref01_DivMod.l0
      repeat' first
      | (with_reducible exact ih0 _ _ _ _ _)
      | (with_reducible exact ih1 _ _ _ _ _ _ _)
      | (with_reducible exact chattelref01_Cmp.mono _ _ _)
      | (with_reducible exact chattelref01_Mul.mono _ _ _)
      | (with_reducible exact chattelref01_Small.mono _ _)
      | (with_reducible exact chattelref01_Sub.mono _ _ _)
      | (with_reducible exact chattelref01_Trim.mono _ _)
      | (with_reducible exact LeO.refl _)
      | (with_reducible exact LeO.none _)
      | (with_reducible refine LeO.ite ?_ ?_)
      | (with_reducible refine LeO.bind ?_ (fun _=>?_))
      | exact ih0 _ _ _ _ _
      | exact ih1 _ _ _ _ _ _ _
      | exact chattelref01_Cmp.mono _ _ _
      | exact chattelref01_Mul.mono _ _ _
      | exact chattelref01_Small.mono _ _
      | exact chattelref01_Sub.mono _ _ _
      | exact chattelref01_Trim.mono _ _
      | exact LeO.none _
      | refine LeO.ite ?_ ?_
      | refine LeO.bind ?_ (fun _=>?_)
    · intro y0 y1 y2 y3 y4 y5 y6
      unfold chattelref01_DivMod.l1
      repeat' first
      | (with_reducible exact ih0 _ _ _ _ _)
      | (with_reducible exact ih1 _ _ _ _ _ _ _)
      | (with_reducible exact chattelref01_Cmp.mono _ _ _)
      | (with_reducible exact chattelref01_Mul.mono _ _ _)
      | (with_reducible exact chattelref01_Small.mono _ _)
      | (with_reducible exact chattelref01_Sub.mono _ _ _)
      | (with_reducible exact chattelref01_Trim.mono _ _)
      | (with_reducible exact LeO.refl _)
      | (with_reducible exact LeO.none _)
      | (with_reducible refine LeO.ite ?_ ?_)
      | (with_reducible refine LeO.bind ?_ (fun _=>?_))
      | exact ih0 _ _ _ _ _
      | exact ih1 _ _ _ _ _ _ _
      | exact chattelref01_Cmp.mono _ _ _
      | exact chattelref01_Mul.mono _ _ _
      | exact chattelref01_Small.mono _ _
      | exact chattelref01_Sub.mono _ _ _
      | exact chattelref01_Trim.mono _ _
      | exact LeO.none _
      | refine LeO.ite ?_ ?_
      | refine LeO.bind ?_ (fun _=>?_)
theorem chattelref01_DivMod.mono : ∀ a0 a1 k,LeO (chattelref01_DivMod.f k a0 a1) (chattelref01_DivMod.f (k + 1) a0 a1):=by
  intro a0 a1 k
  obtain ⟨ih0,ih1⟩:=chattelref01_DivMod.mono_l k
  unfold chattelref01_DivMod.f
  repeat' first
      | (with_reducible exact ih0 _ _ _ _ _)
      | (with_reducible exact ih1 _ _ _ _ _ _ _)
      | (with_reducible exact chattelref01_Cmp.mono _ _ _)
      | (with_reducible exact chattelref01_Mul.mono _ _ _)
      | (with_reducible exact chattelref01_Small.mono _ _)
      | (with_reducible exact chattelref01_Sub.mono _ _ _)
      | (with_reducible exact chattelref01_Trim.mono _ _)
      | (with_reducible exact LeO.refl _)
      | (with_reducible exact LeO.none _)
      | (with_reducible refine LeO.ite ?_ ?_)
      | (with_reducible refine LeO.bind ?_ (fun _=>?_))
      | exact ih0 _ _ _ _ _
      | exact ih1 _ _ _ _ _ _ _
      | exact chattelref01_Cmp.mono _ _ _
      | exact chattelref01_Mul.mono _ _ _
      | exact chattelref01_Small.mono _ _
      | exact chattelref01_Sub.mono _ _ _
      | exact chattelref01_Trim.mono _ _
      | exact LeO.none _
      | refine LeO.ite ?_ ?_
      | refine LeO.bind ?_ (fun _=>?_)
def chattelref02_Gcd.l0:Nat→List Int→List Int→Option (List Int)
  | 0,_,_=>none
  | k + 1,x0,x1=>if (x1.length:Int) > 0 then ((chattelref01_DivMod.f k x0 x1).bind fun bt496=>(chattelref02_Gcd.l0 k x1 bt496.2)) else (some x0)
def chattelref02_Gcd.f (k:Nat) (l0:List Int) (l1:List Int):Option (List Int):=chattelref02_Gcd.l0 k l0 l1
theorem chattelref02_Gcd.mono_l : ∀ k,(∀ y0 y1,LeO (chattelref02_Gcd.l0 k y0 y1) (chattelref02_Gcd.l0 (k + 1) y0 y1))
  | 0=>fun _ _ r h=>by simp [chattelref02_Gcd.l0] at h
  | k + 1=>by
    have ih0:=chattelref02_Gcd.mono_l k
    · intro y0 y1
      unfold chattelref02_Gcd.l0
      repeat' first
      | (with_reducible exact ih0 _ _)
      | (with_reducible exact chattelref01_DivMod.mono _ _ _)
      | (with_reducible exact LeO.refl _)
      | (with_reducible exact LeO.none _)
      | (with_reducible refine LeO.ite ?_ ?_)
      | (with_reducible refine LeO.bind ?_ (fun _=>?_))
      | exact ih0 _ _
      | exact chattelref01_DivMod.mono _ _ _
      | exact LeO.none _
      | refine LeO.ite ?_ ?_
      | refine LeO.bind ?_ (fun _=>?_)
theorem chattelref02_Gcd.mono : ∀ a0 a1 k,LeO (chattelref02_Gcd.f k a0 a1) (chattelref02_Gcd.f (k + 1) a0 a1):=by
  intro a0 a1 k
  have ih0:=chattelref02_Gcd.mono_l k
  unfold chattelref02_Gcd.f
  repeat' first
      | (with_reducible exact ih0 _ _)
      | (with_reducible exact chattelref01_DivMod.mono _ _ _)
      | (with_reducible exact LeO.refl _)
      | (with_reducible exact LeO.none _)
      | (with_reducible refine LeO.ite ?_ ?_)
      | (with_reducible refine LeO.bind ?_ (fun _=>?_))
      | exact ih0 _ _
      | exact chattelref01_DivMod.mono _ _ _
      | exact LeO.none _
      | refine LeO.ite ?_ ?_
      | refine LeO.bind ?_ (fun _=>?_)
def chattelref05_Make.f (k:Nat) (l0_0:List Int) (a0_1:Bool) (l1:List Int):Option (List Int×Bool×List Int):=(chattelref02_Gcd.f k l0_0 l1).bind fun t504=>((chattelref01_DivMod.f k l0_0 t504).bind fun bt507=>((chattelref01_DivMod.f k l1 t504).bind fun bt513=>((chattelref04_Of.f bt507.1 a0_1).bind fun bt519=>(some (bt519.1,bt519.2,bt513.1)))))
theorem chattelref05_Make.mono : ∀ a0 a1 a2 k,LeO (chattelref05_Make.f k a0 a1 a2) (chattelref05_Make.f (k + 1) a0 a1 a2):=by
  intro a0 a1 a2 k
  unfold chattelref05_Make.f
  repeat' first
      | (with_reducible exact chattelref01_DivMod.mono _ _ _)
      | (with_reducible exact chattelref02_Gcd.mono _ _ _)
      | (with_reducible exact LeO.refl _)
      | (with_reducible exact LeO.none _)
      | (with_reducible refine LeO.ite ?_ ?_)
      | (with_reducible refine LeO.bind ?_ (fun _=>?_))
      | exact chattelref01_DivMod.mono _ _ _
      | exact chattelref02_Gcd.mono _ _ _
      | exact LeO.none _
      | refine LeO.ite ?_ ?_
      | refine LeO.bind ?_ (fun _=>?_)
def chattelref04_Neg.f (l0_0:List Int) (a0_1:Bool):Option (List Int×Bool):=(chattelref04_Of.f l0_0 (!a0_1)).bind fun bt526=>(some (bt526.1,bt526.2))
def chattelref05_Of.f (k:Nat) (l0_0:List Int) (a0_1:Bool) (l1_0:List Int) (a1_1:Bool):Option (List Int×Bool×List Int):=if a1_1=true then ((chattelref04_Neg.f l0_0 a0_1).bind fun bt533=>((chattelref05_Make.f k bt533.1 bt533.2 l1_0).bind fun bt537=>(some (bt537.1,bt537.2.1,bt537.2.2)))) else ((chattelref05_Make.f k l0_0 a0_1 l1_0).bind fun bt544=>(some (bt544.1,bt544.2.1,bt544.2.2)))
theorem chattelref05_Of.mono : ∀ a0 a1 a2 a3 k,LeO (chattelref05_Of.f k a0 a1 a2 a3) (chattelref05_Of.f (k + 1) a0 a1 a2 a3):=by
  intro a0 a1 a2 a3 k
  unfold chattelref05_Of.f
  repeat' first
      | (with_reducible exact chattelref05_Make.mono _ _ _ _)
      | (with_reducible exact LeO.refl _)
      | (with_reducible exact LeO.none _)
      | (with_reducible refine LeO.ite ?_ ?_)
      | (with_reducible refine LeO.bind ?_ (fun _=>?_))
      | exact chattelref05_Make.mono _ _ _ _
      | exact LeO.none _
      | refine LeO.ite ?_ ?_
      | refine LeO.bind ?_ (fun _=>?_)
def chattelref05_Small.f (k:Nat) (a0:Int) (a1:Int):Option (List Int×Bool×List Int):=(chattelref04_From.f k a0).bind fun bt552=>((chattelref04_From.f k a1).bind fun bt557=>((chattelref05_Of.f k bt552.1 bt552.2 bt557.1 bt557.2).bind fun bt562=>(some (bt562.1,bt562.2.1,bt562.2.2))))
theorem chattelref05_Small.mono : ∀ a0 a1 k,LeO (chattelref05_Small.f k a0 a1) (chattelref05_Small.f (k + 1) a0 a1):=by
  intro a0 a1 k
  unfold chattelref05_Small.f
  repeat' first
      | (with_reducible exact chattelref04_From.mono _ _)
      | (with_reducible exact chattelref05_Of.mono _ _ _ _ _)
      | (with_reducible exact LeO.refl _)
      | (with_reducible exact LeO.none _)
      | (with_reducible refine LeO.ite ?_ ?_)
      | (with_reducible refine LeO.bind ?_ (fun _=>?_))
      | exact chattelref04_From.mono _ _
      | exact chattelref05_Of.mono _ _ _ _ _
      | exact LeO.none _
      | refine LeO.ite ?_ ?_
      | refine LeO.bind ?_ (fun _=>?_)
def chattellaw13_of.f (k:Nat) (a0:Int) (a1:Int):Option (List Int×Bool×List Int×List Int×Bool×List Int):=(whole_From.f k a0).bind fun bt571=>((whole_From.f k a1).bind fun bt575=>((frac_Of.f k bt571.1 bt571.2 bt575.1 bt575.2).bind fun bt579=>((chattelref05_Small.f k a0 a1).bind fun bt588=>(some (bt579.1,bt579.2.1,bt579.2.2.1,bt588.1,bt588.2.1,bt588.2.2)))))
theorem chattellaw13_of.mono : ∀ a0 a1 k,LeO (chattellaw13_of.f k a0 a1) (chattellaw13_of.f (k + 1) a0 a1):=by
  intro a0 a1 k
  unfold chattellaw13_of.f
  repeat' first
      | (with_reducible exact chattelref05_Small.mono _ _ _)
      | (with_reducible exact frac_Of.mono _ _ _ _ _)
      | (with_reducible exact whole_From.mono _ _)
      | (with_reducible exact LeO.refl _)
      | (with_reducible exact LeO.none _)
      | (with_reducible refine LeO.ite ?_ ?_)
      | (with_reducible refine LeO.bind ?_ (fun _=>?_))
      | exact chattelref05_Small.mono _ _ _
      | exact frac_Of.mono _ _ _ _ _
      | exact whole_From.mono _ _
      | exact LeO.none _
      | refine LeO.ite ?_ ?_
      | refine LeO.bind ?_ (fun _=>?_)
def nat_Nat_Bits.f (k:Nat) (l0_0:List Int):Option (Int):=(nat_Nat_Zero.f l0_0).bind fun t596=>(if t596=true then (some 0) else (if 0≤(wrap64 ((l0_0.length:Int) - 1)) then (if (wrap64 ((l0_0.length:Int) - 1)) < (l0_0.length:Int) then ((bits_Len64.f k (rd l0_0 (wrap64 ((l0_0.length:Int) - 1)))).bind fun t598=>(some (wrap64 ((wrap64 (64 * (wrap64 ((l0_0.length:Int) - 1)))) + t598)))) else (none)) else (none)))
theorem nat_Nat_Bits.mono : ∀ a0 k,LeO (nat_Nat_Bits.f k a0) (nat_Nat_Bits.f (k + 1) a0):=by
  intro a0 k
  unfold nat_Nat_Bits.f
  repeat' first
      | (with_reducible exact bits_Len64.mono _ _)
      | (with_reducible exact LeO.refl _)
      | (with_reducible exact LeO.none _)
      | (with_reducible refine LeO.ite ?_ ?_)
      | (with_reducible refine LeO.bind ?_ (fun _=>?_))
      | exact bits_Len64.mono _ _
      | exact LeO.none _
      | refine LeO.ite ?_ ?_
      | refine LeO.bind ?_ (fun _=>?_)
def nat_Nat_row.l0:Nat→Int→List Int→Int→List Int→Int→Int→List Int→Option (List Int)
  | 0,_,_,_,_,_,_,_=>none
  | k + 1,x1,x2,x6,x13,x14,x15,x600000=>if x15 < x14 then (if 0≤x15 then (if x15 < (x13.length:Int) then ((bits_Mul64.f x1 (rd x13 x15)).bind fun bt601=>(if x15 < (x2.length:Int) then (nat_Nat_row.l0 k x1 (x2.set (x15:Int).toNat (add64s (rd x2 x15) (add64s bt601.2 x6 0) 0)) (IntKind.u64.wrap ((IntKind.u64.wrap (bt601.1 + (add64c bt601.2 x6 0))) + (add64c (rd x2 x15) (add64s bt601.2 x6 0) 0))) x13 x14 (wrap64 (x15 + 1)) x600000) else (none))) else (none)) else (none)) else (if 0≤(x600000.length:Int) then (if (x600000.length:Int) < (x2.length:Int) then (some (x2.set ((x600000.length:Int):Int).toNat (IntKind.u64.wrap ((rd x2 (x600000.length:Int)) + x6)))) else (none)) else (none))
def nat_Nat_row.f (k:Nat) (l0_0:List Int) (a1:Int) (l2:List Int):Option (List Int):=nat_Nat_row.l0 k a1 l2 0 l0_0 (l0_0.length:Int) 0 l0_0
theorem nat_Nat_row.mono_l : ∀ k,(∀ y0 y1 y2 y3 y4 y5 y6,LeO (nat_Nat_row.l0 k y0 y1 y2 y3 y4 y5 y6) (nat_Nat_row.l0 (k + 1) y0 y1 y2 y3 y4 y5 y6))
  | 0=>fun _ _ _ _ _ _ _ r h=>by simp [nat_Nat_row.l0] at h
  | k + 1=>by
    have ih0:=nat_Nat_row.mono_l k
    · intro y0 y1 y2 y3 y4 y5 y6
      unfold nat_Nat_row.l0
      repeat' first
      | (with_reducible exact ih0 _ _ _ _ _ _ _)
      | (with_reducible exact LeO.refl _)
      | (with_reducible exact LeO.none _)
      | (with_reducible refine LeO.ite ?_ ?_)
      | (with_reducible refine LeO.bind ?_ (fun _=>?_))
      | exact ih0 _ _ _ _ _ _ _
      | exact LeO.none _
      | refine LeO.ite ?_ ?_
      | refine LeO.bind ?_ (fun _=>?_)
theorem nat_Nat_row.mono : ∀ a0 a1 a2 k,LeO (nat_Nat_row.f k a0 a1 a2) (nat_Nat_row.f (k + 1) a0 a1 a2):=by
  intro a0 a1 a2 k
  have ih0:=nat_Nat_row.mono_l k
  unfold nat_Nat_row.f
  repeat' first
      | (with_reducible exact ih0 _ _ _ _ _ _ _)
      | (with_reducible exact LeO.refl _)
      | (with_reducible exact LeO.none _)
      | (with_reducible refine LeO.ite ?_ ?_)
      | (with_reducible refine LeO.bind ?_ (fun _=>?_))
      | exact ih0 _ _ _ _ _ _ _
      | exact LeO.none _
      | refine LeO.ite ?_ ?_
      | refine LeO.bind ?_ (fun _=>?_)
def nat_Nat_rowW.f (k:Nat) (l0_0:List Int) (a1:Int) (l2:List Int) (lo_ hi_:Int):Option (List Int):=if 0≤lo_∧lo_ < hi_∧hi_≤(l2.length:Int) then (nat_Nat_row.f k l0_0 a1 ((l2.take hi_.toNat).drop lo_.toNat)).map (fun r_=>l2.take lo_.toNat ++ r_ ++ l2.drop hi_.toNat) else none
theorem nat_Nat_rowW.mono : ∀ a0 a1 a2 a3 a4 k,LeO (nat_Nat_rowW.f k a0 a1 a2 a3 a4) (nat_Nat_rowW.f (k + 1) a0 a1 a2 a3 a4):=by
  intro a0 a1 a2 a3 a4 k
  unfold nat_Nat_rowW.f
  refine LeO.ite ?_ (LeO.none _)
  intro r hr
  obtain ⟨r',h1,h2⟩:=Option.map_eq_some_iff.mp hr
  exact Option.map_eq_some_iff.mpr ⟨r',nat_Nat_row.mono _ _ _  k r' h1,h2⟩
def nat_Nat_Mul.l0:Nat→List Int→List Int→Int→Int→List Int→Option (List Int)
  | 0,_,_,_,_,_=>none
  | k + 1,x5,x18,x19,x20,x608000=>if x20 < x19 then (if 0≤x20 then (if x20 < (x18.length:Int) then (if x20 < (x5.length:Int) then ((nat_Nat_rowW.f k x608000 (rd x18 x20) x5 x20 (x5.length:Int)).bind fun t614=>(nat_Nat_Mul.l0 k t614 x18 x19 (wrap64 (x20 + 1)) x608000)) else (none)) else (none)) else (none)) else ((nat_trimmed.f k x5).bind fun t615=>(some t615))
def nat_Nat_Mul.f (k:Nat) (l0_0:List Int) (l1_0:List Int):Option (List Int):=if 0≤(wrap64 ((wrap64 ((l0_0.length:Int) + (l1_0.length:Int))) + 1)) then (if (wrap64 ((wrap64 ((l0_0.length:Int) + (l1_0.length:Int))) + 1):Int).toNat≤35184372088832 then (nat_Nat_Mul.l0 k (List.replicate (wrap64 ((wrap64 ((l0_0.length:Int) + (l1_0.length:Int))) + 1):Int).toNat 0) l1_0 (l1_0.length:Int) 0 l0_0) else (none)) else (none)
theorem nat_Nat_Mul.mono_l : ∀ k,(∀ y0 y1 y2 y3 y4,LeO (nat_Nat_Mul.l0 k y0 y1 y2 y3 y4) (nat_Nat_Mul.l0 (k + 1) y0 y1 y2 y3 y4))
  | 0=>fun _ _ _ _ _ r h=>by simp [nat_Nat_Mul.l0] at h
  | k + 1=>by
    have ih0:=nat_Nat_Mul.mono_l k
    · intro y0 y1 y2 y3 y4
      unfold nat_Nat_Mul.l0
      repeat' first
      | (with_reducible exact ih0 _ _ _ _ _)
      | (with_reducible exact nat_Nat_rowW.mono _ _ _ _ _ _)
      | (with_reducible exact nat_trimmed.mono _ _)
      | (with_reducible exact LeO.refl _)
      | (with_reducible exact LeO.none _)
      | (with_reducible refine LeO.ite ?_ ?_)
      | (with_reducible refine LeO.bind ?_ (fun _=>?_))
      | exact ih0 _ _ _ _ _
      | exact nat_Nat_rowW.mono _ _ _ _ _ _
      | exact nat_trimmed.mono _ _
      | exact LeO.none _
      | refine LeO.ite ?_ ?_
      | refine LeO.bind ?_ (fun _=>?_)
theorem nat_Nat_Mul.mono : ∀ a0 a1 k,LeO (nat_Nat_Mul.f k a0 a1) (nat_Nat_Mul.f (k + 1) a0 a1):=by
  intro a0 a1 k
  have ih0:=nat_Nat_Mul.mono_l k
  unfold nat_Nat_Mul.f
  repeat' first
      | (with_reducible exact ih0 _ _ _ _ _)
      | (with_reducible exact nat_Nat_rowW.mono _ _ _ _ _ _)
      | (with_reducible exact nat_trimmed.mono _ _)
      | (with_reducible exact LeO.refl _)
      | (with_reducible exact LeO.none _)
      | (with_reducible refine LeO.ite ?_ ?_)
      | (with_reducible refine LeO.bind ?_ (fun _=>?_))
      | exact ih0 _ _ _ _ _
      | exact nat_Nat_rowW.mono _ _ _ _ _ _
      | exact nat_trimmed.mono _ _
      | exact LeO.none _
      | refine LeO.ite ?_ ?_
      | refine LeO.bind ?_ (fun _=>?_)
def digits_power.l0:Nat→Int→List Int→List Int→Option (List Int)
  | 0,_,_,_=>none
  | k + 1,x1,x619000,x627000=>if x1 > 0 then (if (Go.bits .and .i64 x1 1)=1 then ((nat_Nat_Mul.f k x627000 x619000).bind fun t627=>(if x1 > 1 then ((nat_Nat_Mul.f k x619000 x619000).bind fun t630=>(digits_power.l0 k (x1 / 2) t630 t627)) else (digits_power.l0 k (x1 / 2) x619000 t627))) else (if x1 > 1 then ((nat_Nat_Mul.f k x619000 x619000).bind fun t633=>(digits_power.l0 k (x1 / 2) t633 x627000)) else (digits_power.l0 k (x1 / 2) x619000 x627000))) else (some x627000)
def digits_power.f (k:Nat) (l0_0:List Int) (a1:Int):Option (List Int):=(nat_Of.f k (([1]:List Int))).bind fun t623=>(digits_power.l0 k a1 l0_0 t623)
theorem digits_power.mono_l : ∀ k,(∀ y0 y1 y2,LeO (digits_power.l0 k y0 y1 y2) (digits_power.l0 (k + 1) y0 y1 y2))
  | 0=>fun _ _ _ r h=>by simp [digits_power.l0] at h
  | k + 1=>by
    have ih0:=digits_power.mono_l k
    · intro y0 y1 y2
      unfold digits_power.l0
      repeat' first
      | (with_reducible exact ih0 _ _ _)
      | (with_reducible exact nat_Nat_Mul.mono _ _ _)
      | (with_reducible exact nat_Of.mono _ _)
      | (with_reducible exact LeO.refl _)
      | (with_reducible exact LeO.none _)
      | (with_reducible refine LeO.ite ?_ ?_)
      | (with_reducible refine LeO.bind ?_ (fun _=>?_))
      | exact ih0 _ _ _
      | exact nat_Nat_Mul.mono _ _ _
      | exact nat_Of.mono _ _
      | exact LeO.none _
      | refine LeO.ite ?_ ?_
      | refine LeO.bind ?_ (fun _=>?_)
theorem digits_power.mono : ∀ a0 a1 k,LeO (digits_power.f k a0 a1) (digits_power.f (k + 1) a0 a1):=by
  intro a0 a1 k
  have ih0:=digits_power.mono_l k
  unfold digits_power.f
  repeat' first
      | (with_reducible exact ih0 _ _ _)
      | (with_reducible exact nat_Nat_Mul.mono _ _ _)
      | (with_reducible exact nat_Of.mono _ _)
      | (with_reducible exact LeO.refl _)
      | (with_reducible exact LeO.none _)
      | (with_reducible refine LeO.ite ?_ ?_)
      | (with_reducible refine LeO.bind ?_ (fun _=>?_))
      | exact ih0 _ _ _
      | exact nat_Nat_Mul.mono _ _ _
      | exact nat_Of.mono _ _
      | exact LeO.none _
      | refine LeO.ite ?_ ?_
      | refine LeO.bind ?_ (fun _=>?_)
def digits_Pow.f (k:Nat) (l0_0:List Int) (a1:Int):Option (List Int×Int):=if a1 < 0 then (some (([]:List Int),2)) else (if a1 > 1200 then (some (([]:List Int),6)) else ((nat_Nat_Bits.f k l0_0).bind fun t638=>(if (wrap64 (t638 * a1)) > 262144 then (some (([]:List Int),6)) else ((digits_power.f k l0_0 a1).bind fun t639=>(some (t639,0))))))
theorem digits_Pow.mono : ∀ a0 a1 k,LeO (digits_Pow.f k a0 a1) (digits_Pow.f (k + 1) a0 a1):=by
  intro a0 a1 k
  unfold digits_Pow.f
  repeat' first
      | (with_reducible exact digits_power.mono _ _ _)
      | (with_reducible exact nat_Nat_Bits.mono _ _)
      | (with_reducible exact LeO.refl _)
      | (with_reducible exact LeO.none _)
      | (with_reducible refine LeO.ite ?_ ?_)
      | (with_reducible refine LeO.bind ?_ (fun _=>?_))
      | exact digits_power.mono _ _ _
      | exact nat_Nat_Bits.mono _ _
      | exact LeO.none _
      | refine LeO.ite ?_ ?_
      | refine LeO.bind ?_ (fun _=>?_)
def frac_Frac_Num.f (l0_0:List Int) (a0_1:Bool) (l0_2:List Int):Option (List Int×Bool):=some (l0_0,a0_1)
def nat_Nat_Add.l0:Nat→List Int→Int→Int→Int→List Int→List Int→Option (List Int)
  | 0,_,_,_,_,_,_=>none
  | k + 1,x5,x6,x18,x19,x645000,x646000=>if x19 < x18 then ((nat_Nat_limb.f x645000 x19).bind fun t650=>((nat_Nat_limb.f x646000 x19).bind fun t651=>(if x6≤1 then (if 0≤x19 then (if x19 < (x5.length:Int) then (nat_Nat_Add.l0 k (x5.set (x19:Int).toNat (add64s t650 t651 x6)) (add64c t650 t651 x6) x18 (wrap64 (x19 + 1)) x645000 x646000) else (none)) else (none)) else (none)))) else ((nat_trimmed.f k x5).bind fun t653=>(some t653))
def nat_Nat_Add.f (k:Nat) (l0_0:List Int) (l1_0:List Int):Option (List Int):=if 0≤(wrap64 ((mx (l0_0.length:Int) (l1_0.length:Int)) + 1)) then (if (wrap64 ((mx (l0_0.length:Int) (l1_0.length:Int)) + 1):Int).toNat≤35184372088832 then ((some (List.replicate (wrap64 ((mx (l0_0.length:Int) (l1_0.length:Int)) + 1):Int).toNat 0:List Int)).bind fun y647=>(nat_Nat_Add.l0 k y647 0 (y647.length:Int) 0 l0_0 l1_0)) else (none)) else (none)
theorem nat_Nat_Add.mono_l : ∀ k,(∀ y0 y1 y2 y3 y4 y5,LeO (nat_Nat_Add.l0 k y0 y1 y2 y3 y4 y5) (nat_Nat_Add.l0 (k + 1) y0 y1 y2 y3 y4 y5))
  | 0=>fun _ _ _ _ _ _ r h=>by simp [nat_Nat_Add.l0] at h
  | k + 1=>by
    have ih0:=nat_Nat_Add.mono_l k
    · intro y0 y1 y2 y3 y4 y5
      unfold nat_Nat_Add.l0
      repeat' first
      | (with_reducible exact ih0 _ _ _ _ _ _)
      | (with_reducible exact nat_trimmed.mono _ _)
      | (with_reducible exact LeO.refl _)
      | (with_reducible exact LeO.none _)
      | (with_reducible refine LeO.ite ?_ ?_)
      | (with_reducible refine LeO.bind ?_ (fun _=>?_))
      | exact ih0 _ _ _ _ _ _
      | exact nat_trimmed.mono _ _
      | exact LeO.none _
      | refine LeO.ite ?_ ?_
      | refine LeO.bind ?_ (fun _=>?_)
theorem nat_Nat_Add.mono : ∀ a0 a1 k,LeO (nat_Nat_Add.f k a0 a1) (nat_Nat_Add.f (k + 1) a0 a1):=by
  intro a0 a1 k
  have ih0:=nat_Nat_Add.mono_l k
  unfold nat_Nat_Add.f
  repeat' first
      | (with_reducible exact ih0 _ _ _ _ _ _)
      | (with_reducible exact nat_trimmed.mono _ _)
      | (with_reducible exact LeO.refl _)
      | (with_reducible exact LeO.none _)
      | (with_reducible refine LeO.ite ?_ ?_)
      | (with_reducible refine LeO.bind ?_ (fun _=>?_))
      | exact ih0 _ _ _ _ _ _
      | exact nat_trimmed.mono _ _
      | exact LeO.none _
      | refine LeO.ite ?_ ?_
      | refine LeO.bind ?_ (fun _=>?_)
def frac_Frac_Den.f (k:Nat) (l0_0:List Int) (a0_1:Bool) (l0_2:List Int):Option (List Int):=(nat_Of.f k (([1]:List Int))).bind fun t661=>((nat_Nat_Add.f k l0_2 t661).bind fun t664=>(some t664))
theorem frac_Frac_Den.mono : ∀ a0 a1 a2 k,LeO (frac_Frac_Den.f k a0 a1 a2) (frac_Frac_Den.f (k + 1) a0 a1 a2):=by
  intro a0 a1 a2 k
  unfold frac_Frac_Den.f
  repeat' first
      | (with_reducible exact nat_Nat_Add.mono _ _ _)
      | (with_reducible exact nat_Of.mono _ _)
      | (with_reducible exact LeO.refl _)
      | (with_reducible exact LeO.none _)
      | (with_reducible refine LeO.ite ?_ ?_)
      | (with_reducible refine LeO.bind ?_ (fun _=>?_))
      | exact nat_Nat_Add.mono _ _ _
      | exact nat_Of.mono _ _
      | exact LeO.none _
      | refine LeO.ite ?_ ?_
      | refine LeO.bind ?_ (fun _=>?_)
def frac_Frac_Sign.f (l0_0:List Int) (a0_1:Bool) (l0_2:List Int):Option (Int):=(whole_Int_Sign.f l0_0 a0_1).bind fun t668=>(some t668)
def power_Pow.f (k:Nat) (l0_0:List Int) (a0_1:Bool) (l0_2:List Int) (a1:Int):Option (List Int×Bool×List Int×Int):=(frac_Frac_Num.f l0_0 a0_1 l0_2).bind fun bt671=>((whole_Int_Abs.f bt671.1 bt671.2).bind fun t675=>((digits_Pow.f k t675 a1).bind fun bt678=>(if bt678.2=0 then ((frac_Frac_Den.f k l0_0 a0_1 l0_2).bind fun t683=>((digits_Pow.f k t683 a1).bind fun bt686=>(if bt686.2=0 then ((frac_Frac_Sign.f l0_0 a0_1 l0_2).bind fun t691=>(if t691 < 0 then ((whole_Of.f bt678.1 ((Int.tmod a1 2) == 1)).bind fun bt692=>((whole_Of.f bt686.1 false).bind fun bt696=>((frac_Of.f k bt692.1 bt692.2 bt696.1 bt696.2).bind fun bt700=>(some (bt700.1,bt700.2.1,bt700.2.2.1,bt700.2.2.2))))) else ((whole_Of.f bt678.1 false).bind fun bt708=>((whole_Of.f bt686.1 false).bind fun bt712=>((frac_Of.f k bt708.1 bt708.2 bt712.1 bt712.2).bind fun bt716=>(some (bt716.1,bt716.2.1,bt716.2.2.1,bt716.2.2.2))))))) else (some (([]:List Int),false,([]:List Int),bt686.2))))) else (some (([]:List Int),false,([]:List Int),bt678.2)))))
theorem power_Pow.mono : ∀ a0 a1 a2 a3 k,LeO (power_Pow.f k a0 a1 a2 a3) (power_Pow.f (k + 1) a0 a1 a2 a3):=by
  intro a0 a1 a2 a3 k
  unfold power_Pow.f
  repeat' first
      | (with_reducible exact digits_Pow.mono _ _ _)
      | (with_reducible exact frac_Frac_Den.mono _ _ _ _)
      | (with_reducible exact frac_Of.mono _ _ _ _ _)
      | (with_reducible exact LeO.refl _)
      | (with_reducible exact LeO.none _)
      | (with_reducible refine LeO.ite ?_ ?_)
      | (with_reducible refine LeO.bind ?_ (fun _=>?_))
      | exact digits_Pow.mono _ _ _
      | exact frac_Frac_Den.mono _ _ _ _
      | exact frac_Of.mono _ _ _ _ _
      | exact LeO.none _
      | refine LeO.ite ?_ ?_
      | refine LeO.bind ?_ (fun _=>?_)
def digits_small.l0:Nat→Int→Int→List Int→Option (List Int)
  | 0,_,_,_=>none
  | k + 1,n,m,acc=>if 0 < n∨(acc.length:Int) < m then (if acc.length < 20 then digits_small.l0 k (n / 10) m ((48 + n % 10) :: acc) else none) else some acc
def digits_small.f (a0 a1:Int):Option ByteArray:=if 0≤a0∧a0 < 18446744073709551616 then (digits_small.l0 21 a0 a1 []).map strOfNums else none
def digits_small.cells (acc:List Int):Array Value:=((List.replicate (20 - acc.length) (Value.int .u8 0)) ++ acc.map (Value.int .u8)).toArray
def digits_joined.go (l:List ByteArray) (n:Nat):List UInt8:=((l.drop n).reverse.map fun b=>b.data.toList).flatten
def digits_joined.f (l:List ByteArray):Option ByteArray:=if l.length < 4611686018427387904∧(digits_joined.go l 0).length≤140737488355328 then some ⟨(digits_joined.go l 0).toArray⟩ else none
theorem digits_joined.told {l:List ByteArray} {r:ByteArray} (h:digits_joined.f l=some r):l.length < 4611686018427387904∧(digits_joined.go l 0).length≤140737488355328∧r=⟨(digits_joined.go l 0).toArray⟩:=by
  unfold digits_joined.f at h
  split at h
  · next c=>exact ⟨c.1,c.2,(Option.some.inj h).symm⟩
  · cases h
theorem digits_joined.end_ (l:List ByteArray):digits_joined.go l l.length = []:=by simp [digits_joined.go]
theorem digits_joined.step (l:List ByteArray) (n:Nat) (h:n < l.length):digits_joined.go l n=digits_joined.go l (n + 1) ++ (rdOf ByteArray.empty l (n:Int)).data.toList:=by
  unfold digits_joined.go rdOf
  rw [List.drop_eq_getElem_cons h,List.reverse_cons,List.map_append,List.flatten_append,Int.toNat_natCast,List.getD_eq_getElem?_getD,List.getElem?_eq_getElem h]
  simp
theorem digits_joined.mono_len (l:List ByteArray) (n:Nat):(digits_joined.go l n).length≤(digits_joined.go l 0).length:=by
  induction n with
  | zero=>exact Nat.le_refl _
  | succ n ih =>
    rcases Nat.lt_or_ge n l.length with h|h
    · have:=digits_joined.step l n h
      rw [this,List.length_append] at ih
      omega
    · unfold digits_joined.go
      rw [List.drop_eq_nil_of_le (by omega)]
      simp
theorem digits_joined.fits {l:List ByteArray} {n:Nat} (h:n < l.length) (hb:(digits_joined.go l 0).length≤140737488355328):(digits_joined.go l (n + 1)).length + (rdOf ByteArray.empty l (n:Int)).size≤140737488355328:=by
  have h1:=digits_joined.mono_len l n
  rw [digits_joined.step l n h,List.length_append] at h1
  have h2:(rdOf ByteArray.empty l (n:Int)).data.toList.length=(rdOf ByteArray.empty l (n:Int)).size:=rfl
  omega
mutual
def digits_Print.l0:Nat→List ByteArray→List Int→Option (ByteArray)
  | 0,_,_=>none
  | k + 1,x3,x725000=>(nat_Nat_Zero.f x725000).bind fun t726=>(if t726=true then ((digits_joined.f x3).bind fun t727=>(some t727)) else ((nat_Of.f k (([1000000000000000000]:List Int))).bind fun t731=>((quot_Div.f k x725000 t731).bind fun bt734=>((nat_Nat_Limbs.f bt734.2.1).bind fun t743=>(digits_Print.l1 k x3 0 t743 (t743.length:Int) 0 bt734.1)))))
def digits_Print.l1:Nat→List ByteArray→Int→List Int→Int→Int→List Int→Option (ByteArray)
  | 0,_,_,_,_,_,_=>none
  | k + 1,x3,x7,x27,x28,x29,x742000=>if x29 < x28 then (if 0≤x29 then (if x29 < (x27.length:Int) then (digits_Print.l1 k x3 (rd x27 x29) x27 x28 (wrap64 (x29 + 1)) x742000) else (none)) else (none)) else ((nat_Nat_Zero.f x742000).bind fun t747=>(if t747=true then ((digits_small.f x7 1).bind fun t748=>(if x3.length < 8796093022208 then (digits_Print.l0 k (x3 ++ [t748]) x742000) else (none))) else ((digits_small.f x7 18).bind fun t752=>(if x3.length < 8796093022208 then (digits_Print.l0 k (x3 ++ [t752]) x742000) else (none)))))
end
def digits_Print.f (k:Nat) (l0_0:List Int):Option (ByteArray):=(nat_Nat_Zero.f l0_0).bind fun t725=>(if t725=true then (some (⟨#[48]⟩:ByteArray)) else (digits_Print.l0 k ([]:List ByteArray) l0_0))
theorem digits_Print.mono_l : ∀ k,(∀ y0 y1,LeO (digits_Print.l0 k y0 y1) (digits_Print.l0 (k + 1) y0 y1))∧(∀ y0 y1 y2 y3 y4 y5,LeO (digits_Print.l1 k y0 y1 y2 y3 y4 y5) (digits_Print.l1 (k + 1) y0 y1 y2 y3 y4 y5))
  | 0=>⟨fun _ _ r h=>by simp [digits_Print.l0] at h,fun _ _ _ _ _ _ r h=>by simp [digits_Print.l1] at h⟩
  | k + 1=>by
    obtain ⟨ih0,ih1⟩:=digits_Print.mono_l k
    refine ⟨?_,?_⟩
    · intro y0 y1
      unfold digits_Print.l0
      repeat' first
      | (with_reducible exact ih0 _ _)
      | (with_reducible exact ih1 _ _ _ _ _ _)
      | (with_reducible exact nat_Of.mono _ _)
      | (with_reducible exact quot_Div.mono _ _ _)
      | (with_reducible exact LeO.refl _)
      | (with_reducible exact LeO.none _)
      | (with_reducible refine LeO.ite ?_ ?_)
      | (with_reducible refine LeO.bind ?_ (fun _=>?_))
      | exact ih0 _ _
      | exact ih1 _ _ _ _ _ _
      | exact nat_Of.mono _ _
      | exact quot_Div.mono _ _ _
      | exact LeO.none _
      | refine LeO.ite ?_ ?_
      | refine LeO.bind ?_ (fun _=>?_)
    · intro y0 y1 y2 y3 y4 y5
      unfold digits_Print.l1
      repeat' first
      | (with_reducible exact ih0 _ _)
      | (with_reducible exact ih1 _ _ _ _ _ _)
      | (with_reducible exact nat_Of.mono _ _)
      | (with_reducible exact quot_Div.mono _ _ _)
      | (with_reducible exact LeO.refl _)
      | (with_reducible exact LeO.none _)
      | (with_reducible refine LeO.ite ?_ ?_)
      | (with_reducible refine LeO.bind ?_ (fun _=>?_))
      | exact ih0 _ _
      | exact ih1 _ _ _ _ _ _
      | exact nat_Of.mono _ _
      | exact quot_Div.mono _ _ _
      | exact LeO.none _
      | refine LeO.ite ?_ ?_
      | refine LeO.bind ?_ (fun _=>?_)
theorem digits_Print.mono : ∀ a0 k,LeO (digits_Print.f k a0) (digits_Print.f (k + 1) a0):=by
  intro a0 k
  obtain ⟨ih0,ih1⟩:=digits_Print.mono_l k
  unfold digits_Print.f
  repeat' first
      | (with_reducible exact ih0 _ _)
      | (with_reducible exact ih1 _ _ _ _ _ _)
      | (with_reducible exact nat_Of.mono _ _)
      | (with_reducible exact quot_Div.mono _ _ _)
      | (with_reducible exact LeO.refl _)
      | (with_reducible exact LeO.none _)
      | (with_reducible refine LeO.ite ?_ ?_)
      | (with_reducible refine LeO.bind ?_ (fun _=>?_))
      | exact ih0 _ _
      | exact ih1 _ _ _ _ _ _
      | exact nat_Of.mono _ _
      | exact quot_Div.mono _ _ _
      | exact LeO.none _
      | refine LeO.ite ?_ ?_
      | refine LeO.bind ?_ (fun _=>?_)
def whole_Int_Print.f (k:Nat) (l0_0:List Int) (a0_1:Bool):Option (ByteArray):=if a0_1=true then ((digits_Print.f k l0_0).bind fun t757=>(if 1 + t757.size≤9223372036854775807 then (some ((⟨#[45]⟩:ByteArray) ++ t757)) else (none))) else ((digits_Print.f k l0_0).bind fun t758=>(some t758))
theorem whole_Int_Print.mono : ∀ a0 a1 k,LeO (whole_Int_Print.f k a0 a1) (whole_Int_Print.f (k + 1) a0 a1):=by
  intro a0 a1 k
  unfold whole_Int_Print.f
  repeat' first
      | (with_reducible exact digits_Print.mono _ _)
      | (with_reducible exact LeO.refl _)
      | (with_reducible exact LeO.none _)
      | (with_reducible refine LeO.ite ?_ ?_)
      | (with_reducible refine LeO.bind ?_ (fun _=>?_))
      | exact digits_Print.mono _ _
      | exact LeO.none _
      | refine LeO.ite ?_ ?_
      | refine LeO.bind ?_ (fun _=>?_)
def frac_Frac_Print.f (k:Nat) (l0_0:List Int) (a0_1:Bool) (l0_2:List Int):Option (ByteArray):=(nat_Nat_Zero.f l0_2).bind fun t760=>(if t760=true then ((whole_Int_Print.f k l0_0 a0_1).bind fun t761=>(some t761)) else ((whole_Int_Print.f k l0_0 a0_1).bind fun t762=>(if t762.size + 1≤9223372036854775807 then ((frac_Frac_Den.f k l0_0 a0_1 l0_2).bind fun t763=>((digits_Print.f k t763).bind fun t766=>(if (t762 ++ (⟨#[47]⟩:ByteArray)).size + t766.size≤9223372036854775807 then (some ((t762 ++ (⟨#[47]⟩:ByteArray)) ++ t766)) else (none)))) else (none))))
theorem frac_Frac_Print.mono : ∀ a0 a1 a2 k,LeO (frac_Frac_Print.f k a0 a1 a2) (frac_Frac_Print.f (k + 1) a0 a1 a2):=by
  intro a0 a1 a2 k
  unfold frac_Frac_Print.f
  repeat' first
      | (with_reducible exact digits_Print.mono _ _)
      | (with_reducible exact frac_Frac_Den.mono _ _ _ _)
      | (with_reducible exact whole_Int_Print.mono _ _ _)
      | (with_reducible exact LeO.refl _)
      | (with_reducible exact LeO.none _)
      | (with_reducible refine LeO.ite ?_ ?_)
      | (with_reducible refine LeO.bind ?_ (fun _=>?_))
      | exact digits_Print.mono _ _
      | exact frac_Frac_Den.mono _ _ _ _
      | exact whole_Int_Print.mono _ _ _
      | exact LeO.none _
      | refine LeO.ite ?_ ?_
      | refine LeO.bind ?_ (fun _=>?_)
def whole_Int_Mul.f (k:Nat) (l0_0:List Int) (a0_1:Bool) (l1_0:List Int) (a1_1:Bool):Option (List Int×Bool):=(nat_Nat_Mul.f k l0_0 l1_0).bind fun t826=>((whole_Of.f t826 (a0_1 != a1_1)).bind fun bt829=>(some (bt829.1,bt829.2)))
theorem whole_Int_Mul.mono : ∀ a0 a1 a2 a3 k,LeO (whole_Int_Mul.f k a0 a1 a2 a3) (whole_Int_Mul.f (k + 1) a0 a1 a2 a3):=by
  intro a0 a1 a2 a3 k
  unfold whole_Int_Mul.f
  repeat' first
      | (with_reducible exact nat_Nat_Mul.mono _ _ _)
      | (with_reducible exact LeO.refl _)
      | (with_reducible exact LeO.none _)
      | (with_reducible refine LeO.ite ?_ ?_)
      | (with_reducible refine LeO.bind ?_ (fun _=>?_))
      | exact nat_Nat_Mul.mono _ _ _
      | exact LeO.none _
      | refine LeO.ite ?_ ?_
      | refine LeO.bind ?_ (fun _=>?_)
def frac_Frac_den.f (k:Nat) (l0_0:List Int) (a0_1:Bool) (l0_2:List Int):Option (List Int×Bool):=(frac_Frac_Den.f k l0_0 a0_1 l0_2).bind fun t835=>((whole_Of.f t835 false).bind fun bt838=>(some (bt838.1,bt838.2)))
theorem frac_Frac_den.mono : ∀ a0 a1 a2 k,LeO (frac_Frac_den.f k a0 a1 a2) (frac_Frac_den.f (k + 1) a0 a1 a2):=by
  intro a0 a1 a2 k
  unfold frac_Frac_den.f
  repeat' first
      | (with_reducible exact frac_Frac_Den.mono _ _ _ _)
      | (with_reducible exact LeO.refl _)
      | (with_reducible exact LeO.none _)
      | (with_reducible refine LeO.ite ?_ ?_)
      | (with_reducible refine LeO.bind ?_ (fun _=>?_))
      | exact frac_Frac_Den.mono _ _ _ _
      | exact LeO.none _
      | refine LeO.ite ?_ ?_
      | refine LeO.bind ?_ (fun _=>?_)
def frac_Frac_Quo.f (k:Nat) (l0_0:List Int) (a0_1:Bool) (l0_2:List Int) (l1_0:List Int) (a1_1:Bool) (l1_2:List Int):Option (List Int×Bool×List Int×Int):=(frac_Frac_den.f k l1_0 a1_1 l1_2).bind fun bt845=>((whole_Int_Mul.f k l0_0 a0_1 bt845.1 bt845.2).bind fun bt849=>((frac_Frac_den.f k l0_0 a0_1 l0_2).bind fun bt853=>((whole_Int_Mul.f k bt853.1 bt853.2 l1_0 a1_1).bind fun bt857=>((frac_Of.f k bt849.1 bt849.2 bt857.1 bt857.2).bind fun bt861=>(some (bt861.1,bt861.2.1,bt861.2.2.1,bt861.2.2.2))))))
theorem frac_Frac_Quo.mono : ∀ a0 a1 a2 a3 a4 a5 k,LeO (frac_Frac_Quo.f k a0 a1 a2 a3 a4 a5) (frac_Frac_Quo.f (k + 1) a0 a1 a2 a3 a4 a5):=by
  intro a0 a1 a2 a3 a4 a5 k
  unfold frac_Frac_Quo.f
  repeat' first
      | (with_reducible exact frac_Frac_den.mono _ _ _ _)
      | (with_reducible exact frac_Of.mono _ _ _ _ _)
      | (with_reducible exact whole_Int_Mul.mono _ _ _ _ _)
      | (with_reducible exact LeO.refl _)
      | (with_reducible exact LeO.none _)
      | (with_reducible refine LeO.ite ?_ ?_)
      | (with_reducible refine LeO.bind ?_ (fun _=>?_))
      | exact frac_Frac_den.mono _ _ _ _
      | exact frac_Of.mono _ _ _ _ _
      | exact whole_Int_Mul.mono _ _ _ _ _
      | exact LeO.none _
      | refine LeO.ite ?_ ?_
      | refine LeO.bind ?_ (fun _=>?_)
def frac_From.f (l0_0:List Int) (a0_1:Bool):Option (List Int×Bool×List Int):=some (l0_0,a0_1,([]:List Int))
def power_plain.f (l0_0:List Int):Option (List Int×Bool):=(whole_Of.f l0_0 false).bind fun bt873=>(some (bt873.1,bt873.2))
mutual
def power_Level.j0:Nat→Int→Bool→List Int→Bool→List Int→List Int→Bool→List Int→Option (List Int×Bool×List Int×Int)
  | 0,_,_,_,_,_,_,_,_=>none
  | k + 1,x2,x17,x878000,x878001,x878002,x879000,x879001,x879002=>if x17=true then (some (([]:List Int),false,([]:List Int),2)) else ((frac_Frac_Sign.f x879000 x879001 x879002).bind fun t880=>(if t880 < 0 then (some (([]:List Int),false,([]:List Int),18)) else ((frac_Frac_Sign.f x879000 x879001 x879002).bind fun t881=>(if t881=0 then ((whole_From.f k x2).bind fun bt882=>((frac_From.f bt882.1 bt882.2).bind fun bt886=>((frac_Frac_Quo.f k x878000 x878001 x878002 bt886.1 bt886.2.1 bt886.2.2).bind fun bt893=>(some (bt893.1,bt893.2.1,bt893.2.2.1,bt893.2.2.2))))) else ((frac_Frac_Den.f k x879000 x879001 x879002).bind fun t901=>((frac_Frac_Num.f x879000 x879001 x879002).bind fun bt905=>((whole_Int_Abs.f bt905.1 bt905.2).bind fun t909=>((nat_Nat_Add.f k t909 t901).bind fun t912=>((digits_Pow.f k t912 x2).bind fun bt916=>((digits_Pow.f k t901 x2).bind fun bt921=>(if bt916.2=0 then (power_Level.j1 k (bt921.2 != 0) x878000 x878001 x878002 x879000 x879001 x879002 t901 bt916.1 bt921.1) else (power_Level.j1 k true x878000 x878001 x878002 x879000 x879001 x879002 t901 bt916.1 bt921.1))))))))))))
def power_Level.j1:Nat→Bool→List Int→Bool→List Int→List Int→Bool→List Int→List Int→List Int→List Int→Option (List Int×Bool×List Int×Int)
  | 0,_,_,_,_,_,_,_,_,_,_=>none
  | k + 1,x65,x878000,x878001,x878002,x879000,x879001,x879002,x905000,x921000,x926000=>if x65=true then (some (([]:List Int),false,([]:List Int),6)) else ((nat_Nat_Sub.f k x921000 x926000).bind fun bt926=>((frac_Frac_Num.f x878000 x878001 x878002).bind fun bt931=>((frac_Frac_Num.f x879000 x879001 x879002).bind fun bt935=>((whole_Int_Mul.f k bt931.1 bt931.2 bt935.1 bt935.2).bind fun bt939=>((power_plain.f x921000).bind fun bt943=>((whole_Int_Mul.f k bt939.1 bt939.2 bt943.1 bt943.2).bind fun bt947=>((frac_Frac_Den.f k x878000 x878001 x878002).bind fun t952=>((nat_Nat_Mul.f k t952 x905000).bind fun t955=>((nat_Nat_Mul.f k t955 bt926.1).bind fun t958=>((power_plain.f t958).bind fun bt961=>((frac_Of.f k bt947.1 bt947.2 bt961.1 bt961.2).bind fun bt965=>(some (bt965.1,bt965.2.1,bt965.2.2.1,bt965.2.2.2)))))))))))))
end
def power_Level.f (k:Nat) (l0_0:List Int) (a0_1:Bool) (l0_2:List Int) (l1_0:List Int) (a1_1:Bool) (l1_2:List Int) (a2:Int):Option (List Int×Bool×List Int×Int):=if a2 < 1 then (power_Level.j0 k a2 true l0_0 a0_1 l0_2 l1_0 a1_1 l1_2) else (power_Level.j0 k a2 (decide (a2 > 1200)) l0_0 a0_1 l0_2 l1_0 a1_1 l1_2)
theorem power_Level.mono_l : ∀ k,(∀ y0 y1 y2 y3 y4 y5 y6 y7,LeO (power_Level.j0 k y0 y1 y2 y3 y4 y5 y6 y7) (power_Level.j0 (k + 1) y0 y1 y2 y3 y4 y5 y6 y7))∧(∀ y0 y1 y2 y3 y4 y5 y6 y7 y8 y9,LeO (power_Level.j1 k y0 y1 y2 y3 y4 y5 y6 y7 y8 y9) (power_Level.j1 (k + 1) y0 y1 y2 y3 y4 y5 y6 y7 y8 y9))
  | 0=>⟨fun _ _ _ _ _ _ _ _ r h=>by simp [power_Level.j0] at h,fun _ _ _ _ _ _ _ _ _ _ r h=>by simp [power_Level.j1] at h⟩
  | k + 1=>by
    obtain ⟨ih0,ih1⟩:=power_Level.mono_l k
    refine ⟨?_,?_⟩
    · intro y0 y1 y2 y3 y4 y5 y6 y7
      unfold power_Level.j0
      repeat' first
      | (with_reducible exact ih0 _ _ _ _ _ _ _ _)
      | (with_reducible exact ih1 _ _ _ _ _ _ _ _ _ _)
      | (with_reducible exact digits_Pow.mono _ _ _)
      | (with_reducible exact frac_Frac_Den.mono _ _ _ _)
      | (with_reducible exact frac_Frac_Quo.mono _ _ _ _ _ _ _)
      | (with_reducible exact frac_Of.mono _ _ _ _ _)
      | (with_reducible exact nat_Nat_Add.mono _ _ _)
      | (with_reducible exact nat_Nat_Mul.mono _ _ _)
      | (with_reducible exact nat_Nat_Sub.mono _ _ _)
      | (with_reducible exact whole_From.mono _ _)
      | (with_reducible exact whole_Int_Mul.mono _ _ _ _ _)
      | (with_reducible exact LeO.refl _)
      | (with_reducible exact LeO.none _)
      | (with_reducible refine LeO.ite ?_ ?_)
      | (with_reducible refine LeO.bind ?_ (fun _=>?_))
      | exact ih0 _ _ _ _ _ _ _ _
      | exact ih1 _ _ _ _ _ _ _ _ _ _
      | exact digits_Pow.mono _ _ _
      | exact frac_Frac_Den.mono _ _ _ _
      | exact frac_Frac_Quo.mono _ _ _ _ _ _ _
      | exact frac_Of.mono _ _ _ _ _
      | exact nat_Nat_Add.mono _ _ _
      | exact nat_Nat_Mul.mono _ _ _
      | exact nat_Nat_Sub.mono _ _ _
      | exact whole_From.mono _ _
      | exact whole_Int_Mul.mono _ _ _ _ _
      | exact LeO.none _
      | refine LeO.ite ?_ ?_
      | refine LeO.bind ?_ (fun _=>?_)
    · intro y0 y1 y2 y3 y4 y5 y6 y7 y8 y9
      unfold power_Level.j1
      repeat' first
      | (with_reducible exact ih0 _ _ _ _ _ _ _ _)
      | (with_reducible exact ih1 _ _ _ _ _ _ _ _ _ _)
      | (with_reducible exact digits_Pow.mono _ _ _)
      | (with_reducible exact frac_Frac_Den.mono _ _ _ _)
      | (with_reducible exact frac_Frac_Quo.mono _ _ _ _ _ _ _)
      | (with_reducible exact frac_Of.mono _ _ _ _ _)
      | (with_reducible exact nat_Nat_Add.mono _ _ _)
      | (with_reducible exact nat_Nat_Mul.mono _ _ _)
      | (with_reducible exact nat_Nat_Sub.mono _ _ _)
      | (with_reducible exact whole_From.mono _ _)
      | (with_reducible exact whole_Int_Mul.mono _ _ _ _ _)
      | (with_reducible exact LeO.refl _)
      | (with_reducible exact LeO.none _)
      | (with_reducible refine LeO.ite ?_ ?_)
      | (with_reducible refine LeO.bind ?_ (fun _=>?_))
      | exact ih0 _ _ _ _ _ _ _ _
      | exact ih1 _ _ _ _ _ _ _ _ _ _
      | exact digits_Pow.mono _ _ _
      | exact frac_Frac_Den.mono _ _ _ _
      | exact frac_Frac_Quo.mono _ _ _ _ _ _ _
      | exact frac_Of.mono _ _ _ _ _
      | exact nat_Nat_Add.mono _ _ _
      | exact nat_Nat_Mul.mono _ _ _
      | exact nat_Nat_Sub.mono _ _ _
      | exact whole_From.mono _ _
      | exact whole_Int_Mul.mono _ _ _ _ _
      | exact LeO.none _
      | refine LeO.ite ?_ ?_
      | refine LeO.bind ?_ (fun _=>?_)
theorem power_Level.mono : ∀ a0 a1 a2 a3 a4 a5 a6 k,LeO (power_Level.f k a0 a1 a2 a3 a4 a5 a6) (power_Level.f (k + 1) a0 a1 a2 a3 a4 a5 a6):=by
  intro a0 a1 a2 a3 a4 a5 a6 k
  obtain ⟨ih0,ih1⟩:=power_Level.mono_l k
  unfold power_Level.f
  repeat' first
      | (with_reducible exact ih0 _ _ _ _ _ _ _ _)
      | (with_reducible exact ih1 _ _ _ _ _ _ _ _ _ _)
      | (with_reducible exact digits_Pow.mono _ _ _)
      | (with_reducible exact frac_Frac_Den.mono _ _ _ _)
      | (with_reducible exact frac_Frac_Quo.mono _ _ _ _ _ _ _)
      | (with_reducible exact frac_Of.mono _ _ _ _ _)
      | (with_reducible exact nat_Nat_Add.mono _ _ _)
      | (with_reducible exact nat_Nat_Mul.mono _ _ _)
      | (with_reducible exact nat_Nat_Sub.mono _ _ _)
      | (with_reducible exact whole_From.mono _ _)
      | (with_reducible exact whole_Int_Mul.mono _ _ _ _ _)
      | (with_reducible exact LeO.refl _)
      | (with_reducible exact LeO.none _)
      | (with_reducible refine LeO.ite ?_ ?_)
      | (with_reducible refine LeO.bind ?_ (fun _=>?_))
      | exact ih0 _ _ _ _ _ _ _ _
      | exact ih1 _ _ _ _ _ _ _ _ _ _
      | exact digits_Pow.mono _ _ _
      | exact frac_Frac_Den.mono _ _ _ _
      | exact frac_Frac_Quo.mono _ _ _ _ _ _ _
      | exact frac_Of.mono _ _ _ _ _
      | exact nat_Nat_Add.mono _ _ _
      | exact nat_Nat_Mul.mono _ _ _
      | exact nat_Nat_Sub.mono _ _ _
      | exact whole_From.mono _ _
      | exact whole_Int_Mul.mono _ _ _ _ _
      | exact LeO.none _
      | refine LeO.ite ?_ ?_
      | refine LeO.bind ?_ (fun _=>?_)
def frac_Frac_Mul.f (k:Nat) (l0_0:List Int) (a0_1:Bool) (l0_2:List Int) (l1_0:List Int) (a1_1:Bool) (l1_2:List Int):Option (List Int×Bool×List Int):=(whole_Int_Mul.f k l0_0 a0_1 l1_0 a1_1).bind fun bt976=>((frac_Frac_Den.f k l0_0 a0_1 l0_2).bind fun t980=>((frac_Frac_Den.f k l1_0 a1_1 l1_2).bind fun t983=>((nat_Nat_Mul.f k t980 t983).bind fun t986=>((frac_made.f k bt976.1 bt976.2 t986).bind fun bt989=>(some (bt989.1,bt989.2.1,bt989.2.2))))))
theorem frac_Frac_Mul.mono : ∀ a0 a1 a2 a3 a4 a5 k,LeO (frac_Frac_Mul.f k a0 a1 a2 a3 a4 a5) (frac_Frac_Mul.f (k + 1) a0 a1 a2 a3 a4 a5):=by
  intro a0 a1 a2 a3 a4 a5 k
  unfold frac_Frac_Mul.f
  repeat' first
      | (with_reducible exact frac_Frac_Den.mono _ _ _ _)
      | (with_reducible exact frac_made.mono _ _ _ _)
      | (with_reducible exact nat_Nat_Mul.mono _ _ _)
      | (with_reducible exact whole_Int_Mul.mono _ _ _ _ _)
      | (with_reducible exact LeO.refl _)
      | (with_reducible exact LeO.none _)
      | (with_reducible refine LeO.ite ?_ ?_)
      | (with_reducible refine LeO.bind ?_ (fun _=>?_))
      | exact frac_Frac_Den.mono _ _ _ _
      | exact frac_made.mono _ _ _ _
      | exact nat_Nat_Mul.mono _ _ _
      | exact whole_Int_Mul.mono _ _ _ _ _
      | exact LeO.none _
      | refine LeO.ite ?_ ?_
      | refine LeO.bind ?_ (fun _=>?_)
def whole_Int_Add.f (k:Nat) (l0_0:List Int) (a0_1:Bool) (l1_0:List Int) (a1_1:Bool):Option (List Int×Bool):=if (a0_1 == a1_1)=true then ((nat_Nat_Add.f k l0_0 l1_0).bind fun t999=>((whole_Of.f t999 a0_1).bind fun bt1002=>(some (bt1002.1,bt1002.2)))) else ((nat_Nat_Sub.f k l0_0 l1_0).bind fun bt1006=>(if bt1006.2=true then ((whole_Of.f bt1006.1 a0_1).bind fun bt1011=>(some (bt1011.1,bt1011.2))) else ((nat_Nat_Sub.f k l1_0 l0_0).bind fun bt1015=>((whole_Of.f bt1015.1 a1_1).bind fun bt1020=>(some (bt1020.1,bt1020.2))))))
theorem whole_Int_Add.mono : ∀ a0 a1 a2 a3 k,LeO (whole_Int_Add.f k a0 a1 a2 a3) (whole_Int_Add.f (k + 1) a0 a1 a2 a3):=by
  intro a0 a1 a2 a3 k
  unfold whole_Int_Add.f
  repeat' first
      | (with_reducible exact nat_Nat_Add.mono _ _ _)
      | (with_reducible exact nat_Nat_Sub.mono _ _ _)
      | (with_reducible exact LeO.refl _)
      | (with_reducible exact LeO.none _)
      | (with_reducible refine LeO.ite ?_ ?_)
      | (with_reducible refine LeO.bind ?_ (fun _=>?_))
      | exact nat_Nat_Add.mono _ _ _
      | exact nat_Nat_Sub.mono _ _ _
      | exact LeO.none _
      | refine LeO.ite ?_ ?_
      | refine LeO.bind ?_ (fun _=>?_)
def frac_Frac_Add.f (k:Nat) (l0_0:List Int) (a0_1:Bool) (l0_2:List Int) (l1_0:List Int) (a1_1:Bool) (l1_2:List Int):Option (List Int×Bool×List Int):=(frac_Frac_den.f k l1_0 a1_1 l1_2).bind fun bt1027=>((whole_Int_Mul.f k l0_0 a0_1 bt1027.1 bt1027.2).bind fun bt1031=>((frac_Frac_den.f k l0_0 a0_1 l0_2).bind fun bt1035=>((whole_Int_Mul.f k l1_0 a1_1 bt1035.1 bt1035.2).bind fun bt1039=>((whole_Int_Add.f k bt1031.1 bt1031.2 bt1039.1 bt1039.2).bind fun bt1043=>((frac_Frac_Den.f k l0_0 a0_1 l0_2).bind fun t1047=>((frac_Frac_Den.f k l1_0 a1_1 l1_2).bind fun t1050=>((nat_Nat_Mul.f k t1047 t1050).bind fun t1053=>((frac_made.f k bt1043.1 bt1043.2 t1053).bind fun bt1056=>(some (bt1056.1,bt1056.2.1,bt1056.2.2))))))))))
theorem frac_Frac_Add.mono : ∀ a0 a1 a2 a3 a4 a5 k,LeO (frac_Frac_Add.f k a0 a1 a2 a3 a4 a5) (frac_Frac_Add.f (k + 1) a0 a1 a2 a3 a4 a5):=by
  intro a0 a1 a2 a3 a4 a5 k
  unfold frac_Frac_Add.f
  repeat' first
      | (with_reducible exact frac_Frac_Den.mono _ _ _ _)
      | (with_reducible exact frac_Frac_den.mono _ _ _ _)
      | (with_reducible exact frac_made.mono _ _ _ _)
      | (with_reducible exact nat_Nat_Mul.mono _ _ _)
      | (with_reducible exact whole_Int_Add.mono _ _ _ _ _)
      | (with_reducible exact whole_Int_Mul.mono _ _ _ _ _)
      | (with_reducible exact LeO.refl _)
      | (with_reducible exact LeO.none _)
      | (with_reducible refine LeO.ite ?_ ?_)
      | (with_reducible refine LeO.bind ?_ (fun _=>?_))
      | exact frac_Frac_Den.mono _ _ _ _
      | exact frac_Frac_den.mono _ _ _ _
      | exact frac_made.mono _ _ _ _
      | exact nat_Nat_Mul.mono _ _ _
      | exact whole_Int_Add.mono _ _ _ _ _
      | exact whole_Int_Mul.mono _ _ _ _ _
      | exact LeO.none _
      | refine LeO.ite ?_ ?_
      | refine LeO.bind ?_ (fun _=>?_)
def power_Poly.l0:Nat→List (S28)→Int→List Int→Bool→List Int→List Int→Bool→List Int→Option (List Int×Bool×List Int)
  | 0,_,_,_,_,_,_,_,_=>none
  | k + 1,x1,x6,x1064000,x1064001,x1064002,x1066000,x1066001,x1066002=>if x6 ≥ 0 then ((frac_Frac_Mul.f k x1066000 x1066001 x1066002 x1064000 x1064001 x1064002).bind fun bt1066=>(if 0≤x6 then (if x6 < (x1.length:Int) then ((frac_Frac_Add.f k bt1066.1 bt1066.2.1 bt1066.2.2 ((rd_T28 x1 x6).f0.f0.f0) ((rd_T28 x1 x6).f0.f1) ((rd_T28 x1 x6).f1.f0)).bind fun bt1074=>(power_Poly.l0 k x1 (wrap64 (x6 - 1)) x1064000 x1064001 x1064002 bt1074.1 bt1074.2.1 bt1074.2.2)) else (none)) else (none))) else (some (x1066000,x1066001,x1066002))
def power_Poly.f (k:Nat) (l0_0:List Int) (a0_1:Bool) (l0_2:List Int) (l1:List (S28)):Option (List Int×Bool×List Int):=power_Poly.l0 k l1 (wrap64 ((l1.length:Int) - 1)) l0_0 a0_1 l0_2 ([]:List Int) false ([]:List Int)
theorem power_Poly.mono_l : ∀ k,(∀ y0 y1 y2 y3 y4 y5 y6 y7,LeO (power_Poly.l0 k y0 y1 y2 y3 y4 y5 y6 y7) (power_Poly.l0 (k + 1) y0 y1 y2 y3 y4 y5 y6 y7))
  | 0=>fun _ _ _ _ _ _ _ _ r h=>by simp [power_Poly.l0] at h
  | k + 1=>by
    have ih0:=power_Poly.mono_l k
    · intro y0 y1 y2 y3 y4 y5 y6 y7
      unfold power_Poly.l0
      repeat' first
      | (with_reducible exact ih0 _ _ _ _ _ _ _ _)
      | (with_reducible exact frac_Frac_Add.mono _ _ _ _ _ _ _)
      | (with_reducible exact frac_Frac_Mul.mono _ _ _ _ _ _ _)
      | (with_reducible exact LeO.refl _)
      | (with_reducible exact LeO.none _)
      | (with_reducible refine LeO.ite ?_ ?_)
      | (with_reducible refine LeO.bind ?_ (fun _=>?_))
      | exact ih0 _ _ _ _ _ _ _ _
      | exact frac_Frac_Add.mono _ _ _ _ _ _ _
      | exact frac_Frac_Mul.mono _ _ _ _ _ _ _
      | exact LeO.none _
      | refine LeO.ite ?_ ?_
      | refine LeO.bind ?_ (fun _=>?_)
theorem power_Poly.mono : ∀ a0 a1 a2 a3 k,LeO (power_Poly.f k a0 a1 a2 a3) (power_Poly.f (k + 1) a0 a1 a2 a3):=by
  intro a0 a1 a2 a3 k
  have ih0:=power_Poly.mono_l k
  unfold power_Poly.f
  repeat' first
      | (with_reducible exact ih0 _ _ _ _ _ _ _ _)
      | (with_reducible exact frac_Frac_Add.mono _ _ _ _ _ _ _)
      | (with_reducible exact frac_Frac_Mul.mono _ _ _ _ _ _ _)
      | (with_reducible exact LeO.refl _)
      | (with_reducible exact LeO.none _)
      | (with_reducible refine LeO.ite ?_ ?_)
      | (with_reducible refine LeO.bind ?_ (fun _=>?_))
      | exact ih0 _ _ _ _ _ _ _ _
      | exact frac_Frac_Add.mono _ _ _ _ _ _ _
      | exact frac_Frac_Mul.mono _ _ _ _ _ _ _
      | exact LeO.none _
      | refine LeO.ite ?_ ?_
      | refine LeO.bind ?_ (fun _=>?_)
def frac_Frac_Neg.f (l0_0:List Int) (a0_1:Bool) (l0_2:List Int):Option (List Int×Bool×List Int):=(whole_Int_Neg.f l0_0 a0_1).bind fun bt1083=>(some (bt1083.1,bt1083.2,l0_2))
def chattellaw13_wakes.f (k:Nat):Option (Bool):=(chattellaw13_of.f k 1000 1).bind fun bt1087=>((chattellaw13_of.f k 1 10).bind fun bt1103=>((power_Level.f k bt1087.1 bt1087.2.1 bt1087.2.2.1 bt1103.1 bt1103.2.1 bt1103.2.2.1 2).bind fun bt1119=>((power_Pow.f k bt1103.1 bt1103.2.1 bt1103.2.2.1 3).bind fun bt1128=>((frac_Frac_Neg.f bt1103.1 bt1103.2.1 bt1103.2.2.1).bind fun bt1137=>((power_Level.f k bt1087.1 bt1087.2.1 bt1087.2.2.1 bt1137.1 bt1137.2.1 bt1137.2.2 2).bind fun bt1144=>(if bt1119.2.2.2=0 then ((frac_Frac_Print.f k bt1119.1 bt1119.2.1 bt1119.2.2.1).bind fun t1153=>(if t1153.toList=([49,50,49,48,48,47,50,49]:List UInt8) then (if bt1128.2.2.2=0 then ((frac_Frac_Print.f k bt1128.1 bt1128.2.1 bt1128.2.2.1).bind fun t1154=>(if t1154.toList=([49,47,49,48,48,48]:List UInt8) then (if bt1144.2.2.2=18 then ((power_Poly.f k bt1103.1 bt1103.2.1 bt1103.2.2.1 (([(⟨(⟨(⟨bt1087.1⟩:S24),bt1087.2.1⟩:S26),(⟨bt1087.2.2.1⟩:S24)⟩:S28),(⟨(⟨(⟨bt1087.1⟩:S24),bt1087.2.1⟩:S26),(⟨bt1087.2.2.1⟩:S24)⟩:S28)]:List (S28)))).bind fun bt1158=>((frac_Frac_Print.f k bt1158.1 bt1158.2.1 bt1158.2.2).bind fun t1165=>(some (t1165.toList == ([49,49,48,48]:List UInt8))))) else (some false)) else (some false))) else (some false)) else (some false))) else (some false)))))))
theorem chattellaw13_wakes.mono : ∀ k,LeO (chattellaw13_wakes.f k) (chattellaw13_wakes.f (k + 1)):=by
  intro  k
  unfold chattellaw13_wakes.f
  repeat' first
      | (with_reducible exact chattellaw13_of.mono _ _ _)
      | (with_reducible exact frac_Frac_Print.mono _ _ _ _)
      | (with_reducible exact power_Level.mono _ _ _ _ _ _ _ _)
      | (with_reducible exact power_Poly.mono _ _ _ _ _)
      | (with_reducible exact power_Pow.mono _ _ _ _ _)
      | (with_reducible exact LeO.refl _)
      | (with_reducible exact LeO.none _)
      | (with_reducible refine LeO.ite ?_ ?_)
      | (with_reducible refine LeO.bind ?_ (fun _=>?_))
      | exact chattellaw13_of.mono _ _ _
      | exact frac_Frac_Print.mono _ _ _ _
      | exact power_Level.mono _ _ _ _ _ _ _ _
      | exact power_Poly.mono _ _ _ _ _
      | exact power_Pow.mono _ _ _ _ _
      | exact LeO.none _
      | refine LeO.ite ?_ ?_
      | refine LeO.bind ?_ (fun _=>?_)
def whole_Int_Sub.f (k:Nat) (l0_0:List Int) (a0_1:Bool) (l1_0:List Int) (a1_1:Bool):Option (List Int×Bool):=(whole_Int_Neg.f l1_0 a1_1).bind fun bt1483=>((whole_Int_Add.f k l0_0 a0_1 bt1483.1 bt1483.2).bind fun bt1487=>(some (bt1487.1,bt1487.2)))
def whole_Int_Cmp.f (k:Nat) (l0_0:List Int) (a0_1:Bool) (l1_0:List Int) (a1_1:Bool):Option (Int):=(whole_Int_Sub.f k l0_0 a0_1 l1_0 a1_1).bind fun bt1493=>((whole_Int_Sign.f bt1493.1 bt1493.2).bind fun t1497=>(some t1497))
def frac_Frac_Cmp.f (k:Nat) (l0_0:List Int) (a0_1:Bool) (l0_2:List Int) (l1_0:List Int) (a1_1:Bool) (l1_2:List Int):Option (Int):=(frac_Frac_den.f k l1_0 a1_1 l1_2).bind fun bt1500=>((whole_Int_Mul.f k l0_0 a0_1 bt1500.1 bt1500.2).bind fun bt1504=>((frac_Frac_den.f k l0_0 a0_1 l0_2).bind fun bt1508=>((whole_Int_Mul.f k l1_0 a1_1 bt1508.1 bt1508.2).bind fun bt1512=>((whole_Int_Cmp.f k bt1504.1 bt1504.2 bt1512.1 bt1512.2).bind fun t1516=>(some t1516)))))
def chattellaw13_PowerAdds.j0:Nat→Int→Int→Int→Int→Int→Int→List Int→Bool→List Int→List Int→Bool→List Int→List Int→Bool→List Int→List Int→Bool→List Int→List Int→Bool→List Int→List Int→Bool→List Int→List Int→Bool→List Int→List Int→Bool→List Int→Option (Bool)
  | 0,_,_,_,_,_,_,_,_,_,_,_,_,_,_,_,_,_,_,_,_,_,_,_,_,_,_,_,_,_,_=>none
  | k + 1,x12,x14,x16,x18,x20,x22,x1810000,x1810001,x1810002,x1836000,x1836001,x1836002,x1845000,x1845001,x1845002,x1854000,x1854001,x1854002,x1863000,x1863001,x1863002,x1879000,x1879001,x1879002,x1894000,x1894001,x1894002,x1896000,x1896001,x1896002=>(power_Level.f k x1810000 x1810001 x1810002 x1896000 x1896001 x1896002 (wrap64 (1 + x12))).bind fun bt1904=>((frac_Frac_Mul.f k x1810000 x1810001 x1810002 x1894000 x1894001 x1894002).bind fun bt1913=>((power_Level.f k bt1913.1 bt1913.2.1 bt1913.2.2 x1896000 x1896001 x1896002 (wrap64 (1 + x12))).bind fun bt1920=>((chattellaw13_wakes.f k).bind fun t1929=>(if t1929=true then (if x14=0 then (if x16=0 then (if x18=0 then (if x20=0 then (if x22=0 then (if bt1904.2.2.2=0 then (if bt1920.2.2.2=0 then ((frac_Frac_Mul.f k x1836000 x1836001 x1836002 x1845000 x1845001 x1845002).bind fun bt1930=>((frac_Frac_Cmp.f k bt1930.1 bt1930.2.1 bt1930.2.2 x1854000 x1854001 x1854002).bind fun t1937=>(if t1937=0 then ((frac_Frac_Mul.f k x1836000 x1836001 x1836002 x1863000 x1863001 x1863002).bind fun bt1938=>((frac_Frac_Cmp.f k bt1938.1 bt1938.2.1 bt1938.2.2 x1879000 x1879001 x1879002).bind fun t1945=>(if t1945=0 then ((frac_Frac_Mul.f k bt1904.1 bt1904.2.1 bt1904.2.2.1 x1894000 x1894001 x1894002).bind fun bt1946=>((frac_Frac_Cmp.f k bt1946.1 bt1946.2.1 bt1946.2.2 bt1920.1 bt1920.2.1 bt1920.2.2.1).bind fun t1953=>(some (t1953 == 0)))) else (some false)))) else (some false)))) else (some false)) else (some false)) else (some false)) else (some false)) else (some false)) else (some false)) else (some false)) else (some false)))))
def chattellaw13_PowerAdds.f (k:Nat) (a0_0:Int) (a0_1:Int) (a0_2:Int) (a0_3:Int) (a0_4:Int) (a0_5:Int):Option (Bool):=(chattellaw13_of.f k (wrap64 (a0_0)) (wrap64 (1 + (mx 0 (wrap64 (a0_1)))))).bind fun bt1795=>((chattellaw13_of.f k (wrap64 (a0_2)) (wrap64 (1 + (mx 0 (wrap64 (a0_3)))))).bind fun bt1811=>((power_Pow.f k bt1795.1 bt1795.2.1 bt1795.2.2.1 (wrap64 (Int.tmod a0_4 20))).bind fun bt1827=>((power_Pow.f k bt1795.1 bt1795.2.1 bt1795.2.2.1 (wrap64 (Int.tmod a0_5 20))).bind fun bt1836=>((power_Pow.f k bt1795.1 bt1795.2.1 bt1795.2.2.1 (wrap64 ((wrap64 (Int.tmod a0_4 20)) + (wrap64 (Int.tmod a0_5 20))))).bind fun bt1845=>((power_Pow.f k bt1811.1 bt1811.2.1 bt1811.2.2.1 (wrap64 (Int.tmod a0_4 20))).bind fun bt1854=>((frac_Frac_Mul.f k bt1795.1 bt1795.2.1 bt1795.2.2.1 bt1811.1 bt1811.2.1 bt1811.2.2.1).bind fun bt1863=>((power_Pow.f k bt1863.1 bt1863.2.1 bt1863.2.2 (wrap64 (Int.tmod a0_4 20))).bind fun bt1870=>((chattellaw13_of.f k 2 1).bind fun bt1879=>((frac_Frac_Sign.f bt1811.1 bt1811.2.1 bt1811.2.2.1).bind fun t1896=>(if t1896 < 0 then ((frac_Frac_Neg.f bt1811.1 bt1811.2.1 bt1811.2.2.1).bind fun bt1897=>(chattellaw13_PowerAdds.j0 k (wrap64 (Int.tmod a0_5 20)) bt1827.2.2.2 bt1836.2.2.2 bt1845.2.2.2 bt1854.2.2.2 bt1870.2.2.2 bt1795.1 bt1795.2.1 bt1795.2.2.1 bt1827.1 bt1827.2.1 bt1827.2.2.1 bt1836.1 bt1836.2.1 bt1836.2.2.1 bt1845.1 bt1845.2.1 bt1845.2.2.1 bt1854.1 bt1854.2.1 bt1854.2.2.1 bt1870.1 bt1870.2.1 bt1870.2.2.1 bt1879.1 bt1879.2.1 bt1879.2.2.1 bt1897.1 bt1897.2.1 bt1897.2.2)) else (chattellaw13_PowerAdds.j0 k (wrap64 (Int.tmod a0_5 20)) bt1827.2.2.2 bt1836.2.2.2 bt1845.2.2.2 bt1854.2.2.2 bt1870.2.2.2 bt1795.1 bt1795.2.1 bt1795.2.2.1 bt1827.1 bt1827.2.1 bt1827.2.2.1 bt1836.1 bt1836.2.1 bt1836.2.2.1 bt1845.1 bt1845.2.1 bt1845.2.2.1 bt1854.1 bt1854.2.1 bt1854.2.2.1 bt1870.1 bt1870.2.1 bt1870.2.2.1 bt1879.1 bt1879.2.1 bt1879.2.2.1 bt1811.1 bt1811.2.1 bt1811.2.2.1)))))))))))
end Go.Proofs.Ytiikhhemgplocaa.F
