import Derived.Test.YtakidmbnkkhojaaGreatProg
import Derived.Test.YtakidmbnkkhojaaGreatC942WWords
import Derived.Test.YtakidmbnkkhojaaGreatC942WLast
import Derived.Test.YtakidmbnkkhojaaGreatC942WTab
import Derived.Test.YtakidmbnkkhojaaGreatC942WApart
import Derived.Test.YtakidmbnkkhojaaGreatC942WArr
import Derived.Test.YtakidmbnkkhojaaGreatC942WFoot
import Derived.Test.YtakidmbnkkhojaaGreatC942WKept
import Derived.Test.YtakidmbnkkhojaaGreatC942WShare
import Derived.Test.YtakidmbnkkhojaaGreatC942WN
import Derived.Test.YtakidmbnkkhojaaGreatC942WEqStruct
import Derived.Test.YtakidmbnkkhojaaGreatC942WRepsOne
import Derived.Test.YtakidmbnkkhojaaGreatC942WMore
import Derived.Laws.Externs
import Derived.WalkKit
import Derived.Tactics
import Derived.KernelRfl
import Derived.RowKit3
namespace Go.Proofs.YtakidmbnkkhojaaGreatX
open Go.RowKit Go.Proofs.YtakidmbnkkhojaaGreatW.PrintWords Go.Proofs.YtakidmbnkkhojaaGreatW.PrintLast Go.Proofs.YtakidmbnkkhojaaGreatW.PrintMore
set_option linter.unusedVariables false
set_option linter.unusedSimpArgs false
def add64s (x y c:Int):Int:=(((x.toNat + y.toNat + c.toNat) % 18446744073709551616:Nat):Int)
def add64c (x y c:Int):Int:=(((x.toNat + y.toNat + c.toNat) / 18446744073709551616:Nat):Int)
def sub64d (x y c:Int):Int:=(((x.toNat + 18446744073709551616 - y.toNat - c.toNat) % 18446744073709551616:Nat):Int)
def sub64b (x y c:Int):Int:=((if x.toNat < y.toNat + c.toNat then 1 else 0:Nat):Int)
def sub64Row:Array Value→Sem Value:=fun args=>do
  let (x,y,b)←Extern.MathBitsCarry.three "Sub64" args
  pure (Extern.MathBitsCarry.pair ((x + Extern.MathBitsCarry.m64 - y - b) % Extern.MathBitsCarry.m64) (if x < y + b then 1 else 0))
theorem carry_cases {c:Int} {p:Int→Prop} (h:c≤1) (h0:p 0) (h1:p 1) (hn : ∀ n,p (Int.negSucc n)):p c:=by
  match c,h with
  | Int.ofNat 0,_=>exact h0
  | Int.ofNat 1,_=>exact h1
  | Int.ofNat (n + 2),h=>exact absurd h (by simp;omega)
  | Int.negSucc n,_=>exact hn n
theorem add64_entry {P:Program} (x y c:Int) (h:c≤1) (w:World) :
    (add64Entry #[.int .u64 x, .int .u64 y, .int .u64 c]).run P w = .ok (.tuple #[.int .u64 (add64s x y c), .int .u64 (add64c x y c)]) w :=
  carry_cases (p:=fun c=>(add64Entry #[.int .u64 x, .int .u64 y, .int .u64 c]).run P w = .ok (.tuple #[.int .u64 (add64s x y c), .int .u64 (add64c x y c)]) w) h rfl rfl (fun _=>rfl)
theorem sub64_entry {P:Program} (x y c:Int) (h:c≤1) (w:World) :
    (sub64Row #[.int .u64 x, .int .u64 y, .int .u64 c]).run P w = .ok (.tuple #[.int .u64 (sub64d x y c), .int .u64 (sub64b x y c)]) w :=
  carry_cases (p:=fun c=>(sub64Row #[.int .u64 x, .int .u64 y, .int .u64 c]).run P w = .ok (.tuple #[.int .u64 (sub64d x y c), .int .u64 (sub64b x y c)]) w) h rfl rfl (fun _=>rfl)
theorem xrun_add64 (x y c:Int) (h:c≤1) (w:World):(callFunc 128 #[.int .u64 x, .int .u64 y, .int .u64 c]).run Tryz.prog w = .ok (.value (.tuple #[.int .u64 (add64s x y c), .int .u64 (add64c x y c)])) w:=by
  rw [run_callFunc_extern Tryz.func128 (by kernel_rfl) (by kernel_rfl) (by kernel_rfl) (e:=add64Entry) (by kernel_rfl),add64_entry x y c h]
  rfl
theorem xrun_sub64 (x y c:Int) (h:c≤1) (w:World):(callFunc 123 #[.int .u64 x, .int .u64 y, .int .u64 c]).run Tryz.prog w = .ok (.value (.tuple #[.int .u64 (sub64d x y c), .int .u64 (sub64b x y c)])) w:=by
  rw [run_callFunc_extern Tryz.func123 (by kernel_rfl) (by kernel_rfl) (by kernel_rfl) (e:=sub64Row) (by kernel_rfl),sub64_entry x y c h]
  rfl
structure XD where
  pre:List Int
  post:List Int
  size:Nat
section
variable {k : IntKind} {D : XD} {e : Nat} {w w1 : World} {base : Nat} {ok ok' : Nat → Prop} {v : Value} {xs : List Int}
end
class Fw (W W':World):Prop where
  le:Below W.heap.size W W'
instance fw_refl (W:World):Fw W W:=⟨Below.refl _ _⟩
instance fw_alloc (W W':World) (o:Obj) [h:Fw W W']:Fw W (W'.alloc o):=⟨below_alloc h.le o⟩
instance fw_drewN (W W':World) (n:Nat) [h:Fw W W']:Fw W (W'.drewN n):=⟨pw_below_drewN h.le n⟩
instance fw_drew (W W':World) [h:Fw W W']:Fw W W'.drew:=⟨below_drew h.le⟩
theorem vb {α:Type} {d:Kd α} {e base:Nat} {W W' w1:World} {ok:Nat→Prop} {v:Value} {xs:List α} [f:Fw W W'] (h:Kd.V d e W base ok v xs) (hb:Below W'.heap.size W' w1):Kd.V d e w1 base ok v xs:=Kd.V_below (Kd.V_below h f.le) hb
theorem bb {g:Nat} {o:Obj} {W W' w1:World} [f:Fw W W'] (h:W.heap[g]?=some o) (hb:Below W'.heap.size W' w1):w1.heap[g]?=some o:=blk_below (blk_below h f.le) hb
theorem cv {α:Type} {d:Kd α} {e base n c:Nat} {W W':World} {ok:Nat→Prop} {A:Option Addr} {xs:List α} [f:Fw W W'] (h:Kd.V d e W base ok (.slice A n c) xs):Kd.C d W' A xs.length xs:=(Kd.V_reads' (Kd.V_below h f.le)).2.2
theorem bs {w W W' w2:World} [f:Fw W W'] (h:Below w.heap.size w W) (hb:Below W'.heap.size W' w2):Below w.heap.size w w2:=below_step (below_step h f.le) hb
theorem bz {w W W':World} [f:Fw W W'] (h:Below w.heap.size w W):w.heap.size≤W'.heap.size:=below_size (below_step h f.le)
def fl (a m:Nat) (ex:List Nat):Array Bool:=((List.range m).map fun i=>decide (i < a) || ex.contains i).toArray
theorem run_index_arr {P:Program} (t e:TypeId) (k kk:IntKind) (l:List Int) (i:Int) (h:P.underlying t=some (.array l.length e)) (hz:(P.info? e).map (·.size)=some 1) (hu : ∃ q,P.underlying e=some (.int q)) (h0:0≤i) (h1:i < l.length) (W:World) :
    (Instr.index t (.agg (l.map (Value.int kk)).toArray) (.int k i)).run P W = .ok (.int kk (rd l i)) W:=by
  obtain ⟨q,hq⟩:=hu
  obtain ⟨info,hi,hs⟩:=Option.map_eq_some_iff.mp hz
  have hg:l[i.toNat]'(by omega)=rd l i:=by
    unfold rd
    rw [List.getD_eq_getElem?_getD,List.getElem?_eq_getElem (by omega)]
    rfl
  simp [Instr.index,run_underlying h,asIntOf,h0,h1,sizeOf,typeInfo,hi,hs,part,isAgg,run_underlying hq]
  exact hg
theorem cell_some {w:World} {a b:Addr} {v:Value}:((w.setCell b v).cell? a).isSome=(w.cell? a).isSome:=by
  unfold World.cell? World.setCell
  simp only [Array.getElem?_modify]
  by_cases h:b.block=a.block
  · rw [if_pos h]
    rcases hw:w.heap[a.block]? with _|o
    · rfl
    · cases o with
      | cells c e fr =>
        simp only [Option.map_some]
        by_cases hs:a.spot.isSome
        · simp [hs]
        · simp only [if_neg hs]
          by_cases hb:b.spot.isSome
          · simp [hb]
          · simp only [if_neg hb,Array.getElem?_setIfInBounds]
            by_cases ho:b.off=a.off
            · rw [if_pos ho]
              by_cases hz:b.off < c.size
              · rw [if_pos hz,ho] at *
                rw [Array.getElem?_eq_getElem (by omega)]
                rfl
              · rw [if_neg hz,Array.getElem?_eq_none (by omega)]
            · rw [if_neg ho]
      | _=>rfl
  · rw [if_neg h]
end Go.Proofs.YtakidmbnkkhojaaGreatX
